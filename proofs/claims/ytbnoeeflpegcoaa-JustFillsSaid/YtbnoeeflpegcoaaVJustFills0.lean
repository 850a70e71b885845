/- Printed by a program: Lean functions that answer as the Go functions do, and the proofs of it. -/
import Derived.Test.YtbnoeeflpegcoaaProg
import Derived.Below
import Derived.Deep.Draws
import Derived.Deep.AppendLies
import Derived.Maps.AppendAt
import Derived.OwnWalk
import Derived.Laws.BytesArg
import Derived.Laws.MakeOwn
import Derived.Laws.OwnMore
import Derived.Deep.OwnRows
import Derived.Tactics
import Derived.Lib.ConvBytes
import Derived.Laws.Slices
import Derived.WalkKit
import Derived.KernelRfl
import Derived.RowKit3
import Derived.Deep.LoopGhost
import Derived.Deep.QuietTactic
import Derived.BigQuiet
import Derived.WideLaws
import Derived.Deep.DeepCutAuto
import Derived.Deep.CutBlock
import Derived.Deep.RegionHeld3
import Derived.Laws.Rows
import Derived.Lib.AppendStr
import Derived.ArgAppend
import Derived.Laws.IdiomCopy
import Derived.OrdersHeld
import Derived.Laws.BitsLemmas
import Derived.RowKit
import Derived.Laws.FloatArith
import Derived.Test.YtbnoeeflpegcoaaXJustFills0
section
namespace Go.Proofs.Ytbnoeeflpegcoaa.F
open Go.RowKit Go.Proofs.YtbnoeeflpegcoaaW.PrintWords Go.Proofs.YtbnoeeflpegcoaaW.PrintLast Go.Proofs.YtbnoeeflpegcoaaW.PrintMore
attribute [local go_sem] max2_int min2_int max_two min_two max_three min_three max_four min_four   -- for this text's walks alone
set_option linter.unusedVariables false
set_option linter.unusedSimpArgs false
def errW : Option Int → Value
  | none => .nilIface
  | some c => .iface 0 (.int .i64 c)
theorem errW_none : errW none = .nilIface := rfl
theorem errW_some (c : Int) : errW (some c) = .iface 0 (.int .i64 c) := rfl
theorem info3 : (Try.prog.info? 3).map (fun i => (i.zero, i.size, i.bytes)) = some (some (.int .i64 0), 1, 8) := by kernel_rfl
theorem info41 : (Try.prog.info? 41).map (fun i => (i.zero, i.size, i.bytes)) = some (some (.agg #[(.int .i64 0), (.int .i64 0), (.int .i64 0), (.int .u8 0)]), 4, 32) := by kernel_rfl
theorem info46 : (Try.prog.info? 46).map (fun i => (i.zero, i.size, i.bytes)) = some (some (.int .u8 0), 1, 1) := by kernel_rfl
theorem info50 : (Try.prog.info? 50).map (fun i => (i.zero, i.size, i.bytes)) = some (some (.agg #[(.int .u8 0), (.int .u8 0), (.int .u8 0), (.int .u8 0)]), 4, 4) := by kernel_rfl
theorem info63 : (Try.prog.info? 63).map (fun i => (i.zero, i.size, i.bytes)) = some (some (.agg #[(.int .i64 0), (.int .i64 0), (.int .i64 0), (.int .u8 0)]), 4, 32) := by kernel_rfl
structure S50 where
  f0 : Int
  f1 : Int
  f2 : Int
  f3 : Int
def z50 : S50 := ⟨(0 : Int), (0 : Int), (0 : Int), (0 : Int)⟩
def k50 : Kd S50 := Kd.iso (Kd.pair (Kd.int .u8) (Kd.pair (Kd.int .u8) (Kd.pair (Kd.int .u8) (Kd.int .u8)))) (fun x : S50 => (x.f0, x.f1, x.f2, x.f3))
theorem k50_open {w : World} {x : S50} {cs : List Value} (h : k50.K w x cs) : cs = [.int .u8 x.f0, .int .u8 x.f1, .int .u8 x.f2, .int .u8 x.f3] := by
  obtain ⟨_, _, rfl, rfl, ⟨_, _, rfl, rfl, ⟨_, _, rfl, rfl, rfl⟩⟩⟩ := h; exact rfl
theorem k50_openM {w : World} {base : Nat} {ok : Nat → Prop} {x : S50} {cs : List Value} (h : k50.M w base ok x cs) : cs = [.int .u8 x.f0, .int .u8 x.f1, .int .u8 x.f2, .int .u8 x.f3] := by
  obtain ⟨_, _, rfl, rfl, ⟨_, _, rfl, rfl, ⟨_, _, rfl, rfl, rfl⟩⟩⟩ := h; exact rfl
theorem k50_mk (w : World) (x : S50)  : k50.K w x [.int .u8 x.f0, .int .u8 x.f1, .int .u8 x.f2, .int .u8 x.f3] := ⟨[.int .u8 x.f0], [.int .u8 x.f1, .int .u8 x.f2, .int .u8 x.f3], rfl, rfl, ⟨[.int .u8 x.f1], [.int .u8 x.f2, .int .u8 x.f3], rfl, rfl, ⟨[.int .u8 x.f2], [.int .u8 x.f3], rfl, rfl, rfl⟩⟩⟩
theorem k50_mkM (w : World) (base : Nat) (ok : Nat → Prop) (x : S50)  : k50.M w base ok x [.int .u8 x.f0, .int .u8 x.f1, .int .u8 x.f2, .int .u8 x.f3] := ⟨[.int .u8 x.f0], [.int .u8 x.f1, .int .u8 x.f2, .int .u8 x.f3], rfl, rfl, ⟨[.int .u8 x.f1], [.int .u8 x.f2, .int .u8 x.f3], rfl, rfl, ⟨[.int .u8 x.f2], [.int .u8 x.f3], rfl, rfl, rfl⟩⟩⟩
def rd_T50 (xs : List S50) (i : Int) : S50 := xs.getD i.toNat z50
theorem at_T50 {w : World} {A : Option Addr} {n : Nat} {xs : List S50} (h : Kd.C k50 w A n xs) (i : Int) (h0 : 0 ≤ i) (h1 : i < n) : ∃ ad , A = some ad ∧ w.cell? (ad.add (i.toNat * 4)) = some (.int .u8 (rd_T50 xs i).f0) ∧ w.cell? ⟨(ad.add (i.toNat * 4)).block, (ad.add (i.toNat * 4)).off + 1, none⟩ = some (.int .u8 (rd_T50 xs i).f1) ∧ w.cell? ⟨(ad.add (i.toNat * 4)).block, (ad.add (i.toNat * 4)).off + 2, none⟩ = some (.int .u8 (rd_T50 xs i).f2) ∧ w.cell? ⟨(ad.add (i.toNat * 4)).block, (ad.add (i.toNat * 4)).off + 3, none⟩ = some (.int .u8 (rd_T50 xs i).f3) := by
  obtain ⟨ad, c, e, _, hK, hc0⟩ := Kd.C_get h z50 i h0 h1; have hc : ∀ j u, c[j]? = some u → w.cell? (ad.add (i.toNat * 4 + j)) = some u := hc0
  obtain rfl := k50_open hK
  exact ⟨ad, e, hc 0 _ rfl, by rw [← add_field _ _ 1 (by omega)]; exact hc 1 _ rfl, by rw [← add_field _ _ 2 (by omega)]; exact hc 2 _ rfl, by rw [← add_field _ _ 3 (by omega)]; exact hc 3 _ rfl⟩
structure S41 where
  f0 : Int
  f1 : Int
  f2 : Int
  f3 : Int
def z41 : S41 := ⟨(0 : Int), (0 : Int), (0 : Int), (0 : Int)⟩
def k41 : Kd S41 := Kd.iso (Kd.pair (Kd.int .i64) (Kd.pair (Kd.int .i64) (Kd.pair (Kd.int .i64) (Kd.int .u8)))) (fun x : S41 => (x.f0, x.f1, x.f2, x.f3))
theorem k41_open {w : World} {x : S41} {cs : List Value} (h : k41.K w x cs) : cs = [.int .i64 x.f0, .int .i64 x.f1, .int .i64 x.f2, .int .u8 x.f3] := by
  obtain ⟨_, _, rfl, rfl, ⟨_, _, rfl, rfl, ⟨_, _, rfl, rfl, rfl⟩⟩⟩ := h; exact rfl
theorem k41_openM {w : World} {base : Nat} {ok : Nat → Prop} {x : S41} {cs : List Value} (h : k41.M w base ok x cs) : cs = [.int .i64 x.f0, .int .i64 x.f1, .int .i64 x.f2, .int .u8 x.f3] := by
  obtain ⟨_, _, rfl, rfl, ⟨_, _, rfl, rfl, ⟨_, _, rfl, rfl, rfl⟩⟩⟩ := h; exact rfl
theorem k41_mk (w : World) (x : S41)  : k41.K w x [.int .i64 x.f0, .int .i64 x.f1, .int .i64 x.f2, .int .u8 x.f3] := ⟨[.int .i64 x.f0], [.int .i64 x.f1, .int .i64 x.f2, .int .u8 x.f3], rfl, rfl, ⟨[.int .i64 x.f1], [.int .i64 x.f2, .int .u8 x.f3], rfl, rfl, ⟨[.int .i64 x.f2], [.int .u8 x.f3], rfl, rfl, rfl⟩⟩⟩
theorem k41_mkM (w : World) (base : Nat) (ok : Nat → Prop) (x : S41)  : k41.M w base ok x [.int .i64 x.f0, .int .i64 x.f1, .int .i64 x.f2, .int .u8 x.f3] := ⟨[.int .i64 x.f0], [.int .i64 x.f1, .int .i64 x.f2, .int .u8 x.f3], rfl, rfl, ⟨[.int .i64 x.f1], [.int .i64 x.f2, .int .u8 x.f3], rfl, rfl, ⟨[.int .i64 x.f2], [.int .u8 x.f3], rfl, rfl, rfl⟩⟩⟩
def rd_T41 (xs : List S41) (i : Int) : S41 := xs.getD i.toNat z41
theorem at_T41 {w : World} {A : Option Addr} {n : Nat} {xs : List S41} (h : Kd.C k41 w A n xs) (i : Int) (h0 : 0 ≤ i) (h1 : i < n) : ∃ ad , A = some ad ∧ w.cell? (ad.add (i.toNat * 4)) = some (.int .i64 (rd_T41 xs i).f0) ∧ w.cell? ⟨(ad.add (i.toNat * 4)).block, (ad.add (i.toNat * 4)).off + 1, none⟩ = some (.int .i64 (rd_T41 xs i).f1) ∧ w.cell? ⟨(ad.add (i.toNat * 4)).block, (ad.add (i.toNat * 4)).off + 2, none⟩ = some (.int .i64 (rd_T41 xs i).f2) ∧ w.cell? ⟨(ad.add (i.toNat * 4)).block, (ad.add (i.toNat * 4)).off + 3, none⟩ = some (.int .u8 (rd_T41 xs i).f3) := by
  obtain ⟨ad, c, e, _, hK, hc0⟩ := Kd.C_get h z41 i h0 h1; have hc : ∀ j u, c[j]? = some u → w.cell? (ad.add (i.toNat * 4 + j)) = some u := hc0
  obtain rfl := k41_open hK
  exact ⟨ad, e, hc 0 _ rfl, by rw [← add_field _ _ 1 (by omega)]; exact hc 1 _ rfl, by rw [← add_field _ _ 2 (by omega)]; exact hc 2 _ rfl, by rw [← add_field _ _ 3 (by omega)]; exact hc 3 _ rfl⟩
def rd_L4 (xs : List (List S50)) (i : Int) : (List S50) := xs.getD i.toNat ([] : List S50)
theorem at_L4 {w : World} {A : Option Addr} {n : Nat} {xs : List (List S50)} (h : Kd.C (Kd.slice 50 k50) w A n xs) (i : Int) (h0 : 0 ≤ i) (h1 : i < n) : ∃ ad A0 c0, A = some ad ∧ w.cell? (ad.add i.toNat) = some (.slice A0 (rd_L4 xs i).length c0) ∧ (rd_L4 xs i).length ≤ c0 ∧ k50.C w A0 (rd_L4 xs i).length (rd_L4 xs i) := by
  obtain ⟨ad, c, e, _, hK, hc0⟩ := Kd.C_get h ([] : List S50) i h0 h1; have hc : ∀ j u, c[j]? = some u → w.cell? (ad.add (i.toNat * 1 + j)) = some u := hc0
  obtain ⟨A0, c0, rfl, l0, g0⟩ := hK; exact ⟨ad, A0, c0, e, by have hq := hc 0 _ rfl; rwa [Nat.mul_one, Nat.add_zero] at hq, l0, g0⟩
def rd_L5 (xs : List (List Int)) (i : Int) : (List Int) := xs.getD i.toNat ([] : List Int)
theorem at_L5 {w : World} {A : Option Addr} {n : Nat} {xs : List (List Int)} (h : Kd.C (Kd.slice 5 (Kd.int .u8)) w A n xs) (i : Int) (h0 : 0 ≤ i) (h1 : i < n) : ∃ ad A0 c0, A = some ad ∧ w.cell? (ad.add i.toNat) = some (.slice A0 (rd_L5 xs i).length c0) ∧ (rd_L5 xs i).length ≤ c0 ∧ (Kd.int .u8).C w A0 (rd_L5 xs i).length (rd_L5 xs i) := by
  obtain ⟨ad, c, e, _, hK, hc0⟩ := Kd.C_get h ([] : List Int) i h0 h1; have hc : ∀ j u, c[j]? = some u → w.cell? (ad.add (i.toNat * 1 + j)) = some u := hc0
  obtain ⟨A0, c0, rfl, l0, g0⟩ := hK; exact ⟨ad, A0, c0, e, by have hq := hc 0 _ rfl; rwa [Nat.mul_one, Nat.add_zero] at hq, l0, g0⟩
structure S58 where
  f0 : Int
  f1 : Int
  f2 : Int
  f3 : Int
  f4 : Int
  f5 : Nat
def z58 : S58 := ⟨(0 : Int), (0 : Int), (0 : Int), (0 : Int), (0 : Int), (0 : Nat)⟩
def k58 : Kd S58 := Kd.iso (Kd.pair (Kd.int .i64) (Kd.pair (Kd.int .i64) (Kd.pair (Kd.int .u8) (Kd.pair (Kd.int .i64) (Kd.pair (Kd.int .i64) Kd.f64))))) (fun x : S58 => (x.f0, x.f1, x.f2, x.f3, x.f4, x.f5))
theorem k58_open {w : World} {x : S58} {cs : List Value} (h : k58.K w x cs) : cs = [.int .i64 x.f0, .int .i64 x.f1, .int .u8 x.f2, .int .i64 x.f3, .int .i64 x.f4, .float .f64 x.f5] := by
  obtain ⟨_, _, rfl, rfl, ⟨_, _, rfl, rfl, ⟨_, _, rfl, rfl, ⟨_, _, rfl, rfl, ⟨_, _, rfl, rfl, rfl⟩⟩⟩⟩⟩ := h; exact rfl
theorem k58_openM {w : World} {base : Nat} {ok : Nat → Prop} {x : S58} {cs : List Value} (h : k58.M w base ok x cs) : cs = [.int .i64 x.f0, .int .i64 x.f1, .int .u8 x.f2, .int .i64 x.f3, .int .i64 x.f4, .float .f64 x.f5] := by
  obtain ⟨_, _, rfl, rfl, ⟨_, _, rfl, rfl, ⟨_, _, rfl, rfl, ⟨_, _, rfl, rfl, ⟨_, _, rfl, rfl, rfl⟩⟩⟩⟩⟩ := h; exact rfl
theorem k58_mk (w : World) (x : S58)  : k58.K w x [.int .i64 x.f0, .int .i64 x.f1, .int .u8 x.f2, .int .i64 x.f3, .int .i64 x.f4, .float .f64 x.f5] := ⟨[.int .i64 x.f0], [.int .i64 x.f1, .int .u8 x.f2, .int .i64 x.f3, .int .i64 x.f4, .float .f64 x.f5], rfl, rfl, ⟨[.int .i64 x.f1], [.int .u8 x.f2, .int .i64 x.f3, .int .i64 x.f4, .float .f64 x.f5], rfl, rfl, ⟨[.int .u8 x.f2], [.int .i64 x.f3, .int .i64 x.f4, .float .f64 x.f5], rfl, rfl, ⟨[.int .i64 x.f3], [.int .i64 x.f4, .float .f64 x.f5], rfl, rfl, ⟨[.int .i64 x.f4], [.float .f64 x.f5], rfl, rfl, rfl⟩⟩⟩⟩⟩
theorem k58_mkM (w : World) (base : Nat) (ok : Nat → Prop) (x : S58)  : k58.M w base ok x [.int .i64 x.f0, .int .i64 x.f1, .int .u8 x.f2, .int .i64 x.f3, .int .i64 x.f4, .float .f64 x.f5] := ⟨[.int .i64 x.f0], [.int .i64 x.f1, .int .u8 x.f2, .int .i64 x.f3, .int .i64 x.f4, .float .f64 x.f5], rfl, rfl, ⟨[.int .i64 x.f1], [.int .u8 x.f2, .int .i64 x.f3, .int .i64 x.f4, .float .f64 x.f5], rfl, rfl, ⟨[.int .u8 x.f2], [.int .i64 x.f3, .int .i64 x.f4, .float .f64 x.f5], rfl, rfl, ⟨[.int .i64 x.f3], [.int .i64 x.f4, .float .f64 x.f5], rfl, rfl, ⟨[.int .i64 x.f4], [.float .f64 x.f5], rfl, rfl, rfl⟩⟩⟩⟩⟩
def rd_T58 (xs : List S58) (i : Int) : S58 := xs.getD i.toNat z58
theorem at_T58 {w : World} {A : Option Addr} {n : Nat} {xs : List S58} (h : Kd.C k58 w A n xs) (i : Int) (h0 : 0 ≤ i) (h1 : i < n) : ∃ ad , A = some ad ∧ w.cell? (ad.add (i.toNat * 6)) = some (.int .i64 (rd_T58 xs i).f0) ∧ w.cell? ⟨(ad.add (i.toNat * 6)).block, (ad.add (i.toNat * 6)).off + 1, none⟩ = some (.int .i64 (rd_T58 xs i).f1) ∧ w.cell? ⟨(ad.add (i.toNat * 6)).block, (ad.add (i.toNat * 6)).off + 2, none⟩ = some (.int .u8 (rd_T58 xs i).f2) ∧ w.cell? ⟨(ad.add (i.toNat * 6)).block, (ad.add (i.toNat * 6)).off + 3, none⟩ = some (.int .i64 (rd_T58 xs i).f3) ∧ w.cell? ⟨(ad.add (i.toNat * 6)).block, (ad.add (i.toNat * 6)).off + 4, none⟩ = some (.int .i64 (rd_T58 xs i).f4) ∧ w.cell? ⟨(ad.add (i.toNat * 6)).block, (ad.add (i.toNat * 6)).off + 5, none⟩ = some (.float .f64 (rd_T58 xs i).f5) := by
  obtain ⟨ad, c, e, _, hK, hc0⟩ := Kd.C_get h z58 i h0 h1; have hc : ∀ j u, c[j]? = some u → w.cell? (ad.add (i.toNat * 6 + j)) = some u := hc0
  obtain rfl := k58_open hK
  exact ⟨ad, e, hc 0 _ rfl, by rw [← add_field _ _ 1 (by omega)]; exact hc 1 _ rfl, by rw [← add_field _ _ 2 (by omega)]; exact hc 2 _ rfl, by rw [← add_field _ _ 3 (by omega)]; exact hc 3 _ rfl, by rw [← add_field _ _ 4 (by omega)]; exact hc 4 _ rfl, by rw [← add_field _ _ 5 (by omega)]; exact hc 5 _ rfl⟩
structure S63 where
  f0 : Int
  f1 : Int
  f2 : Int
  f3 : Int
def z63 : S63 := ⟨(0 : Int), (0 : Int), (0 : Int), (0 : Int)⟩
def k63 : Kd S63 := Kd.iso (Kd.pair (Kd.int .i64) (Kd.pair (Kd.int .i64) (Kd.pair (Kd.int .i64) (Kd.int .u8)))) (fun x : S63 => (x.f0, x.f1, x.f2, x.f3))
theorem k63_open {w : World} {x : S63} {cs : List Value} (h : k63.K w x cs) : cs = [.int .i64 x.f0, .int .i64 x.f1, .int .i64 x.f2, .int .u8 x.f3] := by
  obtain ⟨_, _, rfl, rfl, ⟨_, _, rfl, rfl, ⟨_, _, rfl, rfl, rfl⟩⟩⟩ := h; exact rfl
theorem k63_openM {w : World} {base : Nat} {ok : Nat → Prop} {x : S63} {cs : List Value} (h : k63.M w base ok x cs) : cs = [.int .i64 x.f0, .int .i64 x.f1, .int .i64 x.f2, .int .u8 x.f3] := by
  obtain ⟨_, _, rfl, rfl, ⟨_, _, rfl, rfl, ⟨_, _, rfl, rfl, rfl⟩⟩⟩ := h; exact rfl
theorem k63_mk (w : World) (x : S63)  : k63.K w x [.int .i64 x.f0, .int .i64 x.f1, .int .i64 x.f2, .int .u8 x.f3] := ⟨[.int .i64 x.f0], [.int .i64 x.f1, .int .i64 x.f2, .int .u8 x.f3], rfl, rfl, ⟨[.int .i64 x.f1], [.int .i64 x.f2, .int .u8 x.f3], rfl, rfl, ⟨[.int .i64 x.f2], [.int .u8 x.f3], rfl, rfl, rfl⟩⟩⟩
theorem k63_mkM (w : World) (base : Nat) (ok : Nat → Prop) (x : S63)  : k63.M w base ok x [.int .i64 x.f0, .int .i64 x.f1, .int .i64 x.f2, .int .u8 x.f3] := ⟨[.int .i64 x.f0], [.int .i64 x.f1, .int .i64 x.f2, .int .u8 x.f3], rfl, rfl, ⟨[.int .i64 x.f1], [.int .i64 x.f2, .int .u8 x.f3], rfl, rfl, ⟨[.int .i64 x.f2], [.int .u8 x.f3], rfl, rfl, rfl⟩⟩⟩
def rd_T63 (xs : List S63) (i : Int) : S63 := xs.getD i.toNat z63
theorem at_T63 {w : World} {A : Option Addr} {n : Nat} {xs : List S63} (h : Kd.C k63 w A n xs) (i : Int) (h0 : 0 ≤ i) (h1 : i < n) : ∃ ad , A = some ad ∧ w.cell? (ad.add (i.toNat * 4)) = some (.int .i64 (rd_T63 xs i).f0) ∧ w.cell? ⟨(ad.add (i.toNat * 4)).block, (ad.add (i.toNat * 4)).off + 1, none⟩ = some (.int .i64 (rd_T63 xs i).f1) ∧ w.cell? ⟨(ad.add (i.toNat * 4)).block, (ad.add (i.toNat * 4)).off + 2, none⟩ = some (.int .i64 (rd_T63 xs i).f2) ∧ w.cell? ⟨(ad.add (i.toNat * 4)).block, (ad.add (i.toNat * 4)).off + 3, none⟩ = some (.int .u8 (rd_T63 xs i).f3) := by
  obtain ⟨ad, c, e, _, hK, hc0⟩ := Kd.C_get h z63 i h0 h1; have hc : ∀ j u, c[j]? = some u → w.cell? (ad.add (i.toNat * 4 + j)) = some u := hc0
  obtain rfl := k63_open hK
  exact ⟨ad, e, hc 0 _ rfl, by rw [← add_field _ _ 1 (by omega)]; exact hc 1 _ rfl, by rw [← add_field _ _ 2 (by omega)]; exact hc 2 _ rfl, by rw [← add_field _ _ 3 (by omega)]; exact hc 3 _ rfl⟩
structure S67 where
  f0 : Int
  f1 : Int
  f2 : Int
  f3 : Int
  f4 : Int
  f5 : Nat
def z67 : S67 := ⟨(0 : Int), (0 : Int), (0 : Int), (0 : Int), (0 : Int), (0 : Nat)⟩
def k67 : Kd S67 := Kd.iso (Kd.pair (Kd.int .u8) (Kd.pair (Kd.int .u8) (Kd.pair (Kd.int .u8) (Kd.pair (Kd.int .u16) (Kd.pair (Kd.int .u16) Kd.f64))))) (fun x : S67 => (x.f0, x.f1, x.f2, x.f3, x.f4, x.f5))
theorem k67_open {w : World} {x : S67} {cs : List Value} (h : k67.K w x cs) : cs = [.int .u8 x.f0, .int .u8 x.f1, .int .u8 x.f2, .int .u16 x.f3, .int .u16 x.f4, .float .f64 x.f5] := by
  obtain ⟨_, _, rfl, rfl, ⟨_, _, rfl, rfl, ⟨_, _, rfl, rfl, ⟨_, _, rfl, rfl, ⟨_, _, rfl, rfl, rfl⟩⟩⟩⟩⟩ := h; exact rfl
theorem k67_openM {w : World} {base : Nat} {ok : Nat → Prop} {x : S67} {cs : List Value} (h : k67.M w base ok x cs) : cs = [.int .u8 x.f0, .int .u8 x.f1, .int .u8 x.f2, .int .u16 x.f3, .int .u16 x.f4, .float .f64 x.f5] := by
  obtain ⟨_, _, rfl, rfl, ⟨_, _, rfl, rfl, ⟨_, _, rfl, rfl, ⟨_, _, rfl, rfl, ⟨_, _, rfl, rfl, rfl⟩⟩⟩⟩⟩ := h; exact rfl
theorem k67_mk (w : World) (x : S67)  : k67.K w x [.int .u8 x.f0, .int .u8 x.f1, .int .u8 x.f2, .int .u16 x.f3, .int .u16 x.f4, .float .f64 x.f5] := ⟨[.int .u8 x.f0], [.int .u8 x.f1, .int .u8 x.f2, .int .u16 x.f3, .int .u16 x.f4, .float .f64 x.f5], rfl, rfl, ⟨[.int .u8 x.f1], [.int .u8 x.f2, .int .u16 x.f3, .int .u16 x.f4, .float .f64 x.f5], rfl, rfl, ⟨[.int .u8 x.f2], [.int .u16 x.f3, .int .u16 x.f4, .float .f64 x.f5], rfl, rfl, ⟨[.int .u16 x.f3], [.int .u16 x.f4, .float .f64 x.f5], rfl, rfl, ⟨[.int .u16 x.f4], [.float .f64 x.f5], rfl, rfl, rfl⟩⟩⟩⟩⟩
theorem k67_mkM (w : World) (base : Nat) (ok : Nat → Prop) (x : S67)  : k67.M w base ok x [.int .u8 x.f0, .int .u8 x.f1, .int .u8 x.f2, .int .u16 x.f3, .int .u16 x.f4, .float .f64 x.f5] := ⟨[.int .u8 x.f0], [.int .u8 x.f1, .int .u8 x.f2, .int .u16 x.f3, .int .u16 x.f4, .float .f64 x.f5], rfl, rfl, ⟨[.int .u8 x.f1], [.int .u8 x.f2, .int .u16 x.f3, .int .u16 x.f4, .float .f64 x.f5], rfl, rfl, ⟨[.int .u8 x.f2], [.int .u16 x.f3, .int .u16 x.f4, .float .f64 x.f5], rfl, rfl, ⟨[.int .u16 x.f3], [.int .u16 x.f4, .float .f64 x.f5], rfl, rfl, ⟨[.int .u16 x.f4], [.float .f64 x.f5], rfl, rfl, rfl⟩⟩⟩⟩⟩
def rd_T67 (xs : List S67) (i : Int) : S67 := xs.getD i.toNat z67
theorem at_T67 {w : World} {A : Option Addr} {n : Nat} {xs : List S67} (h : Kd.C k67 w A n xs) (i : Int) (h0 : 0 ≤ i) (h1 : i < n) : ∃ ad , A = some ad ∧ w.cell? (ad.add (i.toNat * 6)) = some (.int .u8 (rd_T67 xs i).f0) ∧ w.cell? ⟨(ad.add (i.toNat * 6)).block, (ad.add (i.toNat * 6)).off + 1, none⟩ = some (.int .u8 (rd_T67 xs i).f1) ∧ w.cell? ⟨(ad.add (i.toNat * 6)).block, (ad.add (i.toNat * 6)).off + 2, none⟩ = some (.int .u8 (rd_T67 xs i).f2) ∧ w.cell? ⟨(ad.add (i.toNat * 6)).block, (ad.add (i.toNat * 6)).off + 3, none⟩ = some (.int .u16 (rd_T67 xs i).f3) ∧ w.cell? ⟨(ad.add (i.toNat * 6)).block, (ad.add (i.toNat * 6)).off + 4, none⟩ = some (.int .u16 (rd_T67 xs i).f4) ∧ w.cell? ⟨(ad.add (i.toNat * 6)).block, (ad.add (i.toNat * 6)).off + 5, none⟩ = some (.float .f64 (rd_T67 xs i).f5) := by
  obtain ⟨ad, c, e, _, hK, hc0⟩ := Kd.C_get h z67 i h0 h1; have hc : ∀ j u, c[j]? = some u → w.cell? (ad.add (i.toNat * 6 + j)) = some u := hc0
  obtain rfl := k67_open hK
  exact ⟨ad, e, hc 0 _ rfl, by rw [← add_field _ _ 1 (by omega)]; exact hc 1 _ rfl, by rw [← add_field _ _ 2 (by omega)]; exact hc 2 _ rfl, by rw [← add_field _ _ 3 (by omega)]; exact hc 3 _ rfl, by rw [← add_field _ _ 4 (by omega)]; exact hc 4 _ rfl, by rw [← add_field _ _ 5 (by omega)]; exact hc 5 _ rfl⟩
end Go.Proofs.Ytbnoeeflpegcoaa.F
end
section
namespace Go.Proofs.Ytbnoeeflpegcoaa.F
open Go.RowKit Go.Proofs.YtbnoeeflpegcoaaW.PrintWords Go.Proofs.YtbnoeeflpegcoaaW.PrintLast Go.Proofs.YtbnoeeflpegcoaaW.PrintMore
attribute [local go_sem] max2_int min2_int max_two min_two max_three min_three max_four min_four   -- for this text's walks alone
set_option linter.unusedVariables false
set_option linter.unusedSimpArgs false
def stanzaref01_SameInts.l0 : Nat → List Int → List Int → Int → Option (Bool)
  | 0, _, _, _ => none
  | k + 1, x0, x1, x5 => if x5 < (x0.length : Int) then (if 0 ≤ x5 then (if x5 < (x1.length : Int) then (if (rd x0 x5) = (rd x1 x5) then (stanzaref01_SameInts.l0 k x0 x1 (wrap64 (x5 + 1))) else (some false)) else (none)) else (none)) else (some true)
def stanzaref01_SameInts.f (k : Nat) (l0 : List Int) (l1 : List Int) : Option (Bool) := if (l0.length : Int) = (l1.length : Int) then (stanzaref01_SameInts.l0 k l0 l1 0) else (some false)
theorem stanzaref01_SameInts.mono_l : ∀ k, (∀ y0 y1 y2, LeO (stanzaref01_SameInts.l0 k y0 y1 y2) (stanzaref01_SameInts.l0 (k + 1) y0 y1 y2))
  | 0 => fun _ _ _ r h => by simp [stanzaref01_SameInts.l0] at h
  | k + 1 => by
    have ih0 := stanzaref01_SameInts.mono_l k
    · intro y0 y1 y2
      unfold stanzaref01_SameInts.l0
      repeat' first
      | (with_reducible exact ih0 _ _ _)
      | (with_reducible exact LeO.refl _)
      | (with_reducible exact LeO.none _)
      | (with_reducible refine LeO.ite ?_ ?_)
      | (with_reducible refine LeO.bind ?_ (fun _ => ?_))
      | exact ih0 _ _ _
      | exact LeO.none _
      | refine LeO.ite ?_ ?_
      | refine LeO.bind ?_ (fun _ => ?_)
theorem stanzaref01_SameInts.mono : ∀ a0 a1 k, LeO (stanzaref01_SameInts.f k a0 a1) (stanzaref01_SameInts.f (k + 1) a0 a1) := by
  intro a0 a1 k
  have ih0 := stanzaref01_SameInts.mono_l k; unfold stanzaref01_SameInts.f
  repeat' first
      | (with_reducible exact ih0 _ _ _)
      | (with_reducible exact LeO.refl _)
      | (with_reducible exact LeO.none _)
      | (with_reducible refine LeO.ite ?_ ?_)
      | (with_reducible refine LeO.bind ?_ (fun _ => ?_))
      | exact ih0 _ _ _
      | exact LeO.none _
      | refine LeO.ite ?_ ?_
      | refine LeO.bind ?_ (fun _ => ?_)
set_option maxHeartbeats 8000000 in
set_option maxRecDepth 100000 in
theorem stanzaref01_SameInts.calls (k : Nat) (A0 : Option Addr) (c0 : Nat) (l0 : List Int) (A1 : Option Addr) (c1 : Nat) (l1 : List Int) (r : Bool) (w : World) (hr0 : Kd.C (Kd.int .i64) w A0 l0.length l0) (hc0 : l0.length ≤ c0) (hr1 : Kd.C (Kd.int .i64) w A1 l1.length l1) (hc1 : l1.length ≤ c1) (h : stanzaref01_SameInts.f k l0 l1 = some r) :
    Calls Try.prog 15 #[.slice A0 l0.length c0, .slice A1 l1.length c1] w fun e w' => e = .returned (.bool r) ∧ Drawn0 w w' := by
  have HR0 := zA.mk hr0; have HC0 := zA.mk hc0; clear hr0 hc0; have HR1 := zA.mk hr1; have HC1 := zA.mk hc1; clear hr1 hc1; have H : (if (l0.length : Int) = (l1.length : Int) then (stanzaref01_SameInts.l0 k l0 l1 0) else (some false)) = some r := h
  clear h; by_cases c3 : (l0.length : Int) = (l1.length : Int)
  · rw [if_pos c3] at H
    have c3b0 : ((l0.length : Int) == (l1.length : Int)) = true := beq_iff_eq.mpr c3
    have c3b1 : ((l0.length : Int) != (l1.length : Int)) = false := bne_eq_false_iff_eq.mpr c3
    have c3b2 : (l0.length == l1.length) = true := by first | simpa using c3 | (simp at c3 ⊢; omega)
    clear c3; have H' := zA.mk H
    clear H; go_enter Try.func15, Try.ntmps15
    go_wp2
    repeat (go_quiet (fail); try go_wp2)
    go_loopg [5] k (fun kq v5 w' => ∃ (x5_1 : Int), v5 = .int .i64 x5_1 ∧ zA (stanzaref01_SameInts.l0 kq l0 l1 x5_1 = some r) ∧ zA (kq ≤ k) ∧ Drawn0 w w')
    case atStart => exact ⟨(0), (by first | rfl | (simp; done) | (simp [*]; done)), H', ⟨Nat.le_refl _⟩, by repeat (first | exact Drawn0.refl _ | apply Drawn0.step)⟩
    case round =>
      clear H'; try clear c1
      try clear p2
      try clear c3
      try clear c3b0
      try clear c3b1
      try clear c3b2
      obtain ⟨x5_1, rfl, HA, HK1, ⟨m1, rfl⟩⟩ := hrel; cases gk with
      | zero => exact absurd HA.out (by simp [stanzaref01_SameInts.l0])
      | succ k1 =>
        have H := HA.out; clear HA; simp only [stanzaref01_SameInts.l0] at H; by_cases c4 : x5_1 < (l0.length : Int)
        · rw [if_pos c4] at H
          have c4b0 : decide (x5_1 < (l0.length : Int)) = true := decide_eq_true c4
          clear c4; by_cases c5 : 0 ≤ x5_1
          · rw [if_pos c5] at H
            have c5b0 : decide (0 ≤ x5_1) = true := decide_eq_true c5
            clear c5; by_cases c6 : x5_1 < (l1.length : Int)
            · rw [if_pos c6] at H
              have c6b0 : decide (x5_1 < (l1.length : Int)) = true := decide_eq_true c6
              clear c6; by_cases c7 : (rd l0 x5_1) = (rd l1 x5_1)
              · rw [if_pos c7] at H
                have c7b0 : ((rd l0 x5_1) == (rd l1 x5_1)) = true := beq_iff_eq.mpr c7
                have c7b1 : ((rd l0 x5_1) != (rd l1 x5_1)) = false := bne_eq_false_iff_eq.mpr c7
                clear c7; have H' := zA.mk H
                clear H; have p101 : 0 ≤ (x5_1 : Int) := of_decide_eq_true (by first | (with_reducible assumption) | assumption)
                have q101 : x5_1 < (l0.length : Int) := of_decide_eq_true (by first | (with_reducible assumption) | assumption)
                obtain ⟨ad101, e101, hx101_0⟩ := Kd.at_int HR0.out x5_1 p101 q101; cases e101
                replace p101 := eq_true p101; replace q101 := eq_true q101; have p102 : 0 ≤ (x5_1 : Int) := of_decide_eq_true (by first | (with_reducible assumption) | assumption)
                have q102 : x5_1 < (l1.length : Int) := of_decide_eq_true (by first | (with_reducible assumption) | assumption)
                obtain ⟨ad102, e102, hx102_0⟩ := Kd.at_int HR1.out x5_1 p102 q102; cases e102
                replace p102 := eq_true p102; replace q102 := eq_true q102; go_wp2
                repeat (go_quiet (fail); try go_wp2)
                go_roundg k1
                case measure => have := HK1.out; omega
                case rel => exact ⟨(wrap64 (x5_1 + 1)), (by first | rfl | (simp; done) | (simp [*]; done)), H', ⟨by have := HK1.out; omega⟩, by repeat (first | exact Drawn0.refl _ | apply Drawn0.step)⟩
              · rw [if_neg c7] at H
                have c7b0 : ((rd l0 x5_1) == (rd l1 x5_1)) = false := beq_eq_false_iff_ne.mpr c7
                have c7b1 : ((rd l0 x5_1) != (rd l1 x5_1)) = true := bne_iff_ne.mpr c7
                obtain rfl := Option.some.inj H
                have p101 : 0 ≤ (x5_1 : Int) := of_decide_eq_true (by first | (with_reducible assumption) | assumption)
                have q101 : x5_1 < (l0.length : Int) := of_decide_eq_true (by first | (with_reducible assumption) | assumption)
                obtain ⟨ad101, e101, hx101_0⟩ := Kd.at_int HR0.out x5_1 p101 q101; cases e101
                replace p101 := eq_true p101; replace q101 := eq_true q101; have p102 : 0 ≤ (x5_1 : Int) := of_decide_eq_true (by first | (with_reducible assumption) | assumption)
                have q102 : x5_1 < (l1.length : Int) := of_decide_eq_true (by first | (with_reducible assumption) | assumption)
                obtain ⟨ad102, e102, hx102_0⟩ := Kd.at_int HR1.out x5_1 p102 q102; cases e102
                replace p102 := eq_true p102; replace q102 := eq_true q102; go_wp2
                repeat (go_quiet (fail); try go_wp2)
                go_ret
                exact ⟨by first | rfl | (simp; done) | (simp [*]; done), by repeat (first | exact Drawn0.refl _ | apply Drawn0.step)⟩
            · rw [if_neg c6] at H
              exact absurd H (by simp)
          · rw [if_neg c5] at H
            exact absurd H (by simp)
        · rw [if_neg c4] at H
          have c4b0 : decide (x5_1 < (l0.length : Int)) = false := decide_eq_false c4
          clear c4; obtain rfl := Option.some.inj H
          go_wp2
          repeat (go_quiet (fail); try go_wp2)
          go_ret
          exact ⟨by first | rfl | (simp; done) | (simp [*]; done), by repeat (first | exact Drawn0.refl _ | apply Drawn0.step)⟩
  · rw [if_neg c3] at H
    have c3b0 : ((l0.length : Int) == (l1.length : Int)) = false := beq_eq_false_iff_ne.mpr c3
    have c3b1 : ((l0.length : Int) != (l1.length : Int)) = true := bne_iff_ne.mpr c3
    have c3b2 : (l0.length == l1.length) = false := by first | simpa using c3 | (simp at c3 ⊢; omega)
    obtain rfl := Option.some.inj H
    go_enter Try.func15, Try.ntmps15
    go_wp2
    repeat (go_quiet (fail); try go_wp2)
    go_ret
    exact ⟨by first | rfl | (simp; done) | (simp [*]; done), by repeat (first | exact Drawn0.refl _ | apply Drawn0.step)⟩
end Go.Proofs.Ytbnoeeflpegcoaa.F
end
section
namespace Go.Proofs.Ytbnoeeflpegcoaa.F
open Go.RowKit Go.Proofs.YtbnoeeflpegcoaaW.PrintWords Go.Proofs.YtbnoeeflpegcoaaW.PrintLast Go.Proofs.YtbnoeeflpegcoaaW.PrintMore
attribute [local go_sem] max2_int min2_int max_two min_two max_three min_three max_four min_four   -- for this text's walks alone
set_option linter.unusedVariables false
set_option linter.unusedSimpArgs false
mutual
def just_Spread.j0 : Nat → Int → Int → Bool → Option (List Int)
  | 0, _, _, _ => none
  | k + 1, x0, x1, x20 => if x20 = true then (some ([] : List Int)) else (if 0 ≤ x1 then (if (x1 : Int).toNat ≤ 35184372088832 then ((some (List.replicate (x1 : Int).toNat 0 : List Int)).bind fun y103 => (just_Spread.l0 k x0 x1 y103 (y103.length : Int) 0)) else (none)) else (none))
def just_Spread.l0 : Nat → Int → Int → List Int → Int → Int → Option (List Int)
  | 0, _, _, _, _, _ => none
  | k + 1, x0, x1, x5, x24, x25 => if x25 < x24 then (if x1 = 0 then (none) else (if 0 ≤ x25 then (if x25 < (x5.length : Int) then (just_Spread.l0 k x0 x1 (x5.set (x25 : Int).toNat (wrap64 ((wrap64 (Int.tdiv (wrap64 (x0 * (wrap64 (x25 + 1)))) x1)) - (wrap64 (Int.tdiv (wrap64 (x0 * x25)) x1))))) x24 (wrap64 (x25 + 1))) else (none)) else (none))) else (some x5)
end
def just_Spread.f (k : Nat) (a0 : Int) (a1 : Int) : Option (List Int) := if a0 < 0 then (just_Spread.j0 k a0 a1 true) else (if a0 > 1048576 then (just_Spread.j0 k a0 a1 true) else (if a1 < 1 then (just_Spread.j0 k a0 a1 true) else (just_Spread.j0 k a0 a1 (decide (a1 > 4096)))))
theorem just_Spread.mono_l : ∀ k, (∀ y0 y1 y2, LeO (just_Spread.j0 k y0 y1 y2) (just_Spread.j0 (k + 1) y0 y1 y2)) ∧ (∀ y0 y1 y2 y3 y4, LeO (just_Spread.l0 k y0 y1 y2 y3 y4) (just_Spread.l0 (k + 1) y0 y1 y2 y3 y4))
  | 0 => ⟨fun _ _ _ r h => by simp [just_Spread.j0] at h, fun _ _ _ _ _ r h => by simp [just_Spread.l0] at h⟩
  | k + 1 => by
    obtain ⟨ih0, ih1⟩ := just_Spread.mono_l k; refine ⟨?_, ?_⟩
    · intro y0 y1 y2
      unfold just_Spread.j0
      repeat' first
      | (with_reducible exact ih0 _ _ _)
      | (with_reducible exact ih1 _ _ _ _ _)
      | (with_reducible exact LeO.refl _)
      | (with_reducible exact LeO.none _)
      | (with_reducible refine LeO.ite ?_ ?_)
      | (with_reducible refine LeO.bind ?_ (fun _ => ?_))
      | exact ih0 _ _ _
      | exact ih1 _ _ _ _ _
      | exact LeO.none _
      | refine LeO.ite ?_ ?_
      | refine LeO.bind ?_ (fun _ => ?_)
    · intro y0 y1 y2 y3 y4
      unfold just_Spread.l0
      repeat' first
      | (with_reducible exact ih0 _ _ _)
      | (with_reducible exact ih1 _ _ _ _ _)
      | (with_reducible exact LeO.refl _)
      | (with_reducible exact LeO.none _)
      | (with_reducible refine LeO.ite ?_ ?_)
      | (with_reducible refine LeO.bind ?_ (fun _ => ?_))
      | exact ih0 _ _ _
      | exact ih1 _ _ _ _ _
      | exact LeO.none _
      | refine LeO.ite ?_ ?_
      | refine LeO.bind ?_ (fun _ => ?_)
theorem just_Spread.mono : ∀ a0 a1 k, LeO (just_Spread.f k a0 a1) (just_Spread.f (k + 1) a0 a1) := by
  intro a0 a1 k
  obtain ⟨ih0, ih1⟩ := just_Spread.mono_l k; unfold just_Spread.f
  repeat' first
      | (with_reducible exact ih0 _ _ _)
      | (with_reducible exact ih1 _ _ _ _ _)
      | (with_reducible exact LeO.refl _)
      | (with_reducible exact LeO.none _)
      | (with_reducible refine LeO.ite ?_ ?_)
      | (with_reducible refine LeO.bind ?_ (fun _ => ?_))
      | exact ih0 _ _ _
      | exact ih1 _ _ _ _ _
      | exact LeO.none _
      | refine LeO.ite ?_ ?_
      | refine LeO.bind ?_ (fun _ => ?_)
def just_Spread.T7 : Bool × List (List Nat × List Nat) := (true, [([], []), ([], []), ([], []), ([], []), ([3], [3]), ([2, 4], [2, 4]), ([], []), ([5, 6], [5, 6]), ([], []), ([], []), ([8, 9], [8, 9]), ([], []), ([10, 11], [10, 11]), ([7, 12], [7, 12]), ([0, 1, 0, 1, 2, 3, 4, 5, 6, 7, 8, 9, 10, 11, 12, 13], [0, 1]), ([14, 13, 0, 1, 2, 3, 4, 5, 6, 7, 8, 9, 10, 11, 12, 13], [13, 14])])
def just_Spread.B7 : List Nat := [0, 0, 0, 0, 8, 28, 0, 124, 0, 0, 768, 0, 3840, 8188, 16383, 32767]
theorem just_Spread.tab7 : rtab .any (opsOf Try.f16 7) = just_Spread.T7 := by kernel_rfl
theorem just_Spread.bits7 : waitsOk just_Spread.T7.2 just_Spread.B7 = true := by kernel_rfl
set_option maxHeartbeats 8000000 in
set_option maxRecDepth 100000 in
theorem just_Spread.calls (k : Nat) (a0 : Int) (a1 : Int) (r : List Int) (w : World) (h : just_Spread.f k a0 a1 = some r) :
    Calls Try.prog 16 #[.int .i64 a0, .int .i64 a1] w fun e w' => ∃ v0_ : Value, e = .returned (v0_) ∧ Kd.R (Kd.int .i64) 3 w' w.heap.size (fun _ => True) v0_ r ∧ Below w.heap.size w w' := by
  have HB := zA.mk (Below.refl w.heap.size w); have H : (if a0 < 0 then (just_Spread.j0 k a0 a1 true) else (if a0 > 1048576 then (just_Spread.j0 k a0 a1 true) else (if a1 < 1 then (just_Spread.j0 k a0 a1 true) else (just_Spread.j0 k a0 a1 (decide (a1 > 4096)))))) = some r := h
  clear h; have HC3 := zA.mk H; clear H; go_enter Try.func16, Try.ntmps16
  go_upto_region 1 with (fail)
  go_cut [20] (fun v20 wc => ∃ (kq : Nat) (x20_2 : Bool), v20 = .bool x20_2 ∧ zA (just_Spread.j0 kq a0 a1 x20_2 = some r) ∧ zA (kq ≤ k) ∧ zA (Below w.heap.size w wc))
  case first =>
    have H := HC3.out; clear HC3; by_cases c4 : a0 < 0
    · rw [if_pos c4] at H
      have c4b0 : decide (a0 < 0) = true := decide_eq_true c4
      clear c4; (first | rw [c4b0] | (simp only [zM, zN]; rw [c4b0]) | skip)
      have H' := zA.mk H
      clear H; go_wp2
      go_meet
      case rel => exact ⟨_, (true), (by first | rfl | (simp; done) | (simp [*]; done)), H', ⟨by first | omega | exact Nat.le_refl _⟩, ⟨by repeat (first | (with_reducible first | exact HB.out | apply zI | apply zF | apply zH) | exact HB.out)⟩⟩
    · rw [if_neg c4] at H
      have c4b0 : decide (a0 < 0) = false := decide_eq_false c4
      clear c4; (first | rw [c4b0] | (simp only [zM, zN]; rw [c4b0]) | skip)
      by_cases c5 : a0 > 1048576
      · rw [if_pos c5] at H
        have c5b0 : decide (1048576 < a0) = true := decide_eq_true c5
        clear c5; have H' := zA.mk H
        clear H; go_wp2
        go_meet
        case rel => exact ⟨_, (true), (by first | rfl | (simp; done) | (simp [*]; done)), H', ⟨by first | omega | exact Nat.le_refl _⟩, ⟨by repeat (first | (with_reducible first | exact HB.out | apply zI | apply zF | apply zH) | exact HB.out)⟩⟩
      · rw [if_neg c5] at H
        have c5b0 : decide (1048576 < a0) = false := decide_eq_false c5
        clear c5; by_cases c6 : a1 < 1
        · rw [if_pos c6] at H
          have c6b0 : decide (a1 < 1) = true := decide_eq_true c6
          clear c6; have H' := zA.mk H
          clear H; go_wp2
          go_meet
          case rel => exact ⟨_, (true), (by first | rfl | (simp; done) | (simp [*]; done)), H', ⟨by first | omega | exact Nat.le_refl _⟩, ⟨by repeat (first | (with_reducible first | exact HB.out | apply zI | apply zF | apply zH) | exact HB.out)⟩⟩
        · rw [if_neg c6] at H
          have c6b0 : decide (a1 < 1) = false := decide_eq_false c6
          clear c6; have H' := zA.mk H
          clear H; go_wp2
          go_meet
          case rel => exact ⟨_, (decide (a1 > 4096)), (by first | rfl | (simp; done) | (simp [*]; done)), H', ⟨by first | omega | exact Nat.le_refl _⟩, ⟨by repeat (first | (with_reducible first | exact HB.out | apply zI | apply zF | apply zH) | exact HB.out)⟩⟩
  case rest =>
    clear HC3; try clear c1
    try clear p2
    try clear c4
    try clear c4b0
    try clear c5
    try clear c5b0
    try clear c6
    try clear c6b0
    obtain ⟨kq, x20_2, rfl, HA, HJ2, HB⟩ := hcut; cases kq with
    | zero => exact absurd HA.out (by simp [just_Spread.j0])
    | succ kj2 =>
      have H := HA.out; clear HA; simp only [just_Spread.j0] at H; by_cases c7 : x20_2 = true
      · subst c7
        have H1 : (some ([] : List Int)) = some r := by rw [if_pos rfl] at H; exact H
        clear H; have H := H1; clear H1; obtain rfl := Option.some.inj H
        go_wp2
        go_ret
        exact ⟨_, by first | rfl | (simp [errW_none, errW_some] <;> rfl) | (simp [*, errW_none, errW_some] <;> rfl), by first | exact Kd.R_nil _ _ _ _ _ | exact Kd.N_nil _ _ _ _ _ | exact Kd.V_nil _ _ _ _ _ | exact Kd.Q_nil _ _ _ _ _ | exact Kd.S_nil _ _ _ _ _, by repeat (first | (with_reducible first | exact HB.out | apply zI | apply zF | apply zH) | exact HB.out)⟩
      · replace c7 := Bool.eq_false_iff.mpr c7
        subst c7; have H1 : (if 0 ≤ a1 then (if (a1 : Int).toNat ≤ 35184372088832 then ((some (List.replicate (a1 : Int).toNat 0 : List Int)).bind fun y103 => (just_Spread.l0 kj2 a0 a1 y103 (y103.length : Int) 0)) else (none)) else (none)) = some r := by rw [if_neg (show ¬ (false = true) by decide)] at H; exact H
        clear H; have H := H1; clear H1; by_cases c8 : 0 ≤ a1
        · rw [if_pos c8] at H
          have c8b0 := eq_true c8; have c8b1 : decide (0 ≤ a1) = true := decide_eq_true c8
          clear c8; by_cases c9 : (a1 : Int).toNat ≤ 35184372088832
          · rw [if_pos c9] at H
            have c9b0 := eq_true c9; have c9b1 : decide ((a1 : Int).toNat ≤ 35184372088832) = true := decide_eq_true c9
            clear c9; obtain ⟨y103, hy103⟩ : ∃ y_ : List Int, y_ = (List.replicate (a1 : Int).toNat 0) := ⟨_, rfl⟩; replace H : (just_Spread.l0 kj2 a0 a1 y103 (y103.length : Int) 0) = some r := by first | (rw [hy103]; with_reducible exact H) | (have H2_ := (Option.bind_some _ _).symm.trans H; rw [hy103]; with_reducible exact H2_) | (have H2_ := (Option.bind_some _ _).symm.trans H; with_reducible exact H2_) | with_reducible exact H | (rw [hy103]; exact H) | exact H
            have Ny103 := zA.mk hy103; clear hy103; have H' := zA.mk H
            clear H; go_wp2_with (first | ((with_reducible refine gate_dst (N := 22) rfl ?_); refine Kd.R_make (Kd.int .i64) _ 3 rfl (N := 22) rfl 24 _ _ rfl a1 rfl rfl Try.underlying24 (.int .i64 0) 8 info3 rfl (by decide) (by omega) 0 (ok := fun _ => True) (okp := fun _ => True) rfl (fun _ hk => hk) trivial (of_decide_eq_true (by first | (with_reducible assumption) | assumption)) (Nat.le_trans (Nat.mul_le_mul_right _ (of_decide_eq_true (by first | (with_reducible assumption) | assumption) : a1.toNat ≤ 35184372088832)) (by omega)) (Below.refl _ _) (Nat.le_refl _) ?_; intro v104 w10 ho11 hb hg_ hnew_; clear hg_ hnew_; (first | rw [← Ny103.out] at ho11 | (simp only [Int.reduceToNat] at ho11; rw [← Ny103.out] at ho11)); have n0_ := zA.mk (Kd.R_lower ho11 (zK (by repeat (first | (with_reducible first | exact HB.out | apply zI | apply zF | apply zH) | exact HB.out)))); have n1_ := zA.mk (zO (by repeat (first | (with_reducible first | exact HB.out | apply zI | apply zF | apply zH) | exact HB.out)) hb); clear HB; have HO105 := n0_; have HB := n1_; clear n0_ n1_; clear hb ho11; obtain ⟨Ao12, co12, eo12⟩ := Kd.R_slice HO105.out; subst eo12))
            go_loopg [25] kj2 (fun kq v25 w' => ∃ (x5_2 : List Int) (x25_2 : Int), v25 = .int .i64 x25_2 ∧ zA (just_Spread.l0 kq a0 a1 x5_2 (y103.length : Int) x25_2 = some r) ∧ zA (kq ≤ kj2) ∧ zA (Kd.R (Kd.int .i64) 3 w' w.heap.size (fun _ => True) (.slice Ao12 y103.length co12) x5_2) ∧ zA (Below w.heap.size w w'))
            case atStart => exact ⟨(y103), (0), (by first | rfl | (simp; done) | (simp [*]; done)), H', ⟨Nat.le_refl _⟩, ⟨by (with_reducible repeat (first | apply Kd.R_alloc | apply Kd.R_drewN | apply Kd.R_drew)); exact HO105.out⟩, ⟨by repeat (first | (with_reducible first | exact HB.out | apply zI | apply zF | apply zH) | exact HB.out)⟩⟩
            case round =>
              clear H'; try clear c1
              try clear p2
              try clear c4
              try clear c4b0
              try clear c5
              try clear c5b0
              try clear c6
              try clear c6b0
              try clear c7
              try clear c8
              try clear c8b0
              try clear c8b1
              try clear c9
              try clear c9b0
              try clear c9b1
              try clear p2
              obtain ⟨x5_2, x25_2, rfl, HA, HK2, HO_5, HB⟩ := hrel; have hl5_2 := (Kd.R_reads' HO_5.out).1; rw [hl5_2] at HO_5; (try simp only [hl5_2])
              cases gk with
              | zero => exact absurd HA.out (by simp [just_Spread.l0])
              | succ k2 =>
                have H := HA.out; clear HA; simp only [just_Spread.l0] at H; by_cases c13 : x25_2 < (y103.length : Int)
                · rw [if_pos c13] at H
                  have c13b0 : decide (x25_2 < (y103.length : Int)) = true := decide_eq_true c13
                  (try simp only [hl5_2] at c13b0)
                  clear c13; by_cases c14 : a1 = 0
                  · rw [if_pos c14] at H
                    exact absurd H (by simp)
                  · rw [if_neg c14] at H
                    have c14b0 : (a1 == 0) = false := beq_eq_false_iff_ne.mpr c14
                    have c14b1 : (a1 != 0) = true := bne_iff_ne.mpr c14
                    by_cases c15 : 0 ≤ x25_2
                    · rw [if_pos c15] at H
                      have c15b0 : decide (0 ≤ x25_2) = true := decide_eq_true c15
                      clear c15; by_cases c16 : x25_2 < (x5_2.length : Int)
                      · rw [if_pos c16] at H
                        have c16b0 : decide (x25_2 < (x5_2.length : Int)) = true := decide_eq_true c16
                        (try simp only [hl5_2] at c16b0)
                        clear c16; obtain ⟨y106, hy106⟩ : ∃ y_ : List Int, y_ = (x5_2.set (x25_2 : Int).toNat (wrap64 ((wrap64 (Int.tdiv (wrap64 (a0 * (wrap64 (x25_2 + 1)))) a1)) - (wrap64 (Int.tdiv (wrap64 (a0 * x25_2)) a1))))) := ⟨_, rfl⟩; replace H : (just_Spread.l0 k2 a0 a1 y106 (y103.length : Int) (wrap64 (x25_2 + 1))) = some r := by first | (rw [hy106]; with_reducible exact H) | (have H2_ := (Option.bind_some _ _).symm.trans H; rw [hy106]; with_reducible exact H2_) | (have H2_ := (Option.bind_some _ _).symm.trans H; with_reducible exact H2_) | with_reducible exact H | (rw [hy106]; exact H) | exact H
                        have Ny106 := zA.mk hy106; clear hy106; have H' := zA.mk H
                        clear H; try go_wp2
                        have n0_ := zA.mk (Kd.R_drew HO_5.out); have n1_ := zA.mk (zH HB.out); clear HO_5; clear HB; have HO_5 := n0_; have HB := n1_; clear n0_ n1_; have p17 : 0 ≤ (x25_2 : Int) := of_decide_eq_true (by first | (with_reducible assumption) | assumption)
                        have q17 : (x25_2 : Int) < ((x5_2.length : Int) : Int) := of_decide_eq_true (by first | (with_reducible assumption) | assumption)
                        obtain ⟨go17, co17, eo17, gb17, gl17, cl17, HG17⟩ := Kd.R_form HO_5.out (by omega)
                        (first | cases eo17 | (injection eo17 with ea_ en_ ec_; (first | subst ea_ | (injection ea_ with ea_; subst ea_)); subst ec_; clear en_))
                        have GB17 := zA.mk gb17; have GG17 := zA.mk HG17; clear gb17 gl17 HG17; obtain ⟨hx17_0, hf17_0⟩ := Kd.R_celln 0 HO_5.out (x25_2 : Int) p17 q17; replace p17 := eq_true p17; replace q17 := eq_true q17; have HP19 := Kd.R_putn HO_5.out (x25_2 : Int) (wrap64 ((wrap64 (Int.tdiv (wrap64 (a0 * (wrap64 (x25_2 + 1)))) a1)) - (wrap64 (Int.tdiv (wrap64 (a0 * x25_2)) a1)))); rw [← Ny106.out] at HP19; have HQ19 := zA.mk HP19; clear HP19; refine start_ (n := 16) (S := fun w' => True) (ds := [15]) #[false, false, false, false, false, false, false, false, false, false, false, false, false, false, false, false] (by kernel_rfl) rfl rfl trivial (fun hHeld => ?_); refine with_tabW just_Spread.tab7 just_Spread.bits7 (fun HT_ HW_ => ?_)
                        generalize wr.drew = w18 at HO_5 HB GG17 HQ19 hf17_0 hx17_0 hHeld ⊢
                        refine pure_ (i := 0) (N := some 28) (v := ?_) (a' := ?_) #[true, false, false, false, false, false, false, false, false, false, false, false, false, false, false, false] rfl rfl (any_of HT_.out (by kernel_rfl)) (fun _ _ _ h => h) (Or.inl ⟨by rfl, ?_⟩) ?_ ?_
                        rotate_left
                        · intro w'
                          go_simp
                          with_reducible rfl
                        rotate_left
                        · simp only [Act.put, List.setIfInBounds_toArray, List.set_cons_zero, List.set_cons_succ, zM, zN]
                          rfl
                        refine pure_ (i := 1) (N := some 29) (v := ?_) (a' := ?_) #[true, true, false, false, false, false, false, false, false, false, false, false, false, false, false, false] rfl rfl (any_of HT_.out (by kernel_rfl)) (fun _ _ _ h => h) (Or.inl ⟨by rfl, ?_⟩) ?_ ?_
                        rotate_left
                        · intro w'
                          go_simp
                          with_reducible rfl
                        rotate_left
                        · simp only [Act.put, List.setIfInBounds_toArray, List.set_cons_zero, List.set_cons_succ, zM, zN]
                          rfl
                        refine pure_ (i := 2) (N := some 30) (v := ?_) (a' := ?_) #[true, true, true, false, false, false, false, false, false, false, false, false, false, false, false, false] rfl rfl (any_of HT_.out (by kernel_rfl)) (fun _ _ _ h => h) (Or.inl ⟨by rfl, ?_⟩) ?_ ?_
                        rotate_left
                        · intro w'
                          go_simp
                          with_reducible rfl
                        rotate_left
                        · simp only [Act.put, List.setIfInBounds_toArray, List.set_cons_zero, List.set_cons_succ, zM, zN]
                          rfl
                        refine pure_ (i := 3) (N := some 31) (v := ?_) (a' := ?_) #[true, true, true, true, false, false, false, false, false, false, false, false, false, false, false, false] rfl rfl (any_of HT_.out (by kernel_rfl)) (fun _ _ _ h => h) (Or.inl ⟨by rfl, ?_⟩) ?_ ?_
                        rotate_left
                        · intro w'
                          go_simp
                          with_reducible rfl
                        rotate_left
                        · simp only [Act.put, List.setIfInBounds_toArray, List.set_cons_zero, List.set_cons_succ, zM, zN]
                          rfl
                        refine pure_ (i := 4) (N := some 32) (v := ?_) (a' := ?_) #[true, true, true, true, true, false, false, false, false, false, false, false, false, false, false, false] rfl rfl (any_of HT_.out (by kernel_rfl)) (fun _ _ _ h => h) (Or.inl ⟨by rfl, ?_⟩) ?_ ?_
                        rotate_left
                        · intro w'
                          go_simp
                          with_reducible rfl
                        rotate_left
                        · simp only [Act.put, List.setIfInBounds_toArray, List.set_cons_zero, List.set_cons_succ, zM, zN]
                          rfl
                        refine pure_ (i := 5) (N := some 33) (v := ?_) (a' := ?_) #[true, true, true, true, true, true, false, false, false, false, false, false, false, false, false, false] rfl rfl (any_of HT_.out (by kernel_rfl)) (fun _ _ _ h => h) (Or.inl ⟨by rfl, ?_⟩) ?_ ?_
                        rotate_left
                        · intro w'
                          go_simp
                          with_reducible rfl
                        rotate_left
                        · simp only [Act.put, List.setIfInBounds_toArray, List.set_cons_zero, List.set_cons_succ, zM, zN]
                          rfl
                        refine pure_ (i := 6) (N := some 34) (v := ?_) (a' := ?_) #[true, true, true, true, true, true, true, false, false, false, false, false, false, false, false, false] rfl rfl (any_of HT_.out (by kernel_rfl)) (fun _ _ _ h => h) (Or.inl ⟨by rfl, ?_⟩) ?_ ?_
                        rotate_left
                        · intro w'
                          go_simp
                          with_reducible rfl
                        rotate_left
                        · simp only [Act.put, List.setIfInBounds_toArray, List.set_cons_zero, List.set_cons_succ, zM, zN]
                          rfl
                        refine pure_ (i := 7) (N := some 35) (v := ?_) (a' := ?_) #[true, true, true, true, true, true, true, true, false, false, false, false, false, false, false, false] rfl rfl (any_of HT_.out (by kernel_rfl)) (fun _ _ _ h => h) (Or.inl ⟨by rfl, ?_⟩) ?_ ?_
                        rotate_left
                        · intro w'
                          go_simp
                          with_reducible rfl
                        rotate_left
                        · simp only [Act.put, List.setIfInBounds_toArray, List.set_cons_zero, List.set_cons_succ, zM, zN]
                          rfl
                        refine pure_ (i := 8) (N := some 36) (v := ?_) (a' := ?_) #[true, true, true, true, true, true, true, true, true, false, false, false, false, false, false, false] rfl rfl (any_of HT_.out (by kernel_rfl)) (fun _ _ _ h => h) (Or.inl ⟨by rfl, ?_⟩) ?_ ?_
                        rotate_left
                        · intro w'
                          go_simp
                          with_reducible rfl
                        rotate_left
                        · simp only [Act.put, List.setIfInBounds_toArray, List.set_cons_zero, List.set_cons_succ, zM, zN]
                          rfl
                        refine pure_ (i := 9) (N := some 37) (v := ?_) (a' := ?_) #[true, true, true, true, true, true, true, true, true, true, false, false, false, false, false, false] rfl rfl (any_of HT_.out (by kernel_rfl)) (fun _ _ _ h => h) (Or.inl ⟨by rfl, ?_⟩) ?_ ?_
                        rotate_left
                        · intro w'
                          go_simp
                          with_reducible rfl
                        rotate_left
                        · simp only [Act.put, List.setIfInBounds_toArray, List.set_cons_zero, List.set_cons_succ, zM, zN]
                          rfl
                        refine pure_ (i := 10) (N := some 38) (v := ?_) (a' := ?_) #[true, true, true, true, true, true, true, true, true, true, true, false, false, false, false, false] rfl rfl (any_of HT_.out (by kernel_rfl)) (fun _ _ _ h => h) (Or.inl ⟨by rfl, ?_⟩) ?_ ?_
                        rotate_left
                        · intro w'
                          go_simp
                          with_reducible rfl
                        rotate_left
                        · simp only [Act.put, List.setIfInBounds_toArray, List.set_cons_zero, List.set_cons_succ, zM, zN]
                          rfl
                        refine pure_ (i := 11) (N := some 39) (v := ?_) (a' := ?_) #[true, true, true, true, true, true, true, true, true, true, true, true, false, false, false, false] rfl rfl (any_of HT_.out (by kernel_rfl)) (fun _ _ _ h => h) (Or.inl ⟨by rfl, ?_⟩) ?_ ?_
                        rotate_left
                        · intro w'
                          go_simp
                          with_reducible rfl
                        rotate_left
                        · simp only [Act.put, List.setIfInBounds_toArray, List.set_cons_zero, List.set_cons_succ, zM, zN]
                          rfl
                        refine pure_ (i := 12) (N := some 40) (v := ?_) (a' := ?_) #[true, true, true, true, true, true, true, true, true, true, true, true, true, false, false, false] rfl rfl (any_of HT_.out (by kernel_rfl)) (fun _ _ _ h => h) (Or.inl ⟨by rfl, ?_⟩) ?_ ?_
                        rotate_left
                        · intro w'
                          go_simp
                          with_reducible rfl
                        rotate_left
                        · simp only [Act.put, List.setIfInBounds_toArray, List.set_cons_zero, List.set_cons_succ, zM, zN]
                          rfl
                        refine pure_ (i := 13) (N := some 41) (v := ?_) (a' := ?_) #[true, true, true, true, true, true, true, true, true, true, true, true, true, true, false, false] rfl rfl (any_of HT_.out (by kernel_rfl)) (fun _ _ _ h => h) (Or.inl ⟨by rfl, ?_⟩) ?_ ?_
                        rotate_left
                        · intro w'
                          go_simp
                          with_reducible rfl
                        rotate_left
                        · simp only [Act.put, List.setIfInBounds_toArray, List.set_cons_zero, List.set_cons_succ, zM, zN]
                          rfl
                        refine pure_ (i := 14) (N := some 42) (v := ?_) (a' := ?_) #[true, true, true, true, true, true, true, true, true, true, true, true, true, true, true, false] rfl rfl (any_of HT_.out (by kernel_rfl)) (fun _ _ _ h => h) (Or.inl ⟨by rfl, ?_⟩) ?_ ?_
                        rotate_left
                        · intro w'
                          go_simp
                          with_reducible rfl
                        rotate_left
                        · simp only [Act.put, List.setIfInBounds_toArray, List.set_cons_zero, List.set_cons_succ, zM, zN]
                          rfl
                        refine last_ (i := 15) (N := none) #[true, true, true, true, true, true, true, true, true, true, true, true, true, true, true, true] rfl rfl (one_of HT_.out (by kernel_rfl)) (by decide) (fun K hK => ?_)
                        refine skip_ (w1 := ?_) (by rfl) rfl ?_ ?_
                        rotate_left
                        · go_simp
                          rfl
                        refine hK.out _ _ ?_
                        clear hK K; refine done_ (done_of HT_.out (by kernel_rfl)) ?_
                        try go_wp2
                        (try simp only [← hl5_2])
                        go_roundg k2
                        case measure => have := HJ2.out; have := HK2.out; omega
                        case rel => exact ⟨(y106), (wrap64 (x25_2 + 1)), (by first | rfl | (simp; done) | (simp [*]; done)), H', ⟨by have := HJ2.out; have := HK2.out; omega⟩, ⟨by (try simp only [hl5_2]); (with_reducible repeat (first | apply Kd.R_alloc | apply Kd.R_drewN | apply Kd.R_drew)); exact HQ19.out⟩, ⟨by repeat (first | (with_reducible first | exact HB.out | apply zI | apply zF | apply zH | refine zE ?_ GB17.out) | exact HB.out)⟩⟩
                      · rw [if_neg c16] at H
                        exact absurd H (by simp)
                    · rw [if_neg c15] at H
                      exact absurd H (by simp)
                · rw [if_neg c13] at H
                  have c13b0 : decide (x25_2 < (y103.length : Int)) = false := decide_eq_false c13
                  (try simp only [hl5_2] at c13b0)
                  clear c13; obtain rfl := Option.some.inj H
                  go_wp2
                  go_ret
                  exact ⟨_, by first | rfl | (simp [errW_none, errW_some] <;> rfl) | (simp [*, errW_none, errW_some] <;> rfl), by (with_reducible repeat (first | apply Kd.R_alloc | apply Kd.R_drewN | apply Kd.R_drew)); exact HO_5.out, by repeat (first | (with_reducible first | exact HB.out | apply zI | apply zF | apply zH) | exact HB.out)⟩
          · rw [if_neg c9] at H
            exact absurd H (by simp)
        · rw [if_neg c8] at H
          exact absurd H (by simp)
end Go.Proofs.Ytbnoeeflpegcoaa.F
end
section
namespace Go.Proofs.Ytbnoeeflpegcoaa.F
open Go.RowKit Go.Proofs.YtbnoeeflpegcoaaW.PrintWords Go.Proofs.YtbnoeeflpegcoaaW.PrintLast Go.Proofs.YtbnoeeflpegcoaaW.PrintMore
attribute [local go_sem] max2_int min2_int max_two min_two max_three min_three max_four min_four   -- for this text's walks alone
set_option linter.unusedVariables false
set_option linter.unusedSimpArgs false
def stanzalaw18_Awake.f (k : Nat)  : Option (Bool) := (just_Spread.f k 5 3).bind fun t107 => ((stanzaref01_SameInts.f k t107 (([1, 2, 2] : List Int))).bind fun t113 => (if t113 = true then ((just_Spread.f k (-1) 3).bind fun t114 => (if (t114.length : Int) = 0 then ((just_Spread.f k 1 1).bind fun t117 => (some ((t117.length : Int) == 1))) else (some false))) else (some false)))
theorem stanzalaw18_Awake.mono : ∀ k, LeO (stanzalaw18_Awake.f k ) (stanzalaw18_Awake.f (k + 1) ) := by
  intro  k
  unfold stanzalaw18_Awake.f
  repeat' first
      | (with_reducible exact just_Spread.mono _ _ _)
      | (with_reducible exact stanzaref01_SameInts.mono _ _ _)
      | (with_reducible exact LeO.refl _)
      | (with_reducible exact LeO.none _)
      | (with_reducible refine LeO.ite ?_ ?_)
      | (with_reducible refine LeO.bind ?_ (fun _ => ?_))
      | exact just_Spread.mono _ _ _
      | exact stanzaref01_SameInts.mono _ _ _
      | exact LeO.none _
      | refine LeO.ite ?_ ?_
      | refine LeO.bind ?_ (fun _ => ?_)
set_option maxHeartbeats 8000000 in
set_option maxRecDepth 100000 in
theorem stanzalaw18_Awake.calls (k : Nat)  (r : Bool) (w : World) (h : stanzalaw18_Awake.f k  = some r) (hrt_ : zA (r = true)) :
    Calls Try.prog 14 #[] w fun e w' => e = .returned (.bool r) ∧ Below w.heap.size w w' := by
  have HB := zA.mk (Below.refl w.heap.size w); have H : ((just_Spread.f k 5 3).bind fun t107 => ((stanzaref01_SameInts.f k t107 (([1, 2, 2] : List Int))).bind fun t113 => (if t113 = true then ((just_Spread.f k (-1) 3).bind fun t114 => (if (t114.length : Int) = 0 then ((just_Spread.f k 1 1).bind fun t117 => (some ((t117.length : Int) == 1))) else (some false))) else (some false)))) = some r := h
  clear h; replace H := Option.bind_eq_some_iff.mp H; obtain ⟨t107, A10, H⟩ := H; replace H : ((stanzaref01_SameInts.f k t107 (([1, 2, 2] : List Int))).bind fun t113 => (if t113 = true then ((just_Spread.f k (-1) 3).bind fun t114 => (if (t114.length : Int) = 0 then ((just_Spread.f k 1 1).bind fun t117 => (some ((t117.length : Int) == 1))) else (some false))) else (some false))) = some r := H
  have A1 := zA.mk A10; clear A10; obtain ⟨y110, hy110⟩ : ∃ y_ : List Int, y_ = (([1, 2, 2] : List Int)) := ⟨_, rfl⟩; replace H : ((stanzaref01_SameInts.f k t107 y110).bind fun t113 => (if t113 = true then ((just_Spread.f k (-1) 3).bind fun t114 => (if (t114.length : Int) = 0 then ((just_Spread.f k 1 1).bind fun t117 => (some ((t117.length : Int) == 1))) else (some false))) else (some false))) = some r := by first | (rw [hy110]; with_reducible exact H) | (have H2_ := (Option.bind_some _ _).symm.trans H; rw [hy110]; with_reducible exact H2_) | (have H2_ := (Option.bind_some _ _).symm.trans H; with_reducible exact H2_) | with_reducible exact H | (rw [hy110]; exact H) | exact H
  have Ny110 := zA.mk hy110; clear hy110; replace H := Option.bind_eq_some_iff.mp H; obtain ⟨t113, A20, H⟩ := H; replace H : (if t113 = true then ((just_Spread.f k (-1) 3).bind fun t114 => (if (t114.length : Int) = 0 then ((just_Spread.f k 1 1).bind fun t117 => (some ((t117.length : Int) == 1))) else (some false))) else (some false)) = some r := H
  have A2 := zA.mk A20; clear A20; by_cases c3 : t113 = true
  · subst c3
    have H1 : ((just_Spread.f k (-1) 3).bind fun t114 => (if (t114.length : Int) = 0 then ((just_Spread.f k 1 1).bind fun t117 => (some ((t117.length : Int) == 1))) else (some false))) = some r := by rw [if_pos rfl] at H; exact H
    clear H; have H := H1; clear H1; replace H := Option.bind_eq_some_iff.mp H; obtain ⟨t114, A40, H⟩ := H; replace H : (if (t114.length : Int) = 0 then ((just_Spread.f k 1 1).bind fun t117 => (some ((t117.length : Int) == 1))) else (some false)) = some r := H
    have A4 := zA.mk A40; clear A40; by_cases c5 : (t114.length : Int) = 0
    · rw [if_pos c5] at H
      have c5b0 : ((t114.length : Int) == 0) = true := beq_iff_eq.mpr c5
      have c5b1 : ((t114.length : Int) != 0) = false := bne_eq_false_iff_eq.mpr c5
      clear c5; replace H := Option.bind_eq_some_iff.mp H; obtain ⟨t117, A60, H⟩ := H; replace H : (some ((t117.length : Int) == 1)) = some r := H; have A6 := zA.mk A60; clear A60; obtain rfl := Option.some.inj H
      go_enter Try.func14, Try.ntmps14
      go_wp2_with (first | ((with_reducible refine gate_callee (f := 16) rfl ?_); refine goesL_ (some 1) rfl rfl Try.func16 (by kernel_rfl) rfl #[.int .i64 5, .int .i64 3] rfl (by (try simp only [List.map_toArray, List.map_cons, List.map_nil]); first | done | rfl | (simp only [List.length_drop, List.length_take]; rfl)) ?_; (with_reducible refine (just_Spread.calls k 5 3 t107 _ A1.out).mono ?_); rintro e w7 ⟨v108, rfl, ho0, hb⟩; refine ⟨_, rfl, ?_⟩; have n0_ := zA.mk (Kd.R_lower ho0 (zK (by repeat (first | (with_reducible first | exact HB.out | apply zI | apply zF | apply zH) | exact HB.out)))); have n1_ := zA.mk (zO (by repeat (first | (with_reducible first | exact HB.out | apply zI | apply zF | apply zH) | exact HB.out)) hb); clear HB; have HO109 := n0_; have HB := n1_; clear n0_ n1_; (try clear hb); (try clear hb2); (try clear hk); (try clear hi); (try clear ho0)) | ((with_reducible refine gate_dst (N := 2) rfl ?_); (try (refine gate_guard (by rfl) ?_; dsimp only)); refine Kd.R_lit (Kd.int .i64) _ 3 ?hg (N := 2) ?hd (xs := ([1, 2, 2] : List Int)) (inner := [.int .i64 1, .int .i64 2, .int .i64 2]) (ok := fun _ => True) (okp := fun _ => True) ?hr ?hp (fun _ hk => hk) trivial (Below.refl _ _) (Nat.le_refl _) (by simp) ?_; (case hd => rfl); (case hg => rfl); (case hr => first | (go_simp; done) | (go_simp; rfl)); (case hp => exact (Reps.one (show Kd.M (Kd.int .i64) _ _ _ 1 [.int .i64 1] from rfl) (Reps.one (show Kd.M (Kd.int .i64) _ _ _ 2 [.int .i64 2] from rfl) (Reps.one (show Kd.M (Kd.int .i64) _ _ _ 2 [.int .i64 2] from rfl) (Reps.none _ _))))); intro v111 w8 ho9 hb hg_ hnew_; clear hg_ hnew_; (first | rw [← Ny110.out] at ho9 | (simp only [Int.reduceToNat] at ho9; rw [← Ny110.out] at ho9)); have n0_ := zA.mk (Kd.R_elder' (by (with_reducible repeat (first | apply Kd.R_alloc | apply Kd.R_drewN | apply Kd.R_drew)); exact HO109.out) (Kd.R_base ho9) hb); have n1_ := zA.mk (Kd.R_lower (Kd.R_new' ho9 (Kd.R_lt (by (with_reducible repeat (first | apply Kd.R_alloc | apply Kd.R_drewN | apply Kd.R_drew)); exact HO109.out))) (zK (by repeat (first | (with_reducible first | exact HB.out | apply zI | apply zF | apply zH) | exact HB.out)))); have n2_ := zA.mk (zO (by repeat (first | (with_reducible first | exact HB.out | apply zI | apply zF | apply zH) | exact HB.out)) hb); clear HO109; clear HB; have HO109 := n0_; have HO112 := n1_; have HB := n2_; clear n0_ n1_ n2_; clear hb ho9; obtain ⟨Ao10, co10, eo10⟩ := Kd.R_slice HO109.out; subst eo10; obtain ⟨Ao11, co11, eo11⟩ := Kd.R_slice HO112.out; subst eo11) | ((with_reducible refine gate_callee (f := 15) rfl ?_); refine goesL_ (some 3) rfl rfl Try.func15 (by kernel_rfl) rfl #[.slice Ao10 t107.length co10, .slice Ao11 y110.length co11] rfl (by (try simp only [List.map_toArray, List.map_cons, List.map_nil]); first | done | rfl | (simp only [List.length_drop, List.length_take]; rfl)) ?_; (with_reducible refine (stanzaref01_SameInts.calls k _ _ t107 _ _ y110 true _ ?side1 ?side2 ?side3 ?side4 A2.out).mono ?_); (case side1 => repeat (first | exact (Kd.R_reads' HO109.out).2.2 | (with_reducible refine Kd.C_alloc ?_ _) | (with_reducible refine Kd.C_drewN ?_ _) | (with_reducible refine Kd.C_drew ?_))); (case side2 => exact (Kd.R_reads' HO109.out).2.1); (case side3 => repeat (first | exact (Kd.R_reads' HO112.out).2.2 | (with_reducible refine Kd.C_alloc ?_ _) | (with_reducible refine Kd.C_drewN ?_ _) | (with_reducible refine Kd.C_drew ?_))); (case side4 => exact (Kd.R_reads' HO112.out).2.1); rintro e w' ⟨rfl, ⟨nd, rfl⟩⟩; refine ⟨_, rfl, ?_⟩) | (go_at_call 16; (with_reducible refine (just_Spread.calls k (-1) 3 t114 _ A4.out).mono ?_); rintro e w12 ⟨v115, rfl, ho0, hb⟩; have n0_ := zA.mk (Kd.R_elder' (by (with_reducible repeat (first | apply Kd.R_alloc | apply Kd.R_drewN | apply Kd.R_drew)); exact HO109.out) (Kd.R_base ho0) hb); have n1_ := zA.mk (Kd.R_elder' (by (with_reducible repeat (first | apply Kd.R_alloc | apply Kd.R_drewN | apply Kd.R_drew)); exact HO112.out) (Kd.R_base ho0) hb); have n2_ := zA.mk (Kd.R_lower (Kd.R_new' (Kd.R_new' ho0 (Kd.R_lt (by (with_reducible repeat (first | apply Kd.R_alloc | apply Kd.R_drewN | apply Kd.R_drew)); exact HO109.out))) (Kd.R_lt (by (with_reducible repeat (first | apply Kd.R_alloc | apply Kd.R_drewN | apply Kd.R_drew)); exact HO112.out))) (zK (by repeat (first | (with_reducible first | exact HB.out | apply zI | apply zF | apply zH) | exact HB.out)))); have n3_ := zA.mk (zO (by repeat (first | (with_reducible first | exact HB.out | apply zI | apply zF | apply zH) | exact HB.out)) hb); clear HO109; clear HO112; clear HB; have HO109 := n0_; have HO112 := n1_; have HO116 := n2_; have HB := n3_; clear n0_ n1_ n2_ n3_; (try clear hb); (try clear hb2); (try clear hk); (try clear hi); (try clear ho0); obtain ⟨Ao13, co13, eo13⟩ := Kd.R_slice HO116.out; subst eo13) | (go_at_call 16; (with_reducible refine (just_Spread.calls k 1 1 t117 _ A6.out).mono ?_); rintro e w14 ⟨v118, rfl, ho0, hb⟩; have n0_ := zA.mk (Kd.R_elder' (by (with_reducible repeat (first | apply Kd.R_alloc | apply Kd.R_drewN | apply Kd.R_drew)); exact HO109.out) (Kd.R_base ho0) hb); have n1_ := zA.mk (Kd.R_elder' (by (with_reducible repeat (first | apply Kd.R_alloc | apply Kd.R_drewN | apply Kd.R_drew)); exact HO112.out) (Kd.R_base ho0) hb); have n2_ := zA.mk (Kd.R_elder' (by (with_reducible repeat (first | apply Kd.R_alloc | apply Kd.R_drewN | apply Kd.R_drew)); exact HO116.out) (Kd.R_base ho0) hb); have n3_ := zA.mk (Kd.R_lower (Kd.R_new' (Kd.R_new' (Kd.R_new' ho0 (Kd.R_lt (by (with_reducible repeat (first | apply Kd.R_alloc | apply Kd.R_drewN | apply Kd.R_drew)); exact HO109.out))) (Kd.R_lt (by (with_reducible repeat (first | apply Kd.R_alloc | apply Kd.R_drewN | apply Kd.R_drew)); exact HO112.out))) (Kd.R_lt (by (with_reducible repeat (first | apply Kd.R_alloc | apply Kd.R_drewN | apply Kd.R_drew)); exact HO116.out))) (zK (by repeat (first | (with_reducible first | exact HB.out | apply zI | apply zF | apply zH) | exact HB.out)))); have n4_ := zA.mk (zO (by repeat (first | (with_reducible first | exact HB.out | apply zI | apply zF | apply zH) | exact HB.out)) hb); clear HO109; clear HO112; clear HO116; clear HB; have HO109 := n0_; have HO112 := n1_; have HO116 := n2_; have HO119 := n3_; have HB := n4_; clear n0_ n1_ n2_ n3_ n4_; (try clear hb); (try clear hb2); (try clear hk); (try clear hi); (try clear ho0); obtain ⟨Ao15, co15, eo15⟩ := Kd.R_slice HO119.out; subst eo15))
      go_ret
      exact ⟨by first | rfl | (simp [errW_none, errW_some] <;> rfl) | (simp [*, errW_none, errW_some] <;> rfl), by repeat (first | (with_reducible first | exact HB.out | apply zI | apply zF | apply zH) | exact HB.out)⟩
    · rw [if_neg c5] at H
      have c5b0 : ((t114.length : Int) == 0) = false := beq_eq_false_iff_ne.mpr c5
      have c5b1 : ((t114.length : Int) != 0) = true := bne_iff_ne.mpr c5
      have c5b2 : ¬ (t114 = []) := fun h_ => c5 (by rw [h_]; rfl)
      exact absurd ((Option.some.inj H).trans hrt_.out) (by decide)
  · replace c3 := Bool.eq_false_iff.mpr c3
    subst c3; have H1 : (some false) = some r := by rw [if_neg (show ¬ (false = true) by decide)] at H; exact H
    clear H; have H := H1; clear H1; exact absurd ((Option.some.inj H).trans hrt_.out) (by decide)
end Go.Proofs.Ytbnoeeflpegcoaa.F
end
section
namespace Go.Proofs.Ytbnoeeflpegcoaa.F
open Go.RowKit Go.Proofs.YtbnoeeflpegcoaaW.PrintWords Go.Proofs.YtbnoeeflpegcoaaW.PrintLast Go.Proofs.YtbnoeeflpegcoaaW.PrintMore
attribute [local go_sem] max2_int min2_int max_two min_two max_three min_three max_four min_four   -- for this text's walks alone
set_option linter.unusedVariables false
set_option linter.unusedSimpArgs false
mutual
def stanzahand03_Para.j1 : Nat → List (S50) → List (S41) → Option ((List (S41)) × List Int)
  | 0, _, _ => none
  | k + 1, x0, x155000 => stanzahand03_Para.l1 k x0 0 x155000 ([] : List Int)
def stanzahand03_Para.l1 : Nat → List (S50) → Int → List (S41) → List Int → Option ((List (S41)) × List Int)
  | 0, _, _, _, _ => none
  | k + 1, x0, x8, x155000, x155001 => if x8 < (x155000.length : Int) then (if x8 > 0 then (if 0 ≤ (wrap64 (x8 - 1)) then (if (wrap64 (x8 - 1)) < (x0.length : Int) then (if x155001.length < 140737488355328 then (stanzahand03_Para.l1 k x0 (wrap64 (x8 + 1)) x155000 (x155001 ++ [Int.tmod ((rd_T50 x0 (wrap64 (x8 - 1))).f3) 4])) else (none)) else (none)) else (none)) else (if x155001.length < 140737488355328 then (stanzahand03_Para.l1 k x0 (wrap64 (x8 + 1)) x155000 (x155001 ++ [0])) else (none))) else (if x155001.length < 140737488355328 then (some (x155000, (x155001 ++ [2]))) else (none))
def stanzahand03_Para.l0 : Nat → List (S50) → Int → Int → List (S41) → Option ((List (S41)) × List Int)
  | 0, _, _, _, _ => none
  | k + 1, x0, x4, x5, x155000 => if x5 < (x0.length : Int) then (if x4 < 4000 then (if 0 ≤ x5 then (if x155000.length < 4398046511104 then (stanzahand03_Para.l0 k x0 (wrap64 (x4 + (wrap64 (1 + (wrap64 (Int.tmod ((rd_T50 x0 x5).f2) 4)))))) (wrap64 (x5 + 1)) (x155000 ++ [(⟨x4, wrap64 (1 + (wrap64 (Int.tmod ((rd_T50 x0 x5).f2) 4))), wrap64 (Int.tmod ((rd_T50 x0 x5).f0) 3), Int.tmod ((rd_T50 x0 x5).f1) 3⟩ : S41)])) else (none)) else (none)) else (stanzahand03_Para.j1 k x0 x155000)) else (stanzahand03_Para.j1 k x0 x155000)
end
def stanzahand03_Para.f (k : Nat) (l0 : List (S50)) : Option ((List (S41)) × List Int) := stanzahand03_Para.l0 k l0 0 0 ([] : List (S41))
theorem stanzahand03_Para.mono_l : ∀ k, (∀ y0 y1, LeO (stanzahand03_Para.j1 k y0 y1) (stanzahand03_Para.j1 (k + 1) y0 y1)) ∧ (∀ y0 y1 y2 y3, LeO (stanzahand03_Para.l1 k y0 y1 y2 y3) (stanzahand03_Para.l1 (k + 1) y0 y1 y2 y3)) ∧ (∀ y0 y1 y2 y3, LeO (stanzahand03_Para.l0 k y0 y1 y2 y3) (stanzahand03_Para.l0 (k + 1) y0 y1 y2 y3))
  | 0 => ⟨fun _ _ r h => by simp [stanzahand03_Para.j1] at h, fun _ _ _ _ r h => by simp [stanzahand03_Para.l1] at h, fun _ _ _ _ r h => by simp [stanzahand03_Para.l0] at h⟩
  | k + 1 => by
    obtain ⟨ih0, ih1, ih2⟩ := stanzahand03_Para.mono_l k; refine ⟨?_, ?_, ?_⟩
    · intro y0 y1
      unfold stanzahand03_Para.j1
      repeat' first
      | (with_reducible exact ih0 _ _)
      | (with_reducible exact ih1 _ _ _ _)
      | (with_reducible exact ih2 _ _ _ _)
      | (with_reducible exact LeO.refl _)
      | (with_reducible exact LeO.none _)
      | (with_reducible refine LeO.ite ?_ ?_)
      | (with_reducible refine LeO.bind ?_ (fun _ => ?_))
      | exact ih0 _ _
      | exact ih1 _ _ _ _
      | exact ih2 _ _ _ _
      | exact LeO.none _
      | refine LeO.ite ?_ ?_
      | refine LeO.bind ?_ (fun _ => ?_)
    · intro y0 y1 y2 y3
      unfold stanzahand03_Para.l1
      repeat' first
      | (with_reducible exact ih0 _ _)
      | (with_reducible exact ih1 _ _ _ _)
      | (with_reducible exact ih2 _ _ _ _)
      | (with_reducible exact LeO.refl _)
      | (with_reducible exact LeO.none _)
      | (with_reducible refine LeO.ite ?_ ?_)
      | (with_reducible refine LeO.bind ?_ (fun _ => ?_))
      | exact ih0 _ _
      | exact ih1 _ _ _ _
      | exact ih2 _ _ _ _
      | exact LeO.none _
      | refine LeO.ite ?_ ?_
      | refine LeO.bind ?_ (fun _ => ?_)
    · intro y0 y1 y2 y3
      unfold stanzahand03_Para.l0
      repeat' first
      | (with_reducible exact ih0 _ _)
      | (with_reducible exact ih1 _ _ _ _)
      | (with_reducible exact ih2 _ _ _ _)
      | (with_reducible exact LeO.refl _)
      | (with_reducible exact LeO.none _)
      | (with_reducible refine LeO.ite ?_ ?_)
      | (with_reducible refine LeO.bind ?_ (fun _ => ?_))
      | exact ih0 _ _
      | exact ih1 _ _ _ _
      | exact ih2 _ _ _ _
      | exact LeO.none _
      | refine LeO.ite ?_ ?_
      | refine LeO.bind ?_ (fun _ => ?_)
theorem stanzahand03_Para.mono : ∀ a0 k, LeO (stanzahand03_Para.f k a0) (stanzahand03_Para.f (k + 1) a0) := by
  intro a0 k
  obtain ⟨ih0, ih1, ih2⟩ := stanzahand03_Para.mono_l k; unfold stanzahand03_Para.f
  repeat' first
      | (with_reducible exact ih0 _ _)
      | (with_reducible exact ih1 _ _ _ _)
      | (with_reducible exact ih2 _ _ _ _)
      | (with_reducible exact LeO.refl _)
      | (with_reducible exact LeO.none _)
      | (with_reducible refine LeO.ite ?_ ?_)
      | (with_reducible refine LeO.bind ?_ (fun _ => ?_))
      | exact ih0 _ _
      | exact ih1 _ _ _ _
      | exact ih2 _ _ _ _
      | exact LeO.none _
      | refine LeO.ite ?_ ?_
      | refine LeO.bind ?_ (fun _ => ?_)
set_option maxHeartbeats 8000000 in
set_option maxRecDepth 100000 in
theorem stanzahand03_Para.calls (k : Nat) (A0 : Option Addr) (c0 : Nat) (l0 : List (S50)) (r1 : List (S41)) (r2 : List Int) (w : World) (hr0 : Kd.C k50 w A0 l0.length l0) (hc0 : l0.length ≤ c0) (h : stanzahand03_Para.f k l0 = some (r1, r2)) :
    Calls Try.prog 19 #[.slice A0 l0.length c0] w fun e w' => ∃ v0_ v1_ : Value, e = .returned (.agg #[v0_, v1_]) ∧ Kd.R k41 41 w' w.heap.size (fun _ => True) v0_ r1 ∧ Kd.R (Kd.int .u8) 46 w' w.heap.size (fun _ => True) v1_ r2 ∧ Below w.heap.size w w' := by
  have hu35 := Try.underlying35; have hu50 := Try.underlying50; have hu41 := Try.underlying41; have HR0 := zA.mk hr0; have HC0 := zA.mk hc0; clear hr0 hc0; have HB := zA.mk (Below.refl w.heap.size w); have H : (stanzahand03_Para.l0 k l0 0 0 ([] : List (S41))) = some (r1, r2) := h
  clear h; have HC2 := zA.mk H; clear H; go_enter Try.func19, Try.ntmps19
  go_upto_block 0 with (first | ((with_reducible refine gate_dst (N := 2) rfl ?_); refine box_event ?hg (N := 2) ?hd (cs := #[.slice none 0 0, .slice none 0 0]) (t := 35) ?hr ?_; (case hd => rfl); (case hg => rfl); (case hr => first | (go_simp; done) | (go_simp; rfl)); intro gb153 hg w3 hbox hb; have n0_ := zA.mk (zO (by repeat (first | (with_reducible first | exact HB.out | apply zI | apply zF | apply zH) | exact HB.out)) hb); have n1_ := zA.mk (hbox); have n2_ := zA.mk ((by rw [hg]; exact (zK (by repeat (first | (with_reducible first | exact HB.out | apply zI | apply zF | apply zH) | exact HB.out))) : w.heap.size ≤ gb153)); have n3_ := zA.mk ((by rw [hg]; exact (zK (by repeat (first | (with_reducible first | exact HB.out | apply zI | apply zF | apply zH) | exact HB.out))) : w.heap.size ≤ gb153)); clear HB; have HB := n0_; have BK153 := n1_; have GW153 := n2_; have GE153 := n3_; clear n0_ n1_ n2_ n3_; clear hb hbox hg) | ((with_reducible refine gate_dst (N := 3) rfl ?_); refine box_event ?hg (N := 3) ?hd (cs := #[.slice none 0 0, .slice none 0 0]) (t := 35) ?hr ?_; (case hd => rfl); (case hg => rfl); (case hr => first | (go_simp; done) | (go_simp; rfl)); intro gb154 hg w4 hbox hb; have n0_ := zA.mk (zL (g := gb153) (o := .cells #[.slice none 0 0, .slice none 0 0] 35 (0, 0)) (by (with_reducible repeat (first | refine zC ?_ _ | refine zD ?_ | refine zB ?_ _)); exact BK153.out) hb); have n1_ := zA.mk (zO (by repeat (first | (with_reducible first | exact HB.out | apply zI | apply zF | apply zH | refine zE ?_ GE153.out) | exact HB.out)) hb); have n2_ := zA.mk (hbox); have n3_ := zA.mk ((by rw [hg]; exact (zK (by repeat (first | (with_reducible first | exact HB.out | apply zI | apply zF | apply zH | refine zE ?_ GE153.out) | exact HB.out))) : w.heap.size ≤ gb154)); have n4_ := zA.mk ((by rw [hg]; exact (zK (by repeat (first | (with_reducible first | exact HB.out | apply zI | apply zF | apply zH | refine zE ?_ GE153.out) | exact HB.out))) : w.heap.size ≤ gb154)); have n5_ := zA.mk ((by rw [hg]; exact Nat.ne_of_lt (blk_lt (g := gb153) (o := .cells #[.slice none 0 0, .slice none 0 0] 35 (0, 0)) (by (with_reducible repeat (first | refine zC ?_ _ | refine zD ?_ | refine zB ?_ _)); exact BK153.out)) : gb153 ≠ gb154)); have n6_ := zA.mk ((by rw [hg]; exact Nat.ne_of_gt (blk_lt (g := gb153) (o := .cells #[.slice none 0 0, .slice none 0 0] 35 (0, 0)) (by (with_reducible repeat (first | refine zC ?_ _ | refine zD ?_ | refine zB ?_ _)); exact BK153.out)) : gb154 ≠ gb153)); clear BK153; clear HB; have BK153 := n0_; have HB := n1_; have BK154 := n2_; have GW154 := n3_; have GE154 := n4_; have NB153_154 := n5_; have NB154_153 := n6_; clear n0_ n1_ n2_ n3_ n4_ n5_ n6_; clear hb hbox hg; have hnb5 := NB154_153.out; have hnc5 := NB153_154.out; have hcz6_0 : w4.cell? ⟨gb154, 0, none⟩ = some (.slice none 0 0) := (zG BK154.out 0).trans rfl; have hcz6_1 : w4.cell? ⟨gb154, 1, none⟩ = some (.slice none 0 0) := (zG BK154.out 1).trans rfl; have hfz6_0 := zJ BK154.out 0; have hfz6_1 := zJ BK154.out 1) | ((with_reducible refine gate_store (t := 35) (p := 3) rfl ?_); refine store_event (t := 35) (p := 3) (v := ?vo_w7) (w1 := ((w4.setCell ⟨gb154, 0, none⟩ (.slice none 0 0)).setCell ⟨gb154, 1, none⟩ (.slice none 0 0))) ?hg ?ho ?hn ?hr ?_; (case ho => rfl); (case hg => rfl); (case hn => rfl); (case hr => first | (go_simp; done) | (go_simp; rfl)); intro w7 hw; have n0_ : zA (w7.heap[gb153]? = some (.cells #[.slice none 0 0, .slice none 0 0] 35 (0, 0))) := ⟨(by rw [hw]; exact (by (with_reducible repeat (first | refine zC ?_ _ | refine zD ?_ | refine zB ?_ _)); refine blk_far ?_ NB153_154.out _; (with_reducible repeat (first | refine zC ?_ _ | refine zD ?_ | refine zB ?_ _)); refine blk_far ?_ NB153_154.out _; (with_reducible repeat (first | refine zC ?_ _ | refine zD ?_ | refine zB ?_ _)); exact BK153.out))⟩; have n1_ : zA (w7.heap[gb154]? = some (.cells #[.slice none 0 0, .slice none 0 0] 35 (0, 0))) := ⟨(by rw [hw]; exact (by (with_reducible repeat (first | refine zC ?_ _ | refine zD ?_ | refine zB ?_ _)); refine blk_put (cs := #[.slice none 0 0, .slice none 0 0]) ?_ 1 _ rfl; (with_reducible repeat (first | refine zC ?_ _ | refine zD ?_ | refine zB ?_ _)); refine blk_put (cs := #[.slice none 0 0, .slice none 0 0]) ?_ 0 _ rfl; (with_reducible repeat (first | refine zC ?_ _ | refine zD ?_ | refine zB ?_ _)); exact BK154.out))⟩; have n2_ : zA (Below w.heap.size w w7) := ⟨(by rw [hw]; exact (by repeat (first | (with_reducible first | exact HB.out | apply zI | apply zF | apply zH | refine zE ?_ GE153.out | refine zE ?_ GE154.out) | exact HB.out)))⟩; clear hw; clear BK153; clear BK154; clear HB; have BK153 := n0_; have BK154 := n1_; have HB := n2_; clear n0_ n1_ n2_))
  (try simp only [Act.put, List.setIfInBounds_toArray, List.set_cons_zero, List.set_cons_succ])
  go_cut [] (fun wc => ∃ (kq : Nat) (x155000_1 : List (S41)) (u155000 : Value), zA (stanzahand03_Para.j1 kq l0 x155000_1 = some (r1, r2)) ∧ zA (kq ≤ k) ∧ zA (Kd.R k41 41 wc w.heap.size (fun _ => True) u155000 x155000_1) ∧ zA (wc.heap[gb153]? = some (.cells #[(.slice none 0 0), (.slice none 0 0)] 35 (0, 0))) ∧ zA (wc.heap[gb154]? = some (.cells #[u155000, (.slice none 0 0)] 35 (0, 0))) ∧ zA (Below w.heap.size w wc))
  case first =>
    have H := HC2.out; clear HC2; have H' := zA.mk H
    clear H; go_wp2
    go_loopg [4, 5] k (fun kq v4 v5 w' => ∃ (x4_1 : Int) (x5_1 : Int) (x155000_1 : List (S41)) (u155000 : Value), v4 = .int .i64 x4_1 ∧ v5 = .int .i64 x5_1 ∧ zA (stanzahand03_Para.l0 kq l0 x4_1 x5_1 x155000_1 = some (r1, r2)) ∧ zA (kq ≤ k) ∧ zA (Kd.R k41 41 w' w.heap.size (fun _ => True) u155000 x155000_1) ∧ zA (w'.heap[gb153]? = some (.cells #[(.slice none 0 0), (.slice none 0 0)] 35 (0, 0))) ∧ zA (w'.heap[gb154]? = some (.cells #[u155000, (.slice none 0 0)] 35 (0, 0))) ∧ zA (Below w.heap.size w w'))
    case atStart => exact ⟨(0), (0), (([] : List (S41))), (.slice none 0 0), (by first | rfl | (simp; done) | (simp [*]; done)), (by first | rfl | (simp; done) | (simp [*]; done)), H', ⟨Nat.le_refl _⟩, ⟨by first | exact Kd.R_nil _ _ _ _ _ | exact Kd.N_nil _ _ _ _ _ | exact Kd.V_nil _ _ _ _ _ | exact Kd.Q_nil _ _ _ _ _ | exact Kd.S_nil _ _ _ _ _⟩, ⟨by (with_reducible repeat (first | refine zC ?_ _ | refine zD ?_ | refine zB ?_ _)); exact BK153.out⟩, ⟨by (with_reducible repeat (first | refine zC ?_ _ | refine zD ?_ | refine zB ?_ _)); exact BK154.out⟩, ⟨by repeat (first | (with_reducible first | exact HB.out | apply zI | apply zF | apply zH | refine zE ?_ GE153.out | refine zE ?_ GE154.out) | exact HB.out)⟩⟩
    case round =>
      clear H'; try clear c1
      try clear p2
      try clear c5
      try clear hcz6_0
      try clear hcz6_1
      try clear hfz6_0
      try clear hfz6_1
      obtain ⟨x4_1, x5_1, x155000_1, u155000, rfl, rfl, HA, HK1, HO_155000, BK153, BK154, HB⟩ := hrel; cases gk with
      | zero => exact absurd HA.out (by simp [stanzahand03_Para.l0])
      | succ k1 =>
        have H := HA.out; clear HA; simp only [stanzahand03_Para.l0] at H; by_cases c8 : x5_1 < (l0.length : Int)
        · rw [if_pos c8] at H
          have c8b0 : decide (x5_1 < (l0.length : Int)) = true := decide_eq_true c8
          clear c8; (first | rw [c8b0] | (simp only [zM, zN]; rw [c8b0]) | skip)
          by_cases c9 : x4_1 < 4000
          · rw [if_pos c9] at H
            have c9b0 : decide (x4_1 < 4000) = true := decide_eq_true c9
            clear c9; by_cases c10 : 0 ≤ x5_1
            · rw [if_pos c10] at H
              have c10b0 : decide (0 ≤ x5_1) = true := decide_eq_true c10
              clear c10; by_cases c11 : x155000_1.length < 4398046511104
              · rw [if_pos c11] at H
                have LMc11 := zA.mk c11; clear c11; obtain ⟨y158, hy158⟩ : ∃ y_ : List (S41), y_ = (x155000_1 ++ [(⟨x4_1, wrap64 (1 + (wrap64 (Int.tmod ((rd_T50 l0 x5_1).f2) 4))), wrap64 (Int.tmod ((rd_T50 l0 x5_1).f0) 3), Int.tmod ((rd_T50 l0 x5_1).f1) 3⟩ : S41)]) := ⟨_, rfl⟩; replace H : (stanzahand03_Para.l0 k1 l0 (wrap64 (x4_1 + (wrap64 (1 + (wrap64 (Int.tmod ((rd_T50 l0 x5_1).f2) 4)))))) (wrap64 (x5_1 + 1)) y158) = some (r1, r2) := by first | (rw [hy158]; with_reducible exact H) | (have H2_ := (Option.bind_some _ _).symm.trans H; rw [hy158]; with_reducible exact H2_) | (have H2_ := (Option.bind_some _ _).symm.trans H; with_reducible exact H2_) | with_reducible exact H | (rw [hy158]; exact H) | exact H
                have Ny158 := zA.mk hy158; clear hy158; have H' := zA.mk H
                clear H; have p155 : 0 ≤ (x5_1 : Int) := of_decide_eq_true (by first | (with_reducible assumption) | assumption)
                have q155 : x5_1 < (l0.length : Int) := of_decide_eq_true (by first | (with_reducible assumption) | assumption)
                obtain ⟨ad155, e155, hx155_0, hx155_1, hx155_2, hx155_3⟩ := at_T50 HR0.out x5_1 p155 q155; cases e155
                replace hx155_0 := (HB.out.cell (World.block_lt_of_cell? w _ hx155_0)).trans hx155_0; replace hx155_1 := (HB.out.cell (World.block_lt_of_cell? w _ hx155_1)).trans hx155_1; replace hx155_2 := (HB.out.cell (World.block_lt_of_cell? w _ hx155_2)).trans hx155_2; replace hx155_3 := (HB.out.cell (World.block_lt_of_cell? w _ hx155_3)).trans hx155_3; replace p155 := eq_true p155; replace q155 := eq_true q155; go_wp2_with (first | ((with_reducible refine gate_dst (N := 6) rfl ?_); refine box_event ?hg (N := 6) ?hd (cs := #[.int .u8 0, .int .u8 0, .int .u8 0, .int .u8 0]) (t := 50) ?hr ?_; (case hd => rfl); (case hg => rfl); (case hr => first | (go_simp; done) | (go_simp; rfl)); intro gb156 hg w12 hbox hb; have n0_ := zA.mk (Kd.R_below (by (with_reducible repeat (first | apply Kd.R_alloc | apply Kd.R_drewN | apply Kd.R_drew)); exact HO_155000.out) hb); have n1_ := zA.mk (zL (g := gb153) (o := .cells #[.slice none 0 0, .slice none 0 0] 35 (0, 0)) (by (with_reducible repeat (first | refine zC ?_ _ | refine zD ?_ | refine zB ?_ _)); exact BK153.out) hb); have n2_ := zA.mk (zL (g := gb154) (o := .cells #[u155000, .slice none 0 0] 35 (0, 0)) (by (with_reducible repeat (first | refine zC ?_ _ | refine zD ?_ | refine zB ?_ _)); exact BK154.out) hb); have n3_ := zA.mk (zO (by repeat (first | (with_reducible first | exact HB.out | apply zI | apply zF | apply zH | refine zE ?_ GE153.out | refine zE ?_ GE154.out) | exact HB.out)) hb); have n4_ := zA.mk (hbox); have n5_ := zA.mk ((by rw [hg]; exact (zK (by repeat (first | (with_reducible first | exact HB.out | apply zI | apply zF | apply zH | refine zE ?_ GE153.out | refine zE ?_ GE154.out) | exact HB.out))) : w.heap.size ≤ gb156)); have n6_ := zA.mk ((by rw [hg]; exact (zK (by repeat (first | (with_reducible first | exact HB.out | apply zI | apply zF | apply zH | refine zE ?_ GE153.out | refine zE ?_ GE154.out) | exact HB.out))) : w.heap.size ≤ gb156)); have n7_ := zA.mk ((by rw [hg]; exact Nat.ne_of_lt (blk_lt (g := gb153) (o := .cells #[.slice none 0 0, .slice none 0 0] 35 (0, 0)) (by (with_reducible repeat (first | refine zC ?_ _ | refine zD ?_ | refine zB ?_ _)); exact BK153.out)) : gb153 ≠ gb156)); have n8_ := zA.mk ((by rw [hg]; exact Nat.ne_of_gt (blk_lt (g := gb153) (o := .cells #[.slice none 0 0, .slice none 0 0] 35 (0, 0)) (by (with_reducible repeat (first | refine zC ?_ _ | refine zD ?_ | refine zB ?_ _)); exact BK153.out)) : gb156 ≠ gb153)); have n9_ := zA.mk ((by rw [hg]; exact Nat.ne_of_lt (blk_lt (g := gb154) (o := .cells #[u155000, .slice none 0 0] 35 (0, 0)) (by (with_reducible repeat (first | refine zC ?_ _ | refine zD ?_ | refine zB ?_ _)); exact BK154.out)) : gb154 ≠ gb156)); have n10_ := zA.mk ((by rw [hg]; exact Nat.ne_of_gt (blk_lt (g := gb154) (o := .cells #[u155000, .slice none 0 0] 35 (0, 0)) (by (with_reducible repeat (first | refine zC ?_ _ | refine zD ?_ | refine zB ?_ _)); exact BK154.out)) : gb156 ≠ gb154)); clear HO_155000; clear BK153; clear BK154; clear HB; have HO_155000 := n0_; have BK153 := n1_; have BK154 := n2_; have HB := n3_; have BK156 := n4_; have GW156 := n5_; have GE156 := n6_; have NB153_156 := n7_; have NB156_153 := n8_; have NB154_156 := n9_; have NB156_154 := n10_; clear n0_ n1_ n2_ n3_ n4_ n5_ n6_ n7_ n8_ n9_ n10_; clear hb hbox hg; have hnb13 := NB156_153.out; have hnc13 := NB153_156.out; have hnb14 := NB156_154.out; have hnc14 := NB154_156.out; have hcz15_0 : w12.cell? ⟨gb156, 0, none⟩ = some (.int .u8 0) := (zG BK156.out 0).trans rfl; have hcz15_1 : w12.cell? ⟨gb156, 1, none⟩ = some (.int .u8 0) := (zG BK156.out 1).trans rfl; have hcz15_2 : w12.cell? ⟨gb156, 2, none⟩ = some (.int .u8 0) := (zG BK156.out 2).trans rfl; have hcz15_3 : w12.cell? ⟨gb156, 3, none⟩ = some (.int .u8 0) := (zG BK156.out 3).trans rfl; have hfz15_0 := zJ BK156.out 0; have hfz15_1 := zJ BK156.out 1; have hfz15_2 := zJ BK156.out 2; have hfz15_3 := zJ BK156.out 3) | ((with_reducible refine gate_store (t := 50) (p := 6) rfl ?_); refine store_event (t := 50) (p := 6) (v := ?vo_w16) (w1 := ((((w12.setCell ⟨gb156, 0, none⟩ (.int .u8 ((rd_T50 l0 x5_1).f0))).setCell ⟨gb156, 1, none⟩ (.int .u8 ((rd_T50 l0 x5_1).f1))).setCell ⟨gb156, 2, none⟩ (.int .u8 ((rd_T50 l0 x5_1).f2))).setCell ⟨gb156, 3, none⟩ (.int .u8 ((rd_T50 l0 x5_1).f3)))) ?hg ?ho ?hn ?hr ?_; (case ho => rfl); (case hg => rfl); (case hn => rfl); (case hr => first | (go_simp; done) | (go_simp; rfl)); intro w16 hw; have n0_ : zA (Kd.R k41 41 w16 w.heap.size (fun _ => True) u155000 x155000_1) := ⟨(by rw [hw]; exact (by (with_reducible repeat (first | apply Kd.R_alloc | apply Kd.R_drewN | apply Kd.R_drew)); exact Kd.R_mono (Kd.R_far (p := ⟨gb156, 3, none⟩) (Kd.R_far (p := ⟨gb156, 2, none⟩) (Kd.R_far (p := ⟨gb156, 1, none⟩) (Kd.R_far (p := ⟨gb156, 0, none⟩) (Kd.R_types HO_155000.out BK156.out (by decide)) (fun _ hk => hk.2) (.int .u8 ((rd_T50 l0 x5_1).f0))) (fun _ hk => hk.2) (.int .u8 ((rd_T50 l0 x5_1).f1))) (fun _ hk => hk.2) (.int .u8 ((rd_T50 l0 x5_1).f2))) (fun _ hk => hk.2) (.int .u8 ((rd_T50 l0 x5_1).f3))) (fun _ hk => trivial)))⟩; have n1_ : zA (w16.heap[gb153]? = some (.cells #[.slice none 0 0, .slice none 0 0] 35 (0, 0))) := ⟨(by rw [hw]; exact (by (with_reducible repeat (first | refine zC ?_ _ | refine zD ?_ | refine zB ?_ _)); refine blk_far ?_ NB153_156.out _; (with_reducible repeat (first | refine zC ?_ _ | refine zD ?_ | refine zB ?_ _)); refine blk_far ?_ NB153_156.out _; (with_reducible repeat (first | refine zC ?_ _ | refine zD ?_ | refine zB ?_ _)); refine blk_far ?_ NB153_156.out _; (with_reducible repeat (first | refine zC ?_ _ | refine zD ?_ | refine zB ?_ _)); refine blk_far ?_ NB153_156.out _; (with_reducible repeat (first | refine zC ?_ _ | refine zD ?_ | refine zB ?_ _)); exact BK153.out))⟩; have n2_ : zA (w16.heap[gb154]? = some (.cells #[u155000, .slice none 0 0] 35 (0, 0))) := ⟨(by rw [hw]; exact (by (with_reducible repeat (first | refine zC ?_ _ | refine zD ?_ | refine zB ?_ _)); refine blk_far ?_ NB154_156.out _; (with_reducible repeat (first | refine zC ?_ _ | refine zD ?_ | refine zB ?_ _)); refine blk_far ?_ NB154_156.out _; (with_reducible repeat (first | refine zC ?_ _ | refine zD ?_ | refine zB ?_ _)); refine blk_far ?_ NB154_156.out _; (with_reducible repeat (first | refine zC ?_ _ | refine zD ?_ | refine zB ?_ _)); refine blk_far ?_ NB154_156.out _; (with_reducible repeat (first | refine zC ?_ _ | refine zD ?_ | refine zB ?_ _)); exact BK154.out))⟩; have n3_ : zA (w16.heap[gb156]? = some (.cells #[.int .u8 ((rd_T50 l0 x5_1).f0), .int .u8 ((rd_T50 l0 x5_1).f1), .int .u8 ((rd_T50 l0 x5_1).f2), .int .u8 ((rd_T50 l0 x5_1).f3)] 50 (0, 0))) := ⟨(by rw [hw]; exact (by (with_reducible repeat (first | refine zC ?_ _ | refine zD ?_ | refine zB ?_ _)); refine blk_put (cs := #[.int .u8 ((rd_T50 l0 x5_1).f0), .int .u8 ((rd_T50 l0 x5_1).f1), .int .u8 ((rd_T50 l0 x5_1).f2), .int .u8 0]) ?_ 3 _ rfl; (with_reducible repeat (first | refine zC ?_ _ | refine zD ?_ | refine zB ?_ _)); refine blk_put (cs := #[.int .u8 ((rd_T50 l0 x5_1).f0), .int .u8 ((rd_T50 l0 x5_1).f1), .int .u8 0, .int .u8 0]) ?_ 2 _ rfl; (with_reducible repeat (first | refine zC ?_ _ | refine zD ?_ | refine zB ?_ _)); refine blk_put (cs := #[.int .u8 ((rd_T50 l0 x5_1).f0), .int .u8 0, .int .u8 0, .int .u8 0]) ?_ 1 _ rfl; (with_reducible repeat (first | refine zC ?_ _ | refine zD ?_ | refine zB ?_ _)); refine blk_put (cs := #[.int .u8 0, .int .u8 0, .int .u8 0, .int .u8 0]) ?_ 0 _ rfl; (with_reducible repeat (first | refine zC ?_ _ | refine zD ?_ | refine zB ?_ _)); exact BK156.out))⟩; have n4_ : zA (Below w.heap.size w w16) := ⟨(by rw [hw]; exact (by repeat (first | (with_reducible first | exact HB.out | apply zI | apply zF | apply zH | refine zE ?_ GE153.out | refine zE ?_ GE154.out | refine zE ?_ GE156.out) | exact HB.out)))⟩; clear hw; clear HO_155000; clear BK153; clear BK154; clear BK156; clear HB; have HO_155000 := n0_; have BK153 := n1_; have BK154 := n2_; have BK156 := n3_; have HB := n4_; clear n0_ n1_ n2_ n3_ n4_; have hcz17_0 : w16.cell? ⟨gb156, 0, none⟩ = some (.int .u8 ((rd_T50 l0 x5_1).f0)) := (zG BK156.out 0).trans rfl; have hcz17_1 : w16.cell? ⟨gb156, 1, none⟩ = some (.int .u8 ((rd_T50 l0 x5_1).f1)) := (zG BK156.out 1).trans rfl; have hcz17_2 : w16.cell? ⟨gb156, 2, none⟩ = some (.int .u8 ((rd_T50 l0 x5_1).f2)) := (zG BK156.out 2).trans rfl; have hcz17_3 : w16.cell? ⟨gb156, 3, none⟩ = some (.int .u8 ((rd_T50 l0 x5_1).f3)) := (zG BK156.out 3).trans rfl; have hfz17_0 := zJ BK156.out 0; have hfz17_1 := zJ BK156.out 1; have hfz17_2 := zJ BK156.out 2; have hfz17_3 := zJ BK156.out 3) | ((with_reducible refine gate_dst (N := 7) rfl ?_); refine box_event ?hg (N := 7) ?hd (cs := #[.int .i64 0, .int .i64 0, .int .i64 0, .int .u8 0]) (t := 41) ?hr ?_; (case hd => rfl); (case hg => rfl); (case hr => first | (go_simp; done) | (go_simp; rfl)); intro gb157 hg w18 hbox hb; have n0_ := zA.mk (Kd.R_below (Kd.R_elderB (by (with_reducible repeat (first | apply Kd.R_alloc | apply Kd.R_drewN | apply Kd.R_drew)); exact HO_155000.out) gb157 (Nat.le_of_eq hg.symm)) hb); have n1_ := zA.mk (zL (g := gb153) (o := .cells #[.slice none 0 0, .slice none 0 0] 35 (0, 0)) (by (with_reducible repeat (first | refine zC ?_ _ | refine zD ?_ | refine zB ?_ _)); exact BK153.out) hb); have n2_ := zA.mk (zL (g := gb154) (o := .cells #[u155000, .slice none 0 0] 35 (0, 0)) (by (with_reducible repeat (first | refine zC ?_ _ | refine zD ?_ | refine zB ?_ _)); exact BK154.out) hb); have n3_ := zA.mk (zL (g := gb156) (o := .cells #[.int .u8 ((rd_T50 l0 x5_1).f0), .int .u8 ((rd_T50 l0 x5_1).f1), .int .u8 ((rd_T50 l0 x5_1).f2), .int .u8 ((rd_T50 l0 x5_1).f3)] 50 (0, 0)) (by (with_reducible repeat (first | refine zC ?_ _ | refine zD ?_ | refine zB ?_ _)); exact BK156.out) hb); have n4_ := zA.mk (zO (by repeat (first | (with_reducible first | exact HB.out | apply zI | apply zF | apply zH | refine zE ?_ GE153.out | refine zE ?_ GE154.out | refine zE ?_ GE156.out) | exact HB.out)) hb); have n5_ := zA.mk (hbox); have n6_ := zA.mk ((by rw [hg]; exact (zK (by repeat (first | (with_reducible first | exact HB.out | apply zI | apply zF | apply zH | refine zE ?_ GE153.out | refine zE ?_ GE154.out | refine zE ?_ GE156.out) | exact HB.out))) : w.heap.size ≤ gb157)); have n7_ := zA.mk ((by rw [hg]; exact (zK (by repeat (first | (with_reducible first | exact HB.out | apply zI | apply zF | apply zH | refine zE ?_ GE153.out | refine zE ?_ GE154.out | refine zE ?_ GE156.out) | exact HB.out))) : w.heap.size ≤ gb157)); have n8_ := zA.mk ((by rw [hg]; exact Nat.ne_of_lt (blk_lt (g := gb153) (o := .cells #[.slice none 0 0, .slice none 0 0] 35 (0, 0)) (by (with_reducible repeat (first | refine zC ?_ _ | refine zD ?_ | refine zB ?_ _)); exact BK153.out)) : gb153 ≠ gb157)); have n9_ := zA.mk ((by rw [hg]; exact Nat.ne_of_gt (blk_lt (g := gb153) (o := .cells #[.slice none 0 0, .slice none 0 0] 35 (0, 0)) (by (with_reducible repeat (first | refine zC ?_ _ | refine zD ?_ | refine zB ?_ _)); exact BK153.out)) : gb157 ≠ gb153)); have n10_ := zA.mk ((by rw [hg]; exact Nat.ne_of_lt (blk_lt (g := gb154) (o := .cells #[u155000, .slice none 0 0] 35 (0, 0)) (by (with_reducible repeat (first | refine zC ?_ _ | refine zD ?_ | refine zB ?_ _)); exact BK154.out)) : gb154 ≠ gb157)); have n11_ := zA.mk ((by rw [hg]; exact Nat.ne_of_gt (blk_lt (g := gb154) (o := .cells #[u155000, .slice none 0 0] 35 (0, 0)) (by (with_reducible repeat (first | refine zC ?_ _ | refine zD ?_ | refine zB ?_ _)); exact BK154.out)) : gb157 ≠ gb154)); have n12_ := zA.mk ((by rw [hg]; exact Nat.ne_of_lt (blk_lt (g := gb156) (o := .cells #[.int .u8 ((rd_T50 l0 x5_1).f0), .int .u8 ((rd_T50 l0 x5_1).f1), .int .u8 ((rd_T50 l0 x5_1).f2), .int .u8 ((rd_T50 l0 x5_1).f3)] 50 (0, 0)) (by (with_reducible repeat (first | refine zC ?_ _ | refine zD ?_ | refine zB ?_ _)); exact BK156.out)) : gb156 ≠ gb157)); have n13_ := zA.mk ((by rw [hg]; exact Nat.ne_of_gt (blk_lt (g := gb156) (o := .cells #[.int .u8 ((rd_T50 l0 x5_1).f0), .int .u8 ((rd_T50 l0 x5_1).f1), .int .u8 ((rd_T50 l0 x5_1).f2), .int .u8 ((rd_T50 l0 x5_1).f3)] 50 (0, 0)) (by (with_reducible repeat (first | refine zC ?_ _ | refine zD ?_ | refine zB ?_ _)); exact BK156.out)) : gb157 ≠ gb156)); clear HO_155000; clear BK153; clear BK154; clear BK156; clear HB; have HO_155000 := n0_; have BK153 := n1_; have BK154 := n2_; have BK156 := n3_; have HB := n4_; have BK157 := n5_; have GW157 := n6_; have GE157 := n7_; have NB153_157 := n8_; have NB157_153 := n9_; have NB154_157 := n10_; have NB157_154 := n11_; have NB156_157 := n12_; have NB157_156 := n13_; clear n0_ n1_ n2_ n3_ n4_ n5_ n6_ n7_ n8_ n9_ n10_ n11_ n12_ n13_; clear hb hbox hg; have hnb19 := NB157_153.out; have hnc19 := NB153_157.out; have hnb20 := NB157_154.out; have hnc20 := NB154_157.out; have hnb21 := NB157_156.out; have hnc21 := NB156_157.out; have hcz22_0 : w18.cell? ⟨gb157, 0, none⟩ = some (.int .i64 0) := (zG BK157.out 0).trans rfl; have hcz22_1 : w18.cell? ⟨gb157, 1, none⟩ = some (.int .i64 0) := (zG BK157.out 1).trans rfl; have hcz22_2 : w18.cell? ⟨gb157, 2, none⟩ = some (.int .i64 0) := (zG BK157.out 2).trans rfl; have hcz22_3 : w18.cell? ⟨gb157, 3, none⟩ = some (.int .u8 0) := (zG BK157.out 3).trans rfl; have hfz22_0 := zJ BK157.out 0; have hfz22_1 := zJ BK157.out 1; have hfz22_2 := zJ BK157.out 2; have hfz22_3 := zJ BK157.out 3) | ((with_reducible refine gate_store (t := 41) (p := 7) rfl ?_); refine store_event (t := 41) (p := 7) (v := ?vo_w23) (w1 := ((((w18.setCell ⟨gb157, 0, none⟩ (.int .i64 x4_1)).setCell ⟨gb157, 1, none⟩ (.int .i64 (wrap64 (1 + (wrap64 (Int.tmod ((rd_T50 l0 x5_1).f2) 4)))))).setCell ⟨gb157, 2, none⟩ (.int .i64 (wrap64 (Int.tmod ((rd_T50 l0 x5_1).f0) 3)))).setCell ⟨gb157, 3, none⟩ (.int .u8 (Int.tmod ((rd_T50 l0 x5_1).f1) 3)))) ?hg ?ho ?hn ?hr ?_; (case ho => rfl); (case hg => rfl); (case hn => rfl); (case hr => first | (go_simp; done) | (go_simp; rfl)); intro w23 hw; have n0_ : zA (Kd.R k41 41 w23 w.heap.size (fun k_ => k_ ≠ gb157) u155000 x155000_1) := ⟨(by rw [hw]; exact (by (with_reducible repeat (first | apply Kd.R_alloc | apply Kd.R_drewN | apply Kd.R_drew)); exact Kd.R_mono (Kd.R_far (p := ⟨gb157, 3, none⟩) (Kd.R_far (p := ⟨gb157, 2, none⟩) (Kd.R_far (p := ⟨gb157, 1, none⟩) (Kd.R_far (p := ⟨gb157, 0, none⟩) (Kd.R_mono HO_155000.out (fun k_ hk => (⟨hk, hk.2⟩ : _ ∧ k_ ≠ gb157))) (fun _ hk => hk.2) (.int .i64 x4_1)) (fun _ hk => hk.2) (.int .i64 (wrap64 (1 + (wrap64 (Int.tmod ((rd_T50 l0 x5_1).f2) 4)))))) (fun _ hk => hk.2) (.int .i64 (wrap64 (Int.tmod ((rd_T50 l0 x5_1).f0) 3)))) (fun _ hk => hk.2) (.int .u8 (Int.tmod ((rd_T50 l0 x5_1).f1) 3))) (fun _ hk => hk.1.2)))⟩; have n1_ : zA (w23.heap[gb153]? = some (.cells #[.slice none 0 0, .slice none 0 0] 35 (0, 0))) := ⟨(by rw [hw]; exact (by (with_reducible repeat (first | refine zC ?_ _ | refine zD ?_ | refine zB ?_ _)); refine blk_far ?_ NB153_157.out _; (with_reducible repeat (first | refine zC ?_ _ | refine zD ?_ | refine zB ?_ _)); refine blk_far ?_ NB153_157.out _; (with_reducible repeat (first | refine zC ?_ _ | refine zD ?_ | refine zB ?_ _)); refine blk_far ?_ NB153_157.out _; (with_reducible repeat (first | refine zC ?_ _ | refine zD ?_ | refine zB ?_ _)); refine blk_far ?_ NB153_157.out _; (with_reducible repeat (first | refine zC ?_ _ | refine zD ?_ | refine zB ?_ _)); exact BK153.out))⟩; have n2_ : zA (w23.heap[gb154]? = some (.cells #[u155000, .slice none 0 0] 35 (0, 0))) := ⟨(by rw [hw]; exact (by (with_reducible repeat (first | refine zC ?_ _ | refine zD ?_ | refine zB ?_ _)); refine blk_far ?_ NB154_157.out _; (with_reducible repeat (first | refine zC ?_ _ | refine zD ?_ | refine zB ?_ _)); refine blk_far ?_ NB154_157.out _; (with_reducible repeat (first | refine zC ?_ _ | refine zD ?_ | refine zB ?_ _)); refine blk_far ?_ NB154_157.out _; (with_reducible repeat (first | refine zC ?_ _ | refine zD ?_ | refine zB ?_ _)); refine blk_far ?_ NB154_157.out _; (with_reducible repeat (first | refine zC ?_ _ | refine zD ?_ | refine zB ?_ _)); exact BK154.out))⟩; have n3_ : zA (w23.heap[gb156]? = some (.cells #[.int .u8 ((rd_T50 l0 x5_1).f0), .int .u8 ((rd_T50 l0 x5_1).f1), .int .u8 ((rd_T50 l0 x5_1).f2), .int .u8 ((rd_T50 l0 x5_1).f3)] 50 (0, 0))) := ⟨(by rw [hw]; exact (by (with_reducible repeat (first | refine zC ?_ _ | refine zD ?_ | refine zB ?_ _)); refine blk_far ?_ NB156_157.out _; (with_reducible repeat (first | refine zC ?_ _ | refine zD ?_ | refine zB ?_ _)); refine blk_far ?_ NB156_157.out _; (with_reducible repeat (first | refine zC ?_ _ | refine zD ?_ | refine zB ?_ _)); refine blk_far ?_ NB156_157.out _; (with_reducible repeat (first | refine zC ?_ _ | refine zD ?_ | refine zB ?_ _)); refine blk_far ?_ NB156_157.out _; (with_reducible repeat (first | refine zC ?_ _ | refine zD ?_ | refine zB ?_ _)); exact BK156.out))⟩; have n4_ : zA (w23.heap[gb157]? = some (.cells #[.int .i64 x4_1, .int .i64 (wrap64 (1 + (wrap64 (Int.tmod ((rd_T50 l0 x5_1).f2) 4)))), .int .i64 (wrap64 (Int.tmod ((rd_T50 l0 x5_1).f0) 3)), .int .u8 (Int.tmod ((rd_T50 l0 x5_1).f1) 3)] 41 (0, 0))) := ⟨(by rw [hw]; exact (by (with_reducible repeat (first | refine zC ?_ _ | refine zD ?_ | refine zB ?_ _)); refine blk_put (cs := #[.int .i64 x4_1, .int .i64 (wrap64 (1 + (wrap64 (Int.tmod ((rd_T50 l0 x5_1).f2) 4)))), .int .i64 (wrap64 (Int.tmod ((rd_T50 l0 x5_1).f0) 3)), .int .u8 0]) ?_ 3 _ rfl; (with_reducible repeat (first | refine zC ?_ _ | refine zD ?_ | refine zB ?_ _)); refine blk_put (cs := #[.int .i64 x4_1, .int .i64 (wrap64 (1 + (wrap64 (Int.tmod ((rd_T50 l0 x5_1).f2) 4)))), .int .i64 0, .int .u8 0]) ?_ 2 _ rfl; (with_reducible repeat (first | refine zC ?_ _ | refine zD ?_ | refine zB ?_ _)); refine blk_put (cs := #[.int .i64 x4_1, .int .i64 0, .int .i64 0, .int .u8 0]) ?_ 1 _ rfl; (with_reducible repeat (first | refine zC ?_ _ | refine zD ?_ | refine zB ?_ _)); refine blk_put (cs := #[.int .i64 0, .int .i64 0, .int .i64 0, .int .u8 0]) ?_ 0 _ rfl; (with_reducible repeat (first | refine zC ?_ _ | refine zD ?_ | refine zB ?_ _)); exact BK157.out))⟩; have n5_ : zA (Below w.heap.size w w23) := ⟨(by rw [hw]; exact (by repeat (first | (with_reducible first | exact HB.out | apply zI | apply zF | apply zH | refine zE ?_ GE153.out | refine zE ?_ GE154.out | refine zE ?_ GE156.out | refine zE ?_ GE157.out) | exact HB.out)))⟩; clear hw; clear HO_155000; clear BK153; clear BK154; clear BK156; clear BK157; clear HB; have HO_155000 := n0_; have BK153 := n1_; have BK154 := n2_; have BK156 := n3_; have BK157 := n4_; have HB := n5_; clear n0_ n1_ n2_ n3_ n4_ n5_; have hcz24_0 : w23.cell? ⟨gb157, 0, none⟩ = some (.int .i64 x4_1) := (zG BK157.out 0).trans rfl; have hcz24_1 : w23.cell? ⟨gb157, 1, none⟩ = some (.int .i64 (wrap64 (1 + (wrap64 (Int.tmod ((rd_T50 l0 x5_1).f2) 4))))) := (zG BK157.out 1).trans rfl; have hcz24_2 : w23.cell? ⟨gb157, 2, none⟩ = some (.int .i64 (wrap64 (Int.tmod ((rd_T50 l0 x5_1).f0) 3))) := (zG BK157.out 2).trans rfl; have hcz24_3 : w23.cell? ⟨gb157, 3, none⟩ = some (.int .u8 (Int.tmod ((rd_T50 l0 x5_1).f1) 3)) := (zG BK157.out 3).trans rfl; have hfz24_0 := zJ BK157.out 0; have hfz24_1 := zJ BK157.out 1; have hfz24_2 := zJ BK157.out 2; have hfz24_3 := zJ BK157.out 3; have hnb25 := NB154_153.out; have hnc25 := NB153_154.out; have hcz26_0 : w23.cell? ⟨gb154, 0, none⟩ = some (u155000) := (zG BK154.out 0).trans rfl; have hcz26_1 : w23.cell? ⟨gb154, 1, none⟩ = some (.slice none 0 0) := (zG BK154.out 1).trans rfl; have hfz26_0 := zJ BK154.out 0; have hfz26_1 := zJ BK154.out 1) | ((with_reducible refine gate_builtin (b := .append) (xs := #[.tmp 44, .tmp 46]) rfl ?_); at_builtin; refine Kd.R_append k41 (w0 := w) w.heap.size rfl (.tmp 44) (.tmp 46) 32 41 (.agg #[(.int .i64 0), (.int .i64 0), (.int .i64 0), (.int .u8 0)]) 32 rfl Try.underlying32 info41 rfl (by decide) (by omega) u155000 x155000_1 (⟨x4_1, wrap64 (1 + (wrap64 (Int.tmod ((rd_T50 l0 x5_1).f2) 4))), wrap64 (Int.tmod ((rd_T50 l0 x5_1).f0) 3), Int.tmod ((rd_T50 l0 x5_1).f1) 3⟩ : S41) [.int .i64 x4_1, .int .i64 (wrap64 (1 + (wrap64 (Int.tmod ((rd_T50 l0 x5_1).f2) 4)))), .int .i64 (wrap64 (Int.tmod ((rd_T50 l0 x5_1).f0) 3)), .int .u8 (Int.tmod ((rd_T50 l0 x5_1).f1) 3)] (fun k_ => k_ ≠ gb157) (fun _ => False) rfl rfl ?aP (fun _ hk => hk.elim) ?aF ?aO ?aB ?aS ?aL ?_; (case aP => exact k41_mkM _ _ _ (⟨x4_1, wrap64 (1 + (wrap64 (Int.tmod ((rd_T50 l0 x5_1).f2) 4))), wrap64 (Int.tmod ((rd_T50 l0 x5_1).f0) 3), Int.tmod ((rd_T50 l0 x5_1).f1) 3⟩ : S41)); (case aB => exact (by repeat (first | (with_reducible first | exact HB.out | apply zI | apply zF | apply zH | refine zE ?_ GE153.out | refine zE ?_ GE154.out | refine zE ?_ GE156.out | refine zE ?_ GE157.out) | exact HB.out))); (case aF => exact (fun k_ hk => Kd.freshB (g := gb157) (o := .cells #[.int .i64 x4_1, .int .i64 (wrap64 (1 + (wrap64 (Int.tmod ((rd_T50 l0 x5_1).f2) 4)))), .int .i64 (wrap64 (Int.tmod ((rd_T50 l0 x5_1).f0) 3)), .int .u8 (Int.tmod ((rd_T50 l0 x5_1).f1) 3)] 41 (0, 0)) (by (with_reducible repeat (first | refine zC ?_ _ | refine zD ?_ | refine zB ?_ _)); exact BK157.out) k_ hk)); (case aO => exact (by (with_reducible repeat (first | apply Kd.R_alloc | apply Kd.R_drewN | apply Kd.R_drew)); exact HO_155000.out)); (case aS => exact (zK (by repeat (first | (with_reducible first | exact HB.out | apply zI | apply zF | apply zH | refine zE ?_ GE153.out | refine zE ?_ GE154.out | refine zE ?_ GE156.out | refine zE ?_ GE157.out) | exact HB.out)))); (case aL => have := LMc11.out; omega); intro v159 w27 ho hb hg hat; rw [← Ny158.out] at ho; have n0_ := zA.mk (blk_grown (g := gb153) (o := .cells #[.slice none 0 0, .slice none 0 0] 35 (0, 0)) (by (with_reducible repeat (first | refine zC ?_ _ | refine zD ?_ | refine zB ?_ _)); exact BK153.out) hg (Kd.R_ne HO_155000.out BK153.out (by decide))); have n1_ := zA.mk (blk_grown (g := gb154) (o := .cells #[u155000, .slice none 0 0] 35 (0, 0)) (by (with_reducible repeat (first | refine zC ?_ _ | refine zD ?_ | refine zB ?_ _)); exact BK154.out) hg (Kd.R_ne HO_155000.out BK154.out (by decide))); have n2_ := zA.mk (blk_grown (g := gb156) (o := .cells #[.int .u8 ((rd_T50 l0 x5_1).f0), .int .u8 ((rd_T50 l0 x5_1).f1), .int .u8 ((rd_T50 l0 x5_1).f2), .int .u8 ((rd_T50 l0 x5_1).f3)] 50 (0, 0)) (by (with_reducible repeat (first | refine zC ?_ _ | refine zD ?_ | refine zB ?_ _)); exact BK156.out) hg (Kd.R_ne HO_155000.out BK156.out (by decide))); have n3_ := zA.mk (blk_grown (g := gb157) (o := .cells #[.int .i64 x4_1, .int .i64 (wrap64 (1 + (wrap64 (Int.tmod ((rd_T50 l0 x5_1).f2) 4)))), .int .i64 (wrap64 (Int.tmod ((rd_T50 l0 x5_1).f0) 3)), .int .u8 (Int.tmod ((rd_T50 l0 x5_1).f1) 3)] 41 (0, 0)) (by (with_reducible repeat (first | refine zC ?_ _ | refine zD ?_ | refine zB ?_ _)); exact BK157.out) hg (Kd.R_away HO_155000.out (fun _ hk => hk))); have n4_ := zA.mk (hb); have n5_ := zA.mk (ho); clear BK153; clear BK154; clear BK156; clear BK157; clear HB; clear HO_155000; have BK153 := n0_; have BK154 := n1_; have BK156 := n2_; have BK157 := n3_; have HB := n4_; have HO160 := n5_; clear n0_ n1_ n2_ n3_ n4_ n5_; clear ho hb hg hat; obtain ⟨Ao28, co28, eo28⟩ := Kd.R_slice HO160.out; subst eo28; have hcz29_0 : w27.cell? ⟨gb154, 0, none⟩ = some (u155000) := (zG BK154.out 0).trans rfl; have hcz29_1 : w27.cell? ⟨gb154, 1, none⟩ = some (.slice none 0 0) := (zG BK154.out 1).trans rfl; have hfz29_0 := zJ BK154.out 0; have hfz29_1 := zJ BK154.out 1))
                go_roundg k1
                case measure => have := HK1.out; omega
                case rel => exact ⟨(wrap64 (x4_1 + (wrap64 (1 + (wrap64 (Int.tmod ((rd_T50 l0 x5_1).f2) 4)))))), (wrap64 (x5_1 + 1)), (y158), (.slice Ao28 y158.length co28), (by first | rfl | (simp; done) | (simp [*]; done)), (by first | rfl | (simp; done) | (simp [*]; done)), H', ⟨by have := HK1.out; omega⟩, ⟨by (with_reducible repeat (first | apply Kd.R_alloc | apply Kd.R_drewN | apply Kd.R_drew)); exact Kd.R_mono (Kd.R_far (p := ⟨gb154, 0, none⟩) (Kd.R_types HO160.out BK154.out (by decide)) (fun _ hk => hk.2) (.slice Ao28 y158.length co28)) (fun _ hk => trivial)⟩, ⟨by (with_reducible repeat (first | refine zC ?_ _ | refine zD ?_ | refine zB ?_ _)); refine blk_far ?_ NB153_154.out _; (with_reducible repeat (first | refine zC ?_ _ | refine zD ?_ | refine zB ?_ _)); exact BK153.out⟩, ⟨by (with_reducible repeat (first | refine zC ?_ _ | refine zD ?_ | refine zB ?_ _)); refine blk_put (cs := #[u155000, .slice none 0 0]) ?_ 0 _ rfl; (with_reducible repeat (first | refine zC ?_ _ | refine zD ?_ | refine zB ?_ _)); exact BK154.out⟩, ⟨by repeat (first | (with_reducible first | exact HB.out | apply zI | apply zF | apply zH | refine zE ?_ GE153.out | refine zE ?_ GE154.out | refine zE ?_ GE156.out | refine zE ?_ GE157.out) | exact HB.out)⟩⟩
              · rw [if_neg c11] at H
                exact absurd H (by simp)
            · rw [if_neg c10] at H
              exact absurd H (by simp)
          · rw [if_neg c9] at H
            have c9b0 : decide (x4_1 < 4000) = false := decide_eq_false c9
            clear c9; have H' := zA.mk H
            clear H; go_wp2
            go_meet
            case rel => exact ⟨_, (x155000_1), (u155000), H', ⟨by have := HK1.out; first | omega | exact Nat.le_refl _⟩, ⟨by (with_reducible repeat (first | apply Kd.R_alloc | apply Kd.R_drewN | apply Kd.R_drew)); exact HO_155000.out⟩, ⟨by (with_reducible repeat (first | refine zC ?_ _ | refine zD ?_ | refine zB ?_ _)); exact BK153.out⟩, ⟨by (with_reducible repeat (first | refine zC ?_ _ | refine zD ?_ | refine zB ?_ _)); exact BK154.out⟩, ⟨by repeat (first | (with_reducible first | exact HB.out | apply zI | apply zF | apply zH | refine zE ?_ GE153.out | refine zE ?_ GE154.out) | exact HB.out)⟩⟩
        · rw [if_neg c8] at H
          have c8b0 : decide (x5_1 < (l0.length : Int)) = false := decide_eq_false c8
          clear c8; (first | rw [c8b0] | (simp only [zM, zN]; rw [c8b0]) | skip)
          have H' := zA.mk H
          clear H; go_wp2
          go_meet
          case rel => exact ⟨_, (x155000_1), (u155000), H', ⟨by have := HK1.out; first | omega | exact Nat.le_refl _⟩, ⟨by (with_reducible repeat (first | apply Kd.R_alloc | apply Kd.R_drewN | apply Kd.R_drew)); exact HO_155000.out⟩, ⟨by (with_reducible repeat (first | refine zC ?_ _ | refine zD ?_ | refine zB ?_ _)); exact BK153.out⟩, ⟨by (with_reducible repeat (first | refine zC ?_ _ | refine zD ?_ | refine zB ?_ _)); exact BK154.out⟩, ⟨by repeat (first | (with_reducible first | exact HB.out | apply zI | apply zF | apply zH | refine zE ?_ GE153.out | refine zE ?_ GE154.out) | exact HB.out)⟩⟩
  case rest =>
    clear HC2; try clear c1
    try clear p1
    try clear q1
    try clear hx1
    try clear c2
    try clear p2
    try clear c5
    try clear p6
    try clear c8
    try clear c8b0
    try clear c9
    try clear c9b0
    try clear c10
    try clear c10b0
    try clear c11
    try clear c13
    try clear c14
    try clear p15
    try clear q15
    try clear hx15
    try clear c19
    try clear c20
    try clear c21
    try clear c25
    try clear hcz15_0
    try clear hcz15_1
    try clear hcz15_2
    try clear hcz15_3
    try clear hcz17_0
    try clear hcz17_1
    try clear hcz17_2
    try clear hcz17_3
    try clear hcz22_0
    try clear hcz22_1
    try clear hcz22_2
    try clear hcz22_3
    try clear hcz24_0
    try clear hcz24_1
    try clear hcz24_2
    try clear hcz24_3
    try clear hcz26_0
    try clear hcz26_1
    try clear hcz29_0
    try clear hcz29_1
    try clear hcz6_0
    try clear hcz6_1
    try clear hfz15_0
    try clear hfz15_1
    try clear hfz15_2
    try clear hfz15_3
    try clear hfz17_0
    try clear hfz17_1
    try clear hfz17_2
    try clear hfz17_3
    try clear hfz22_0
    try clear hfz22_1
    try clear hfz22_2
    try clear hfz22_3
    try clear hfz24_0
    try clear hfz24_1
    try clear hfz24_2
    try clear hfz24_3
    try clear hfz26_0
    try clear hfz26_1
    try clear hfz29_0
    try clear hfz29_1
    try clear hfz6_0
    try clear hfz6_1
    try clear hx155_0
    try clear hx155_1
    try clear hx155_2
    try clear hx155_3
    try clear p155
    try clear p2
    try clear q155
    obtain ⟨kq, x155000_1, u155000, HA, HJ1, HO_155000, BK153, BK154, HB⟩ := hcut; cases kq with
    | zero => exact absurd HA.out (by simp [stanzahand03_Para.j1])
    | succ kj1 =>
      have H := HA.out; clear HA; simp only [stanzahand03_Para.j1] at H; have H' := zA.mk H
      clear H; go_wp2
      go_loopg [8] kj1 (fun kq v8 w' => ∃ (x8_2 : Int) (x155001_2 : List Int) (u155001 : Value), v8 = .int .i64 x8_2 ∧ zA (stanzahand03_Para.l1 kq l0 x8_2 x155000_1 x155001_2 = some (r1, r2)) ∧ zA (kq ≤ kj1) ∧ zA (Kd.R k41 41 w' w.heap.size (fun _ => True) u155000 x155000_1) ∧ zA (Kd.R (Kd.int .u8) 46 w' w.heap.size (fun _ => True) u155001 x155001_2) ∧ zA (w'.heap[gb153]? = some (.cells #[(.slice none 0 0), (.slice none 0 0)] 35 (0, 0))) ∧ zA (w'.heap[gb154]? = some (.cells #[u155000, u155001] 35 (0, 0))) ∧ zA (Below w.heap.size w w'))
      case atStart => exact ⟨(0), (([] : List Int)), (.slice none 0 0), (by first | rfl | (simp; done) | (simp [*]; done)), H', ⟨Nat.le_refl _⟩, ⟨by (with_reducible repeat (first | apply Kd.R_alloc | apply Kd.R_drewN | apply Kd.R_drew)); exact HO_155000.out⟩, ⟨by first | exact Kd.R_nil _ _ _ _ _ | exact Kd.N_nil _ _ _ _ _ | exact Kd.V_nil _ _ _ _ _ | exact Kd.Q_nil _ _ _ _ _ | exact Kd.S_nil _ _ _ _ _⟩, ⟨by (with_reducible repeat (first | refine zC ?_ _ | refine zD ?_ | refine zB ?_ _)); exact BK153.out⟩, ⟨by (with_reducible repeat (first | refine zC ?_ _ | refine zD ?_ | refine zB ?_ _)); exact BK154.out⟩, ⟨by repeat (first | (with_reducible first | exact HB.out | apply zI | apply zF | apply zH | refine zE ?_ GE153.out | refine zE ?_ GE154.out) | exact HB.out)⟩⟩
      case round =>
        clear H'; try clear c1
        try clear p1
        try clear q1
        try clear hx1
        try clear c2
        try clear p2
        try clear c5
        try clear p6
        try clear c8
        try clear c8b0
        try clear c9
        try clear c9b0
        try clear c10
        try clear c10b0
        try clear c11
        try clear c13
        try clear c14
        try clear p15
        try clear q15
        try clear hx15
        try clear c19
        try clear c20
        try clear c21
        try clear c25
        try clear hcz15_0
        try clear hcz15_1
        try clear hcz15_2
        try clear hcz15_3
        try clear hcz17_0
        try clear hcz17_1
        try clear hcz17_2
        try clear hcz17_3
        try clear hcz22_0
        try clear hcz22_1
        try clear hcz22_2
        try clear hcz22_3
        try clear hcz24_0
        try clear hcz24_1
        try clear hcz24_2
        try clear hcz24_3
        try clear hcz26_0
        try clear hcz26_1
        try clear hcz29_0
        try clear hcz29_1
        try clear hcz6_0
        try clear hcz6_1
        try clear hfz15_0
        try clear hfz15_1
        try clear hfz15_2
        try clear hfz15_3
        try clear hfz17_0
        try clear hfz17_1
        try clear hfz17_2
        try clear hfz17_3
        try clear hfz22_0
        try clear hfz22_1
        try clear hfz22_2
        try clear hfz22_3
        try clear hfz24_0
        try clear hfz24_1
        try clear hfz24_2
        try clear hfz24_3
        try clear hfz26_0
        try clear hfz26_1
        try clear hfz29_0
        try clear hfz29_1
        try clear hfz6_0
        try clear hfz6_1
        try clear hx155_0
        try clear hx155_1
        try clear hx155_2
        try clear hx155_3
        try clear p1
        try clear p15
        try clear p155
        try clear p2
        try clear p6
        try clear q1
        try clear q15
        try clear q155
        obtain ⟨x8_2, x155001_2, u155001, rfl, HA, HK2, HO_155000, HO_155001, BK153, BK154, HB⟩ := hrel; cases gk with
        | zero => exact absurd HA.out (by simp [stanzahand03_Para.l1])
        | succ k2 =>
          have H := HA.out; clear HA; simp only [stanzahand03_Para.l1] at H; by_cases c30 : x8_2 < (x155000_1.length : Int)
          · rw [if_pos c30] at H
            have c30b0 : decide (x8_2 < (x155000_1.length : Int)) = true := decide_eq_true c30
            clear c30; by_cases c31 : x8_2 > 0
            · rw [if_pos c31] at H
              have c31b0 : decide (0 < x8_2) = true := decide_eq_true c31
              clear c31; obtain ⟨ji32, hji32⟩ : ∃ j_ : Int, (wrap64 (x8_2 - 1)) = j_ := ⟨_, rfl⟩; replace H : (if 0 ≤ (ji32) then (if (ji32) < (l0.length : Int) then (if x155001_2.length < 140737488355328 then (stanzahand03_Para.l1 k2 l0 (wrap64 (x8_2 + 1)) x155000_1 (x155001_2 ++ [Int.tmod ((rd_T50 l0 (ji32)).f3) 4])) else (none)) else (none)) else (none)) = some (r1, r2) := by first | (rw [hji32] at H; exact H) | (simp only [hji32] at H ⊢; exact H)
              have hji32w : (IntKind.i64.wrap (x8_2 - 1)) = ji32 := (zM _).trans hji32
              by_cases c33 : 0 ≤ (ji32)
              · rw [if_pos c33] at H
                have c33b0 : decide (0 ≤ (ji32)) = true := decide_eq_true c33
                clear c33; by_cases c34 : (ji32) < (l0.length : Int)
                · rw [if_pos c34] at H
                  have c34b0 : decide ((ji32) < (l0.length : Int)) = true := decide_eq_true c34
                  clear c34; by_cases c35 : x155001_2.length < 140737488355328
                  · rw [if_pos c35] at H
                    have LMc35 := zA.mk c35; clear c35; obtain ⟨y162, hy162⟩ : ∃ y_ : List Int, y_ = (x155001_2 ++ [Int.tmod ((rd_T50 l0 (ji32)).f3) 4]) := ⟨_, rfl⟩; replace H : (stanzahand03_Para.l1 k2 l0 (wrap64 (x8_2 + 1)) x155000_1 y162) = some (r1, r2) := by first | (rw [hy162]; with_reducible exact H) | (have H2_ := (Option.bind_some _ _).symm.trans H; rw [hy162]; with_reducible exact H2_) | (have H2_ := (Option.bind_some _ _).symm.trans H; with_reducible exact H2_) | with_reducible exact H | (rw [hy162]; exact H) | exact H
                    have Ny162 := zA.mk hy162; clear hy162; have H' := zA.mk H
                    clear H; have hnb36 := NB154_153.out; have hnc36 := NB153_154.out; have hcz37_0 : wr.cell? ⟨gb154, 0, none⟩ = some (u155000) := (zG BK154.out 0).trans rfl
                    have hcz37_1 : wr.cell? ⟨gb154, 1, none⟩ = some (u155001) := (zG BK154.out 1).trans rfl
                    have hfz37_0 := zJ BK154.out 0; have hfz37_1 := zJ BK154.out 1; obtain ⟨Ao38, co38, eo38⟩ := Kd.R_slice HO_155000.out; subst eo38; have p161 : 0 ≤ ((ji32) : Int) := of_decide_eq_true (by first | (with_reducible assumption) | assumption)
                    have q161 : (ji32) < (l0.length : Int) := of_decide_eq_true (by first | (with_reducible assumption) | assumption)
                    obtain ⟨ad161, e161, hx161_0, hx161_1, hx161_2, hx161_3⟩ := at_T50 HR0.out (ji32) p161 q161; cases e161
                    replace hx161_0 := (HB.out.cell (World.block_lt_of_cell? w _ hx161_0)).trans hx161_0; replace hx161_1 := (HB.out.cell (World.block_lt_of_cell? w _ hx161_1)).trans hx161_1; replace hx161_2 := (HB.out.cell (World.block_lt_of_cell? w _ hx161_2)).trans hx161_2; replace hx161_3 := (HB.out.cell (World.block_lt_of_cell? w _ hx161_3)).trans hx161_3; replace p161 := eq_true p161; replace q161 := eq_true q161; go_wp2_with (first | ((with_reducible refine gate_builtin (b := .append) (xs := #[.tmp 66, .tmp 68]) rfl ?_); at_builtin; refine Kd.R_append (Kd.int .u8) (w0 := w) w.heap.size rfl (.tmp 66) (.tmp 68) 33 46 (.int .u8 0) 1 rfl Try.underlying33 info46 rfl (by decide) (by omega) u155001 x155001_2 (Int.tmod ((rd_T50 l0 (ji32)).f3) 4) [.int .u8 (Int.tmod ((rd_T50 l0 (ji32)).f3) 4)] (fun _ => True) (fun _ => False) rfl rfl ?aP (fun _ hk => hk.elim) ?aF ?aO ?aB ?aS ?aL ?_; (case aP => exact rfl); (case aB => exact (by repeat (first | (with_reducible first | exact HB.out | apply zI | apply zF | apply zH | refine zE ?_ GE153.out | refine zE ?_ GE154.out) | exact HB.out))); (case aF => exact (fun _ _ => trivial)); (case aO => exact (by (with_reducible repeat (first | apply Kd.R_alloc | apply Kd.R_drewN | apply Kd.R_drew)); exact HO_155001.out)); (case aS => exact (zK (by repeat (first | (with_reducible first | exact HB.out | apply zI | apply zF | apply zH | refine zE ?_ GE153.out | refine zE ?_ GE154.out) | exact HB.out)))); (case aL => have := LMc35.out; omega); intro v163 w39 ho hb hg hat; rw [← Ny162.out] at ho; have n0_ := zA.mk (Kd.R_over' (by (with_reducible repeat (first | apply Kd.R_alloc | apply Kd.R_drewN | apply Kd.R_drew)); exact HO_155000.out) (Kd.R_typed (by (with_reducible repeat (first | apply Kd.R_alloc | apply Kd.R_drewN | apply Kd.R_drew)); exact HO_155001.out)) (by decide) hg); have n1_ := zA.mk (blk_grown (g := gb153) (o := .cells #[.slice none 0 0, .slice none 0 0] 35 (0, 0)) (by (with_reducible repeat (first | refine zC ?_ _ | refine zD ?_ | refine zB ?_ _)); exact BK153.out) hg (Kd.R_ne HO_155001.out BK153.out (by decide))); have n2_ := zA.mk (blk_grown (g := gb154) (o := .cells #[.slice Ao38 x155000_1.length co38, u155001] 35 (0, 0)) (by (with_reducible repeat (first | refine zC ?_ _ | refine zD ?_ | refine zB ?_ _)); exact BK154.out) hg (Kd.R_ne HO_155001.out BK154.out (by decide))); have n3_ := zA.mk (hb); have n4_ := zA.mk (ho); clear HO_155000; clear BK153; clear BK154; clear HB; clear HO_155001; have HO_155000 := n0_; have BK153 := n1_; have BK154 := n2_; have HB := n3_; have HO164 := n4_; clear n0_ n1_ n2_ n3_ n4_; clear ho hb hg hat; obtain ⟨Ao40, co40, eo40⟩ := Kd.R_slice HO164.out; subst eo40; have hcz41_0 : w39.cell? ⟨gb154, 0, none⟩ = some (.slice Ao38 x155000_1.length co38) := (zG BK154.out 0).trans rfl; have hcz41_1 : w39.cell? ⟨gb154, 1, none⟩ = some (u155001) := (zG BK154.out 1).trans rfl; have hfz41_0 := zJ BK154.out 0; have hfz41_1 := zJ BK154.out 1))
                    go_roundg k2
                    case measure => have := HJ1.out; have := HK2.out; omega
                    case rel => exact ⟨(wrap64 (x8_2 + 1)), (y162), (.slice Ao40 y162.length co40), (by first | rfl | (simp; done) | (simp [*]; done)), H', ⟨by have := HJ1.out; have := HK2.out; omega⟩, ⟨by (with_reducible repeat (first | apply Kd.R_alloc | apply Kd.R_drewN | apply Kd.R_drew)); exact Kd.R_mono (Kd.R_far (p := ⟨gb154, 1, none⟩) (Kd.R_types HO_155000.out BK154.out (by decide)) (fun _ hk => hk.2) (.slice Ao40 y162.length co40)) (fun _ hk => trivial)⟩, ⟨by (with_reducible repeat (first | apply Kd.R_alloc | apply Kd.R_drewN | apply Kd.R_drew)); exact Kd.R_mono (Kd.R_far (p := ⟨gb154, 1, none⟩) (Kd.R_types HO164.out BK154.out (by decide)) (fun _ hk => hk.2) (.slice Ao40 y162.length co40)) (fun _ hk => trivial)⟩, ⟨by (with_reducible repeat (first | refine zC ?_ _ | refine zD ?_ | refine zB ?_ _)); refine blk_far ?_ NB153_154.out _; (with_reducible repeat (first | refine zC ?_ _ | refine zD ?_ | refine zB ?_ _)); exact BK153.out⟩, ⟨by (with_reducible repeat (first | refine zC ?_ _ | refine zD ?_ | refine zB ?_ _)); refine blk_put (cs := #[.slice Ao38 x155000_1.length co38, u155001]) ?_ 1 _ rfl; (with_reducible repeat (first | refine zC ?_ _ | refine zD ?_ | refine zB ?_ _)); exact BK154.out⟩, ⟨by repeat (first | (with_reducible first | exact HB.out | apply zI | apply zF | apply zH | refine zE ?_ GE153.out | refine zE ?_ GE154.out) | exact HB.out)⟩⟩
                  · rw [if_neg c35] at H
                    exact absurd H (by simp)
                · rw [if_neg c34] at H
                  exact absurd H (by simp)
              · rw [if_neg c33] at H
                exact absurd H (by simp)
            · rw [if_neg c31] at H
              have c31b0 : decide (0 < x8_2) = false := decide_eq_false c31
              clear c31; by_cases c42 : x155001_2.length < 140737488355328
              · rw [if_pos c42] at H
                have LMc42 := zA.mk c42; clear c42; obtain ⟨y165, hy165⟩ : ∃ y_ : List Int, y_ = (x155001_2 ++ [0]) := ⟨_, rfl⟩; replace H : (stanzahand03_Para.l1 k2 l0 (wrap64 (x8_2 + 1)) x155000_1 y165) = some (r1, r2) := by first | (rw [hy165]; with_reducible exact H) | (have H2_ := (Option.bind_some _ _).symm.trans H; rw [hy165]; with_reducible exact H2_) | (have H2_ := (Option.bind_some _ _).symm.trans H; with_reducible exact H2_) | with_reducible exact H | (rw [hy165]; exact H) | exact H
                have Ny165 := zA.mk hy165; clear hy165; have H' := zA.mk H
                clear H; have hnb43 := NB154_153.out; have hnc43 := NB153_154.out; have hcz44_0 : wr.cell? ⟨gb154, 0, none⟩ = some (u155000) := (zG BK154.out 0).trans rfl
                have hcz44_1 : wr.cell? ⟨gb154, 1, none⟩ = some (u155001) := (zG BK154.out 1).trans rfl
                have hfz44_0 := zJ BK154.out 0; have hfz44_1 := zJ BK154.out 1; obtain ⟨Ao45, co45, eo45⟩ := Kd.R_slice HO_155000.out; subst eo45; go_wp2_with (first | ((with_reducible refine gate_builtin (b := .append) (xs := #[.tmp 66, .tmp 68]) rfl ?_); at_builtin; refine Kd.R_append (Kd.int .u8) (w0 := w) w.heap.size rfl (.tmp 66) (.tmp 68) 33 46 (.int .u8 0) 1 rfl Try.underlying33 info46 rfl (by decide) (by omega) u155001 x155001_2 0 [.int .u8 0] (fun _ => True) (fun _ => False) rfl rfl ?aP (fun _ hk => hk.elim) ?aF ?aO ?aB ?aS ?aL ?_; (case aP => exact rfl); (case aB => exact (by repeat (first | (with_reducible first | exact HB.out | apply zI | apply zF | apply zH | refine zE ?_ GE153.out | refine zE ?_ GE154.out) | exact HB.out))); (case aF => exact (fun _ _ => trivial)); (case aO => exact (by (with_reducible repeat (first | apply Kd.R_alloc | apply Kd.R_drewN | apply Kd.R_drew)); exact HO_155001.out)); (case aS => exact (zK (by repeat (first | (with_reducible first | exact HB.out | apply zI | apply zF | apply zH | refine zE ?_ GE153.out | refine zE ?_ GE154.out) | exact HB.out)))); (case aL => have := LMc42.out; omega); intro v166 w46 ho hb hg hat; rw [← Ny165.out] at ho; have n0_ := zA.mk (Kd.R_over' (by (with_reducible repeat (first | apply Kd.R_alloc | apply Kd.R_drewN | apply Kd.R_drew)); exact HO_155000.out) (Kd.R_typed (by (with_reducible repeat (first | apply Kd.R_alloc | apply Kd.R_drewN | apply Kd.R_drew)); exact HO_155001.out)) (by decide) hg); have n1_ := zA.mk (blk_grown (g := gb153) (o := .cells #[.slice none 0 0, .slice none 0 0] 35 (0, 0)) (by (with_reducible repeat (first | refine zC ?_ _ | refine zD ?_ | refine zB ?_ _)); exact BK153.out) hg (Kd.R_ne HO_155001.out BK153.out (by decide))); have n2_ := zA.mk (blk_grown (g := gb154) (o := .cells #[.slice Ao45 x155000_1.length co45, u155001] 35 (0, 0)) (by (with_reducible repeat (first | refine zC ?_ _ | refine zD ?_ | refine zB ?_ _)); exact BK154.out) hg (Kd.R_ne HO_155001.out BK154.out (by decide))); have n3_ := zA.mk (hb); have n4_ := zA.mk (ho); clear HO_155000; clear BK153; clear BK154; clear HB; clear HO_155001; have HO_155000 := n0_; have BK153 := n1_; have BK154 := n2_; have HB := n3_; have HO167 := n4_; clear n0_ n1_ n2_ n3_ n4_; clear ho hb hg hat; obtain ⟨Ao47, co47, eo47⟩ := Kd.R_slice HO167.out; subst eo47; have hcz48_0 : w46.cell? ⟨gb154, 0, none⟩ = some (.slice Ao45 x155000_1.length co45) := (zG BK154.out 0).trans rfl; have hcz48_1 : w46.cell? ⟨gb154, 1, none⟩ = some (u155001) := (zG BK154.out 1).trans rfl; have hfz48_0 := zJ BK154.out 0; have hfz48_1 := zJ BK154.out 1))
                go_roundg k2
                case measure => have := HJ1.out; have := HK2.out; omega
                case rel => exact ⟨(wrap64 (x8_2 + 1)), (y165), (.slice Ao47 y165.length co47), (by first | rfl | (simp; done) | (simp [*]; done)), H', ⟨by have := HJ1.out; have := HK2.out; omega⟩, ⟨by (with_reducible repeat (first | apply Kd.R_alloc | apply Kd.R_drewN | apply Kd.R_drew)); exact Kd.R_mono (Kd.R_far (p := ⟨gb154, 1, none⟩) (Kd.R_types HO_155000.out BK154.out (by decide)) (fun _ hk => hk.2) (.slice Ao47 y165.length co47)) (fun _ hk => trivial)⟩, ⟨by (with_reducible repeat (first | apply Kd.R_alloc | apply Kd.R_drewN | apply Kd.R_drew)); exact Kd.R_mono (Kd.R_far (p := ⟨gb154, 1, none⟩) (Kd.R_types HO167.out BK154.out (by decide)) (fun _ hk => hk.2) (.slice Ao47 y165.length co47)) (fun _ hk => trivial)⟩, ⟨by (with_reducible repeat (first | refine zC ?_ _ | refine zD ?_ | refine zB ?_ _)); refine blk_far ?_ NB153_154.out _; (with_reducible repeat (first | refine zC ?_ _ | refine zD ?_ | refine zB ?_ _)); exact BK153.out⟩, ⟨by (with_reducible repeat (first | refine zC ?_ _ | refine zD ?_ | refine zB ?_ _)); refine blk_put (cs := #[.slice Ao45 x155000_1.length co45, u155001]) ?_ 1 _ rfl; (with_reducible repeat (first | refine zC ?_ _ | refine zD ?_ | refine zB ?_ _)); exact BK154.out⟩, ⟨by repeat (first | (with_reducible first | exact HB.out | apply zI | apply zF | apply zH | refine zE ?_ GE153.out | refine zE ?_ GE154.out) | exact HB.out)⟩⟩
              · rw [if_neg c42] at H
                exact absurd H (by simp)
          · rw [if_neg c30] at H
            have c30b0 : decide (x8_2 < (x155000_1.length : Int)) = false := decide_eq_false c30
            clear c30; by_cases c49 : x155001_2.length < 140737488355328
            · rw [if_pos c49] at H
              have LMc49 := zA.mk c49; clear c49; obtain ⟨y168, hy168⟩ : ∃ y_ : List Int, y_ = (x155001_2 ++ [2]) := ⟨_, rfl⟩; replace H : (some (x155000_1, y168)) = some (r1, r2) := by first | (rw [hy168]; with_reducible exact H) | (have H2_ := (Option.bind_some _ _).symm.trans H; rw [hy168]; with_reducible exact H2_) | (have H2_ := (Option.bind_some _ _).symm.trans H; with_reducible exact H2_) | with_reducible exact H | (rw [hy168]; exact H) | exact H
              have Ny168 := zA.mk hy168; clear hy168; simp only [Option.some.injEq, Prod.mk.injEq] at H; obtain ⟨rfl, rfl⟩ := H; have hnb50 := NB154_153.out; have hnc50 := NB153_154.out; have hcz51_0 : wr.cell? ⟨gb154, 0, none⟩ = some (u155000) := (zG BK154.out 0).trans rfl
              have hcz51_1 : wr.cell? ⟨gb154, 1, none⟩ = some (u155001) := (zG BK154.out 1).trans rfl
              have hfz51_0 := zJ BK154.out 0; have hfz51_1 := zJ BK154.out 1; obtain ⟨Ao52, co52, eo52⟩ := Kd.R_slice HO_155000.out; subst eo52; go_wp2_with (first | ((with_reducible refine gate_builtin (b := .append) (xs := #[.tmp 72, .tmp 73]) rfl ?_); at_builtin; refine Kd.R_append (Kd.int .u8) (w0 := w) w.heap.size rfl (.tmp 72) (.tmp 73) 33 46 (.int .u8 0) 1 rfl Try.underlying33 info46 rfl (by decide) (by omega) u155001 x155001_2 2 [.int .u8 2] (fun _ => True) (fun _ => False) rfl rfl ?aP (fun _ hk => hk.elim) ?aF ?aO ?aB ?aS ?aL ?_; (case aP => exact rfl); (case aB => exact (by repeat (first | (with_reducible first | exact HB.out | apply zI | apply zF | apply zH | refine zE ?_ GE153.out | refine zE ?_ GE154.out) | exact HB.out))); (case aF => exact (fun _ _ => trivial)); (case aO => exact (by (with_reducible repeat (first | apply Kd.R_alloc | apply Kd.R_drewN | apply Kd.R_drew)); exact HO_155001.out)); (case aS => exact (zK (by repeat (first | (with_reducible first | exact HB.out | apply zI | apply zF | apply zH | refine zE ?_ GE153.out | refine zE ?_ GE154.out) | exact HB.out)))); (case aL => have := LMc49.out; omega); intro v169 w53 ho hb hg hat; rw [← Ny168.out] at ho; have n0_ := zA.mk (Kd.R_over' (by (with_reducible repeat (first | apply Kd.R_alloc | apply Kd.R_drewN | apply Kd.R_drew)); exact HO_155000.out) (Kd.R_typed (by (with_reducible repeat (first | apply Kd.R_alloc | apply Kd.R_drewN | apply Kd.R_drew)); exact HO_155001.out)) (by decide) hg); have n1_ := zA.mk (blk_grown (g := gb153) (o := .cells #[.slice none 0 0, .slice none 0 0] 35 (0, 0)) (by (with_reducible repeat (first | refine zC ?_ _ | refine zD ?_ | refine zB ?_ _)); exact BK153.out) hg (Kd.R_ne HO_155001.out BK153.out (by decide))); have n2_ := zA.mk (blk_grown (g := gb154) (o := .cells #[.slice Ao52 x155000_1.length co52, u155001] 35 (0, 0)) (by (with_reducible repeat (first | refine zC ?_ _ | refine zD ?_ | refine zB ?_ _)); exact BK154.out) hg (Kd.R_ne HO_155001.out BK154.out (by decide))); have n3_ := zA.mk (hb); have n4_ := zA.mk (ho); clear HO_155000; clear BK153; clear BK154; clear HB; clear HO_155001; have HO_155000 := n0_; have BK153 := n1_; have BK154 := n2_; have HB := n3_; have HO170 := n4_; clear n0_ n1_ n2_ n3_ n4_; clear ho hb hg hat; obtain ⟨Ao54, co54, eo54⟩ := Kd.R_slice HO170.out; subst eo54; have hcz55_0 : w53.cell? ⟨gb154, 0, none⟩ = some (.slice Ao52 x155000_1.length co52) := (zG BK154.out 0).trans rfl; have hcz55_1 : w53.cell? ⟨gb154, 1, none⟩ = some (u155001) := (zG BK154.out 1).trans rfl; have hfz55_0 := zJ BK154.out 0; have hfz55_1 := zJ BK154.out 1; have hcz56_0 : w53.cell? ⟨gb153, 0, none⟩ = some (.slice none 0 0) := (zG BK153.out 0).trans rfl; have hcz56_1 : w53.cell? ⟨gb153, 1, none⟩ = some (.slice none 0 0) := (zG BK153.out 1).trans rfl; have hfz56_0 := zJ BK153.out 0; have hfz56_1 := zJ BK153.out 1) | ((with_reducible refine gate_store (t := 35) (p := 2) rfl ?_); refine store_event (t := 35) (p := 2) (v := ?vo_w57) (w1 := (((w53.setCell ⟨gb154, 1, none⟩ (.slice Ao54 y168.length co54)).setCell ⟨gb153, 0, none⟩ (.slice Ao52 x155000_1.length co52)).setCell ⟨gb153, 1, none⟩ (.slice Ao54 y168.length co54))) ?hg ?ho ?hn ?hr ?_; (case ho => rfl); (case hg => rfl); (case hn => rfl); (case hr => first | (go_simp; done) | (go_simp; rfl)); intro w57 hw; have n0_ : zA (Kd.R k41 41 w57 w.heap.size (fun _ => True) (.slice Ao52 x155000_1.length co52) x155000_1) := ⟨(by rw [hw]; exact (by (with_reducible repeat (first | apply Kd.R_alloc | apply Kd.R_drewN | apply Kd.R_drew)); exact Kd.R_mono (Kd.R_far (p := ⟨gb153, 1, none⟩) (Kd.R_far (p := ⟨gb153, 0, none⟩) (Kd.R_far (p := ⟨gb154, 1, none⟩) (Kd.R_types (Kd.R_types HO_155000.out BK154.out (by decide)) BK153.out (by decide)) (fun _ hk => hk.1.2) (.slice Ao54 y168.length co54)) (fun _ hk => hk.2) (.slice Ao52 x155000_1.length co52)) (fun _ hk => hk.2) (.slice Ao54 y168.length co54)) (fun _ hk => trivial)))⟩; have n1_ : zA (Kd.R (Kd.int .u8) 46 w57 w.heap.size (fun _ => True) (.slice Ao54 y168.length co54) y168) := ⟨(by rw [hw]; exact (by (with_reducible repeat (first | apply Kd.R_alloc | apply Kd.R_drewN | apply Kd.R_drew)); exact Kd.R_mono (Kd.R_far (p := ⟨gb153, 1, none⟩) (Kd.R_far (p := ⟨gb153, 0, none⟩) (Kd.R_far (p := ⟨gb154, 1, none⟩) (Kd.R_types (Kd.R_types HO170.out BK154.out (by decide)) BK153.out (by decide)) (fun _ hk => hk.1.2) (.slice Ao54 y168.length co54)) (fun _ hk => hk.2) (.slice Ao52 x155000_1.length co52)) (fun _ hk => hk.2) (.slice Ao54 y168.length co54)) (fun _ hk => trivial)))⟩; have n2_ : zA (w57.heap[gb153]? = some (.cells #[.slice Ao52 x155000_1.length co52, .slice Ao54 y168.length co54] 35 (0, 0))) := ⟨(by rw [hw]; exact (by (with_reducible repeat (first | refine zC ?_ _ | refine zD ?_ | refine zB ?_ _)); refine blk_put (cs := #[.slice Ao52 x155000_1.length co52, .slice none 0 0]) ?_ 1 _ rfl; (with_reducible repeat (first | refine zC ?_ _ | refine zD ?_ | refine zB ?_ _)); refine blk_put (cs := #[.slice none 0 0, .slice none 0 0]) ?_ 0 _ rfl; (with_reducible repeat (first | refine zC ?_ _ | refine zD ?_ | refine zB ?_ _)); refine blk_far ?_ NB153_154.out _; (with_reducible repeat (first | refine zC ?_ _ | refine zD ?_ | refine zB ?_ _)); exact BK153.out))⟩; have n3_ : zA (w57.heap[gb154]? = some (.cells #[.slice Ao52 x155000_1.length co52, .slice Ao54 y168.length co54] 35 (0, 0))) := ⟨(by rw [hw]; exact (by (with_reducible repeat (first | refine zC ?_ _ | refine zD ?_ | refine zB ?_ _)); refine blk_far ?_ NB154_153.out _; (with_reducible repeat (first | refine zC ?_ _ | refine zD ?_ | refine zB ?_ _)); refine blk_far ?_ NB154_153.out _; (with_reducible repeat (first | refine zC ?_ _ | refine zD ?_ | refine zB ?_ _)); refine blk_put (cs := #[.slice Ao52 x155000_1.length co52, u155001]) ?_ 1 _ rfl; (with_reducible repeat (first | refine zC ?_ _ | refine zD ?_ | refine zB ?_ _)); exact BK154.out))⟩; have n4_ : zA (Below w.heap.size w w57) := ⟨(by rw [hw]; exact (by repeat (first | (with_reducible first | exact HB.out | apply zI | apply zF | apply zH | refine zE ?_ GE153.out | refine zE ?_ GE154.out) | exact HB.out)))⟩; clear hw; clear HO_155000; clear HO170; clear BK153; clear BK154; clear HB; have HO_155000 := n0_; have HO170 := n1_; have BK153 := n2_; have BK154 := n3_; have HB := n4_; clear n0_ n1_ n2_ n3_ n4_))
              refine bodyPost_ret (results_cell_row rfl _ _ gb153 35 #[.slice Ao52 x155000_1.length co52, .slice Ao54 y168.length co54] (0, 0) _ rfl (by (with_reducible repeat (first | refine zC ?_ _ | refine zD ?_ | refine zB ?_ _)); exact BK153.out) Try.underlying35 rfl (by kernel_rfl)) rfl ?_
              exact ⟨_, _, by first | rfl | (simp [errW_none, errW_some] <;> rfl) | (simp [*, errW_none, errW_some] <;> rfl), by (with_reducible repeat (first | apply Kd.R_alloc | apply Kd.R_drewN | apply Kd.R_drew)); exact HO_155000.out, by (with_reducible repeat (first | apply Kd.R_alloc | apply Kd.R_drewN | apply Kd.R_drew)); exact HO170.out, by repeat (first | (with_reducible first | exact HB.out | apply zI | apply zF | apply zH | refine zE ?_ GE153.out | refine zE ?_ GE154.out) | exact HB.out)⟩
            · rw [if_neg c49] at H
              exact absurd H (by simp)
end Go.Proofs.Ytbnoeeflpegcoaa.F
end
section
namespace Go.Proofs.Ytbnoeeflpegcoaa.F
open Go.RowKit Go.Proofs.YtbnoeeflpegcoaaW.PrintWords Go.Proofs.YtbnoeeflpegcoaaW.PrintLast Go.Proofs.YtbnoeeflpegcoaaW.PrintMore
attribute [local go_sem] max2_int min2_int max_two min_two max_three min_three max_four min_four   -- for this text's walks alone
set_option linter.unusedVariables false
set_option linter.unusedSimpArgs false
def stanzahand03_Config.f (a0_0 : Int) (a0_1 : Int) (a0_2 : Int) (a0_3 : Int) (a0_4 : Int) (a0_5 : Nat) : Option (Int × Int × Int × Int × Int × Nat) := some (wrap64 (1 + (wrap64 (a0_0))), wrap64 (1 + (wrap64 (Int.tmod a0_1 64))), Int.tmod a0_2 2, wrap64 (a0_3), wrap64 (a0_4), a0_5)
set_option maxHeartbeats 8000000 in
set_option maxRecDepth 100000 in
theorem stanzahand03_Config.calls (a0_0 : Int) (a0_1 : Int) (a0_2 : Int) (a0_3 : Int) (a0_4 : Int) (a0_5 : Nat) (r1 : Int) (r2 : Int) (r3 : Int) (r4 : Int) (r5 : Int) (r6 : Nat) (w : World) (h : stanzahand03_Config.f a0_0 a0_1 a0_2 a0_3 a0_4 a0_5 = some (r1, r2, r3, r4, r5, r6)) :
    Calls Try.prog 41 #[.agg #[.int .u8 a0_0, .int .u8 a0_1, .int .u8 a0_2, .int .u16 a0_3, .int .u16 a0_4, .float .f64 a0_5]] w fun e w' => e = .returned (.agg #[.int .i64 r1, .int .i64 r2, .int .u8 r3, .int .i64 r4, .int .i64 r5, .float .f64 r6]) ∧ Below w.heap.size w w' := by
  have hu67 := Try.underlying67; have hu58 := Try.underlying58; have HB := zA.mk (Below.refl w.heap.size w); have H : (some (wrap64 (1 + (wrap64 (a0_0))), wrap64 (1 + (wrap64 (Int.tmod a0_1 64))), Int.tmod a0_2 2, wrap64 (a0_3), wrap64 (a0_4), a0_5)) = some (r1, r2, r3, r4, r5, r6) := h
  clear h; simp only [Option.some.injEq, Prod.mk.injEq] at H; obtain ⟨rfl, rfl, rfl, rfl, rfl, rfl⟩ := H; go_enter Try.func41, Try.ntmps41
  go_wp2_with (first | ((with_reducible refine gate_dst (N := 1) rfl ?_); refine box_event ?hg (N := 1) ?hd (cs := #[.int .u8 a0_0, .int .u8 a0_1, .int .u8 a0_2, .int .u16 a0_3, .int .u16 a0_4, .float .f64 a0_5]) (t := 67) ?hr ?_; (case hd => rfl); (case hg => rfl); (case hr => first | (go_simp; done) | (go_simp; rfl)); intro gb366 hg w2 hbox hb; have n0_ := zA.mk (zO (by repeat (first | (with_reducible first | exact HB.out | apply zI | apply zF | apply zH) | exact HB.out)) hb); have n1_ := zA.mk (hbox); have n2_ := zA.mk ((by rw [hg]; exact (zK (by repeat (first | (with_reducible first | exact HB.out | apply zI | apply zF | apply zH) | exact HB.out))) : w.heap.size ≤ gb366)); have n3_ := zA.mk ((by rw [hg]; exact (zK (by repeat (first | (with_reducible first | exact HB.out | apply zI | apply zF | apply zH) | exact HB.out))) : w.heap.size ≤ gb366)); clear HB; have HB := n0_; have BK366 := n1_; have GW366 := n2_; have GE366 := n3_; clear n0_ n1_ n2_ n3_; clear hb hbox hg) | ((with_reducible refine gate_dst (N := 2) rfl ?_); refine box_event ?hg (N := 2) ?hd (cs := #[.int .i64 0, .int .i64 0, .int .u8 0, .int .i64 0, .int .i64 0, .float .f64 0]) (t := 58) ?hr ?_; (case hd => rfl); (case hg => rfl); (case hr => first | (go_simp; done) | (go_simp; rfl)); intro gb367 hg w3 hbox hb; have n0_ := zA.mk (zL (g := gb366) (o := .cells #[.int .u8 a0_0, .int .u8 a0_1, .int .u8 a0_2, .int .u16 a0_3, .int .u16 a0_4, .float .f64 a0_5] 67 (0, 0)) (by (with_reducible repeat (first | refine zC ?_ _ | refine zD ?_ | refine zB ?_ _)); exact BK366.out) hb); have n1_ := zA.mk (zO (by repeat (first | (with_reducible first | exact HB.out | apply zI | apply zF | apply zH | refine zE ?_ GE366.out) | exact HB.out)) hb); have n2_ := zA.mk (hbox); have n3_ := zA.mk ((by rw [hg]; exact (zK (by repeat (first | (with_reducible first | exact HB.out | apply zI | apply zF | apply zH | refine zE ?_ GE366.out) | exact HB.out))) : w.heap.size ≤ gb367)); have n4_ := zA.mk ((by rw [hg]; exact (zK (by repeat (first | (with_reducible first | exact HB.out | apply zI | apply zF | apply zH | refine zE ?_ GE366.out) | exact HB.out))) : w.heap.size ≤ gb367)); have n5_ := zA.mk ((by rw [hg]; exact Nat.ne_of_lt (blk_lt (g := gb366) (o := .cells #[.int .u8 a0_0, .int .u8 a0_1, .int .u8 a0_2, .int .u16 a0_3, .int .u16 a0_4, .float .f64 a0_5] 67 (0, 0)) (by (with_reducible repeat (first | refine zC ?_ _ | refine zD ?_ | refine zB ?_ _)); exact BK366.out)) : gb366 ≠ gb367)); have n6_ := zA.mk ((by rw [hg]; exact Nat.ne_of_gt (blk_lt (g := gb366) (o := .cells #[.int .u8 a0_0, .int .u8 a0_1, .int .u8 a0_2, .int .u16 a0_3, .int .u16 a0_4, .float .f64 a0_5] 67 (0, 0)) (by (with_reducible repeat (first | refine zC ?_ _ | refine zD ?_ | refine zB ?_ _)); exact BK366.out)) : gb367 ≠ gb366)); clear BK366; clear HB; have BK366 := n0_; have HB := n1_; have BK367 := n2_; have GW367 := n3_; have GE367 := n4_; have NB366_367 := n5_; have NB367_366 := n6_; clear n0_ n1_ n2_ n3_ n4_ n5_ n6_; clear hb hbox hg; have hnb4 := NB366_367.out; have hnc4 := NB367_366.out; have hcz5_0 : w3.cell? ⟨gb366, 0, none⟩ = some (.int .u8 a0_0) := (zG BK366.out 0).trans rfl; have hcz5_1 : w3.cell? ⟨gb366, 1, none⟩ = some (.int .u8 a0_1) := (zG BK366.out 1).trans rfl; have hcz5_2 : w3.cell? ⟨gb366, 2, none⟩ = some (.int .u8 a0_2) := (zG BK366.out 2).trans rfl; have hcz5_3 : w3.cell? ⟨gb366, 3, none⟩ = some (.int .u16 a0_3) := (zG BK366.out 3).trans rfl; have hcz5_4 : w3.cell? ⟨gb366, 4, none⟩ = some (.int .u16 a0_4) := (zG BK366.out 4).trans rfl; have hcz5_5 : w3.cell? ⟨gb366, 5, none⟩ = some (.float .f64 a0_5) := (zG BK366.out 5).trans rfl; have hfz5_0 := zJ BK366.out 0; have hfz5_1 := zJ BK366.out 1; have hfz5_2 := zJ BK366.out 2; have hfz5_3 := zJ BK366.out 3; have hfz5_4 := zJ BK366.out 4; have hfz5_5 := zJ BK366.out 5; have hcz6_0 : w3.cell? ⟨gb367, 0, none⟩ = some (.int .i64 0) := (zG BK367.out 0).trans rfl; have hcz6_1 : w3.cell? ⟨gb367, 1, none⟩ = some (.int .i64 0) := (zG BK367.out 1).trans rfl; have hcz6_2 : w3.cell? ⟨gb367, 2, none⟩ = some (.int .u8 0) := (zG BK367.out 2).trans rfl; have hcz6_3 : w3.cell? ⟨gb367, 3, none⟩ = some (.int .i64 0) := (zG BK367.out 3).trans rfl; have hcz6_4 : w3.cell? ⟨gb367, 4, none⟩ = some (.int .i64 0) := (zG BK367.out 4).trans rfl; have hcz6_5 : w3.cell? ⟨gb367, 5, none⟩ = some (.float .f64 0) := (zG BK367.out 5).trans rfl; have hfz6_0 := zJ BK367.out 0; have hfz6_1 := zJ BK367.out 1; have hfz6_2 := zJ BK367.out 2; have hfz6_3 := zJ BK367.out 3; have hfz6_4 := zJ BK367.out 4; have hfz6_5 := zJ BK367.out 5) | ((with_reducible refine gate_store (t := 58) (p := 2) rfl ?_); refine store_event (t := 58) (p := 2) (v := ?vo_w7) (w1 := ((((((w3.setCell ⟨gb367, 0, none⟩ (.int .i64 (wrap64 (1 + (wrap64 (a0_0)))))).setCell ⟨gb367, 1, none⟩ (.int .i64 (wrap64 (1 + (wrap64 (Int.tmod a0_1 64)))))).setCell ⟨gb367, 2, none⟩ (.int .u8 (Int.tmod a0_2 2))).setCell ⟨gb367, 3, none⟩ (.int .i64 (wrap64 (a0_3)))).setCell ⟨gb367, 4, none⟩ (.int .i64 (wrap64 (a0_4)))).setCell ⟨gb367, 5, none⟩ (.float .f64 a0_5))) ?hg ?ho ?hn ?hr ?_; (case ho => rfl); (case hg => rfl); (case hn => rfl); (case hr => first | (go_simp; done) | (go_simp; rfl)); intro w7 hw; have n0_ : zA (w7.heap[gb366]? = some (.cells #[.int .u8 a0_0, .int .u8 a0_1, .int .u8 a0_2, .int .u16 a0_3, .int .u16 a0_4, .float .f64 a0_5] 67 (0, 0))) := ⟨(by rw [hw]; exact (by (with_reducible repeat (first | refine zC ?_ _ | refine zD ?_ | refine zB ?_ _)); refine blk_far ?_ NB366_367.out _; (with_reducible repeat (first | refine zC ?_ _ | refine zD ?_ | refine zB ?_ _)); refine blk_far ?_ NB366_367.out _; (with_reducible repeat (first | refine zC ?_ _ | refine zD ?_ | refine zB ?_ _)); refine blk_far ?_ NB366_367.out _; (with_reducible repeat (first | refine zC ?_ _ | refine zD ?_ | refine zB ?_ _)); refine blk_far ?_ NB366_367.out _; (with_reducible repeat (first | refine zC ?_ _ | refine zD ?_ | refine zB ?_ _)); refine blk_far ?_ NB366_367.out _; (with_reducible repeat (first | refine zC ?_ _ | refine zD ?_ | refine zB ?_ _)); refine blk_far ?_ NB366_367.out _; (with_reducible repeat (first | refine zC ?_ _ | refine zD ?_ | refine zB ?_ _)); exact BK366.out))⟩; have n1_ : zA (w7.heap[gb367]? = some (.cells #[.int .i64 (wrap64 (1 + (wrap64 (a0_0)))), .int .i64 (wrap64 (1 + (wrap64 (Int.tmod a0_1 64)))), .int .u8 (Int.tmod a0_2 2), .int .i64 (wrap64 (a0_3)), .int .i64 (wrap64 (a0_4)), .float .f64 a0_5] 58 (0, 0))) := ⟨(by rw [hw]; exact (by (with_reducible repeat (first | refine zC ?_ _ | refine zD ?_ | refine zB ?_ _)); refine blk_put (cs := #[.int .i64 (wrap64 (1 + (wrap64 (a0_0)))), .int .i64 (wrap64 (1 + (wrap64 (Int.tmod a0_1 64)))), .int .u8 (Int.tmod a0_2 2), .int .i64 (wrap64 (a0_3)), .int .i64 (wrap64 (a0_4)), .float .f64 0]) ?_ 5 _ rfl; (with_reducible repeat (first | refine zC ?_ _ | refine zD ?_ | refine zB ?_ _)); refine blk_put (cs := #[.int .i64 (wrap64 (1 + (wrap64 (a0_0)))), .int .i64 (wrap64 (1 + (wrap64 (Int.tmod a0_1 64)))), .int .u8 (Int.tmod a0_2 2), .int .i64 (wrap64 (a0_3)), .int .i64 0, .float .f64 0]) ?_ 4 _ rfl; (with_reducible repeat (first | refine zC ?_ _ | refine zD ?_ | refine zB ?_ _)); refine blk_put (cs := #[.int .i64 (wrap64 (1 + (wrap64 (a0_0)))), .int .i64 (wrap64 (1 + (wrap64 (Int.tmod a0_1 64)))), .int .u8 (Int.tmod a0_2 2), .int .i64 0, .int .i64 0, .float .f64 0]) ?_ 3 _ rfl; (with_reducible repeat (first | refine zC ?_ _ | refine zD ?_ | refine zB ?_ _)); refine blk_put (cs := #[.int .i64 (wrap64 (1 + (wrap64 (a0_0)))), .int .i64 (wrap64 (1 + (wrap64 (Int.tmod a0_1 64)))), .int .u8 0, .int .i64 0, .int .i64 0, .float .f64 0]) ?_ 2 _ rfl; (with_reducible repeat (first | refine zC ?_ _ | refine zD ?_ | refine zB ?_ _)); refine blk_put (cs := #[.int .i64 (wrap64 (1 + (wrap64 (a0_0)))), .int .i64 0, .int .u8 0, .int .i64 0, .int .i64 0, .float .f64 0]) ?_ 1 _ rfl; (with_reducible repeat (first | refine zC ?_ _ | refine zD ?_ | refine zB ?_ _)); refine blk_put (cs := #[.int .i64 0, .int .i64 0, .int .u8 0, .int .i64 0, .int .i64 0, .float .f64 0]) ?_ 0 _ rfl; (with_reducible repeat (first | refine zC ?_ _ | refine zD ?_ | refine zB ?_ _)); exact BK367.out))⟩; have n2_ : zA (Below w.heap.size w w7) := ⟨(by rw [hw]; exact (by repeat (first | (with_reducible first | exact HB.out | apply zI | apply zF | apply zH | refine zE ?_ GE366.out | refine zE ?_ GE367.out) | exact HB.out)))⟩; clear hw; clear BK366; clear BK367; clear HB; have BK366 := n0_; have BK367 := n1_; have HB := n2_; clear n0_ n1_ n2_))
  refine bodyPost_ret (results_cell_row rfl _ _ gb367 58 #[.int .i64 (wrap64 (1 + (wrap64 (a0_0)))), .int .i64 (wrap64 (1 + (wrap64 (Int.tmod a0_1 64)))), .int .u8 (Int.tmod a0_2 2), .int .i64 (wrap64 (a0_3)), .int .i64 (wrap64 (a0_4)), .float .f64 a0_5] (0, 0) _ rfl (by (with_reducible repeat (first | refine zC ?_ _ | refine zD ?_ | refine zB ?_ _)); exact BK367.out) Try.underlying58 rfl (by kernel_rfl)) rfl ?_
  exact ⟨by first | rfl | (simp [errW_none, errW_some] <;> rfl) | (simp [*, errW_none, errW_some] <;> rfl), by repeat (first | (with_reducible first | exact HB.out | apply zI | apply zF | apply zH | refine zE ?_ GE366.out | refine zE ?_ GE367.out) | exact HB.out)⟩
end Go.Proofs.Ytbnoeeflpegcoaa.F
end
section
namespace Go.Proofs.Ytbnoeeflpegcoaa.F
open Go.RowKit Go.Proofs.YtbnoeeflpegcoaaW.PrintWords Go.Proofs.YtbnoeeflpegcoaaW.PrintLast Go.Proofs.YtbnoeeflpegcoaaW.PrintMore
attribute [local go_sem] max2_int min2_int max_two min_two max_three min_three max_four min_four   -- for this text's walks alone
set_option linter.unusedVariables false
set_option linter.unusedSimpArgs false
def stanzaref10_Parts.l0 : Nat → List Int → Int → List (S41) → List Int → Option (List Int)
  | 0, _, _, _, _ => none
  | k + 1, x3, x4, x369000, x369001 => if x4 < (x369001.length : Int) then (if 0 ≤ x4 then (if (rd x369001 x4) = 2 then (if x3.length < 17592186044416 then (stanzaref10_Parts.l0 k (x3 ++ [x4]) (wrap64 (x4 + 1)) x369000 x369001) else (none)) else (stanzaref10_Parts.l0 k x3 (wrap64 (x4 + 1)) x369000 x369001)) else (none)) else (some x3)
def stanzaref10_Parts.f (k : Nat) (l0_0 : List (S41)) (l0_1 : List Int) : Option (List Int) := stanzaref10_Parts.l0 k ([] : List Int) 0 l0_0 l0_1
theorem stanzaref10_Parts.mono_l : ∀ k, (∀ y0 y1 y2 y3, LeO (stanzaref10_Parts.l0 k y0 y1 y2 y3) (stanzaref10_Parts.l0 (k + 1) y0 y1 y2 y3))
  | 0 => fun _ _ _ _ r h => by simp [stanzaref10_Parts.l0] at h
  | k + 1 => by
    have ih0 := stanzaref10_Parts.mono_l k
    · intro y0 y1 y2 y3
      unfold stanzaref10_Parts.l0
      repeat' first
      | (with_reducible exact ih0 _ _ _ _)
      | (with_reducible exact LeO.refl _)
      | (with_reducible exact LeO.none _)
      | (with_reducible refine LeO.ite ?_ ?_)
      | (with_reducible refine LeO.bind ?_ (fun _ => ?_))
      | exact ih0 _ _ _ _
      | exact LeO.none _
      | refine LeO.ite ?_ ?_
      | refine LeO.bind ?_ (fun _ => ?_)
theorem stanzaref10_Parts.mono : ∀ a0 a1 k, LeO (stanzaref10_Parts.f k a0 a1) (stanzaref10_Parts.f (k + 1) a0 a1) := by
  intro a0 a1 k
  have ih0 := stanzaref10_Parts.mono_l k; unfold stanzaref10_Parts.f
  repeat' first
      | (with_reducible exact ih0 _ _ _ _)
      | (with_reducible exact LeO.refl _)
      | (with_reducible exact LeO.none _)
      | (with_reducible refine LeO.ite ?_ ?_)
      | (with_reducible refine LeO.bind ?_ (fun _ => ?_))
      | exact ih0 _ _ _ _
      | exact LeO.none _
      | refine LeO.ite ?_ ?_
      | refine LeO.bind ?_ (fun _ => ?_)
set_option maxHeartbeats 8000000 in
set_option maxRecDepth 100000 in
theorem stanzaref10_Parts.calls (k : Nat) (A0_0 : Option Addr) (c0_0 : Nat) (l0_0 : List (S41)) (A0_1 : Option Addr) (c0_1 : Nat) (l0_1 : List Int) (r : List Int) (w : World) (hr0_0 : Kd.C k41 w A0_0 l0_0.length l0_0) (hc0_0 : l0_0.length ≤ c0_0) (hr0_1 : Kd.C (Kd.int .u8) w A0_1 l0_1.length l0_1) (hc0_1 : l0_1.length ≤ c0_1) (h : stanzaref10_Parts.f k l0_0 l0_1 = some r) :
    Calls Try.prog 43 #[.agg #[.slice A0_0 l0_0.length c0_0, .slice A0_1 l0_1.length c0_1]] w fun e w' => ∃ v0_ : Value, e = .returned (v0_) ∧ Kd.R (Kd.int .i64) 3 w' w.heap.size (fun _ => True) v0_ r ∧ Below w.heap.size w w' := by
  have hu35 := Try.underlying35; have HR0_0 := zA.mk hr0_0; have HC0_0 := zA.mk hc0_0; clear hr0_0 hc0_0; have HR0_1 := zA.mk hr0_1; have HC0_1 := zA.mk hc0_1; clear hr0_1 hc0_1; have HB := zA.mk (Below.refl w.heap.size w); have H : (stanzaref10_Parts.l0 k ([] : List Int) 0 l0_0 l0_1) = some r := h
  clear h; have H' := zA.mk H
  clear H; go_enter Try.func43, Try.ntmps43
  go_wp2_with (first | ((with_reducible refine gate_dst (N := 1) rfl ?_); refine box_event ?hg (N := 1) ?hd (cs := #[.slice A0_0 l0_0.length c0_0, .slice A0_1 l0_1.length c0_1]) (t := 35) ?hr ?_; (case hd => rfl); (case hg => rfl); (case hr => first | (go_simp; done) | (go_simp; rfl)); intro gb368 hg w2 hbox hb; have n0_ := zA.mk (zO (by repeat (first | (with_reducible first | exact HB.out | apply zI | apply zF | apply zH) | exact HB.out)) hb); have n1_ := zA.mk (hbox); have n2_ := zA.mk ((by rw [hg]; exact (zK (by repeat (first | (with_reducible first | exact HB.out | apply zI | apply zF | apply zH) | exact HB.out))) : w.heap.size ≤ gb368)); have n3_ := zA.mk ((by rw [hg]; exact (zK (by repeat (first | (with_reducible first | exact HB.out | apply zI | apply zF | apply zH) | exact HB.out))) : w.heap.size ≤ gb368)); clear HB; have HB := n0_; have BK368 := n1_; have GW368 := n2_; have GE368 := n3_; clear n0_ n1_ n2_ n3_; clear hb hbox hg))
  go_loopg [3, 4] k (fun kq v3 v4 w' => ∃ (x3_1 : List Int) (x4_1 : Int), v4 = .int .i64 x4_1 ∧ zA (stanzaref10_Parts.l0 kq x3_1 x4_1 l0_0 l0_1 = some r) ∧ zA (kq ≤ k) ∧ zA (Kd.R (Kd.int .i64) 3 w' w.heap.size (fun _ => True) v3 x3_1) ∧ zA (w'.heap[gb368]? = some (.cells #[(.slice A0_0 l0_0.length c0_0), (.slice A0_1 l0_1.length c0_1)] 35 (0, 0))) ∧ zA (Below w.heap.size w w'))
  case atStart => exact ⟨(([] : List Int)), (0), (by first | rfl | (simp; done) | (simp [*]; done)), H', ⟨Nat.le_refl _⟩, ⟨by first | exact Kd.R_nil _ _ _ _ _ | exact Kd.N_nil _ _ _ _ _ | exact Kd.V_nil _ _ _ _ _ | exact Kd.Q_nil _ _ _ _ _ | exact Kd.S_nil _ _ _ _ _⟩, ⟨by (with_reducible repeat (first | refine zC ?_ _ | refine zD ?_ | refine zB ?_ _)); exact BK368.out⟩, ⟨by repeat (first | (with_reducible first | exact HB.out | apply zI | apply zF | apply zH | refine zE ?_ GE368.out) | exact HB.out)⟩⟩
  case round =>
    clear H'; try clear p2
    obtain ⟨x3_1, x4_1, rfl, HA, HK1, HO_3, BK368, HB⟩ := hrel; cases gk with
    | zero => exact absurd HA.out (by simp [stanzaref10_Parts.l0])
    | succ k1 =>
      have H := HA.out; clear HA; simp only [stanzaref10_Parts.l0] at H; by_cases c3 : x4_1 < (l0_1.length : Int)
      · rw [if_pos c3] at H
        have c3b0 : decide (x4_1 < (l0_1.length : Int)) = true := decide_eq_true c3
        clear c3; by_cases c4 : 0 ≤ x4_1
        · rw [if_pos c4] at H
          have c4b0 : decide (0 ≤ x4_1) = true := decide_eq_true c4
          clear c4; by_cases c5 : (rd l0_1 x4_1) = 2
          · rw [if_pos c5] at H
            have c5b0 : ((rd l0_1 x4_1) == 2) = true := beq_iff_eq.mpr c5
            have c5b1 : ((rd l0_1 x4_1) != 2) = false := bne_eq_false_iff_eq.mpr c5
            clear c5; by_cases c6 : x3_1.length < 17592186044416
            · rw [if_pos c6] at H
              have LMc6 := zA.mk c6; clear c6; obtain ⟨y370, hy370⟩ : ∃ y_ : List Int, y_ = (x3_1 ++ [x4_1]) := ⟨_, rfl⟩; replace H : (stanzaref10_Parts.l0 k1 y370 (wrap64 (x4_1 + 1)) l0_0 l0_1) = some r := by first | (rw [hy370]; with_reducible exact H) | (have H2_ := (Option.bind_some _ _).symm.trans H; rw [hy370]; with_reducible exact H2_) | (have H2_ := (Option.bind_some _ _).symm.trans H; with_reducible exact H2_) | with_reducible exact H | (rw [hy370]; exact H) | exact H
              have Ny370 := zA.mk hy370; clear hy370; have H' := zA.mk H
              clear H; have hcz7_0 : wr.cell? ⟨gb368, 0, none⟩ = some (.slice A0_0 l0_0.length c0_0) := (zG BK368.out 0).trans rfl
              have hcz7_1 : wr.cell? ⟨gb368, 1, none⟩ = some (.slice A0_1 l0_1.length c0_1) := (zG BK368.out 1).trans rfl
              have hfz7_0 := zJ BK368.out 0; have hfz7_1 := zJ BK368.out 1; have p369 : 0 ≤ (x4_1 : Int) := of_decide_eq_true (by first | (with_reducible assumption) | assumption)
              have q369 : x4_1 < (l0_1.length : Int) := of_decide_eq_true (by first | (with_reducible assumption) | assumption)
              obtain ⟨ad369, e369, hx369_0⟩ := Kd.at_int HR0_1.out x4_1 p369 q369; cases e369
              replace hx369_0 := (HB.out.cell (World.block_lt_of_cell? w _ hx369_0)).trans hx369_0; replace p369 := eq_true p369; replace q369 := eq_true q369; go_wp2_with (first | ((with_reducible refine gate_builtin (b := .append) (xs := #[.tmp 18, .tmp 20]) rfl ?_); at_builtin; refine Kd.R_append (Kd.int .i64) (w0 := w) w.heap.size rfl (.tmp 18) (.tmp 20) 24 3 (.int .i64 0) 8 rfl Try.underlying24 info3 rfl (by decide) (by omega) u3 x3_1 x4_1 [.int .i64 x4_1] (fun _ => True) (fun _ => False) rfl rfl ?aP (fun _ hk => hk.elim) ?aF ?aO ?aB ?aS ?aL ?_; (case aP => exact rfl); (case aB => exact (by repeat (first | (with_reducible first | exact HB.out | apply zI | apply zF | apply zH | refine zE ?_ GE368.out) | exact HB.out))); (case aF => exact (fun _ _ => trivial)); (case aO => exact (by (with_reducible repeat (first | apply Kd.R_alloc | apply Kd.R_drewN | apply Kd.R_drew)); exact HO_3.out)); (case aS => exact (zK (by repeat (first | (with_reducible first | exact HB.out | apply zI | apply zF | apply zH | refine zE ?_ GE368.out) | exact HB.out)))); (case aL => have := LMc6.out; omega); intro v371 w8 ho hb hg hat; rw [← Ny370.out] at ho; have n0_ := zA.mk (blk_grown (g := gb368) (o := .cells #[.slice A0_0 l0_0.length c0_0, .slice (some ad369) l0_1.length c0_1] 35 (0, 0)) (by (with_reducible repeat (first | refine zC ?_ _ | refine zD ?_ | refine zB ?_ _)); exact BK368.out) hg (Kd.R_ne HO_3.out BK368.out (by decide))); have n1_ := zA.mk (hb); have n2_ := zA.mk (ho); clear BK368; clear HB; clear HO_3; have BK368 := n0_; have HB := n1_; have HO372 := n2_; clear n0_ n1_ n2_; clear ho hb hg hat))
              go_roundg k1
              case measure => have := HK1.out; omega
              case rel => exact ⟨(y370), (wrap64 (x4_1 + 1)), (by first | rfl | (simp; done) | (simp [*]; done)), H', ⟨by have := HK1.out; omega⟩, ⟨by (with_reducible repeat (first | apply Kd.R_alloc | apply Kd.R_drewN | apply Kd.R_drew)); exact HO372.out⟩, ⟨by (with_reducible repeat (first | refine zC ?_ _ | refine zD ?_ | refine zB ?_ _)); exact BK368.out⟩, ⟨by repeat (first | (with_reducible first | exact HB.out | apply zI | apply zF | apply zH | refine zE ?_ GE368.out) | exact HB.out)⟩⟩
            · rw [if_neg c6] at H
              exact absurd H (by simp)
          · rw [if_neg c5] at H
            have c5b0 : ((rd l0_1 x4_1) == 2) = false := beq_eq_false_iff_ne.mpr c5
            have c5b1 : ((rd l0_1 x4_1) != 2) = true := bne_iff_ne.mpr c5
            have H' := zA.mk H
            clear H; have hcz9_0 : wr.cell? ⟨gb368, 0, none⟩ = some (.slice A0_0 l0_0.length c0_0) := (zG BK368.out 0).trans rfl
            have hcz9_1 : wr.cell? ⟨gb368, 1, none⟩ = some (.slice A0_1 l0_1.length c0_1) := (zG BK368.out 1).trans rfl
            have hfz9_0 := zJ BK368.out 0; have hfz9_1 := zJ BK368.out 1; have p369 : 0 ≤ (x4_1 : Int) := of_decide_eq_true (by first | (with_reducible assumption) | assumption)
            have q369 : x4_1 < (l0_1.length : Int) := of_decide_eq_true (by first | (with_reducible assumption) | assumption)
            obtain ⟨ad369, e369, hx369_0⟩ := Kd.at_int HR0_1.out x4_1 p369 q369; cases e369
            replace hx369_0 := (HB.out.cell (World.block_lt_of_cell? w _ hx369_0)).trans hx369_0; replace p369 := eq_true p369; replace q369 := eq_true q369; go_wp2
            go_roundg k1
            case measure => have := HK1.out; omega
            case rel => exact ⟨(x3_1), (wrap64 (x4_1 + 1)), (by first | rfl | (simp; done) | (simp [*]; done)), H', ⟨by have := HK1.out; omega⟩, ⟨by (with_reducible repeat (first | apply Kd.R_alloc | apply Kd.R_drewN | apply Kd.R_drew)); exact HO_3.out⟩, ⟨by (with_reducible repeat (first | refine zC ?_ _ | refine zD ?_ | refine zB ?_ _)); exact BK368.out⟩, ⟨by repeat (first | (with_reducible first | exact HB.out | apply zI | apply zF | apply zH | refine zE ?_ GE368.out) | exact HB.out)⟩⟩
        · rw [if_neg c4] at H
          exact absurd H (by simp)
      · rw [if_neg c3] at H
        have c3b0 : decide (x4_1 < (l0_1.length : Int)) = false := decide_eq_false c3
        clear c3; obtain rfl := Option.some.inj H
        have hcz10_0 : wr.cell? ⟨gb368, 0, none⟩ = some (.slice A0_0 l0_0.length c0_0) := (zG BK368.out 0).trans rfl
        have hcz10_1 : wr.cell? ⟨gb368, 1, none⟩ = some (.slice A0_1 l0_1.length c0_1) := (zG BK368.out 1).trans rfl
        have hfz10_0 := zJ BK368.out 0; have hfz10_1 := zJ BK368.out 1; go_wp2
        go_ret
        exact ⟨_, by first | rfl | (simp [errW_none, errW_some] <;> rfl) | (simp [*, errW_none, errW_some] <;> rfl), by (with_reducible repeat (first | apply Kd.R_alloc | apply Kd.R_drewN | apply Kd.R_drew)); exact HO_3.out, by repeat (first | (with_reducible first | exact HB.out | apply zI | apply zF | apply zH | refine zE ?_ GE368.out) | exact HB.out)⟩
end Go.Proofs.Ytbnoeeflpegcoaa.F
end
section
namespace Go.Proofs.Ytbnoeeflpegcoaa.F
open Go.RowKit Go.Proofs.YtbnoeeflpegcoaaW.PrintWords Go.Proofs.YtbnoeeflpegcoaaW.PrintLast Go.Proofs.YtbnoeeflpegcoaaW.PrintMore
attribute [local go_sem] max2_int min2_int max_two min_two max_three min_three max_four min_four   -- for this text's walks alone
set_option linter.unusedVariables false
set_option linter.unusedSimpArgs false
def stanzaref13_Next.l0 : Nat → Int → Int → Option (Int)
  | 0, _, _ => none
  | k + 1, x2, x7 => if x2 = 0 then (none) else (if (Int.tmod x7 x2) = 0 then (some x7) else (stanzaref13_Next.l0 k x2 (wrap64 (x7 + 1))))
def stanzaref13_Next.f (k : Nat) (a0_0 : Int) (a0_1 : Int) (a0_2 : Int) (a0_3 : Int) (a1 : Int) (a2 : Int) : Option (Int) := if a0_3 = 2 then (stanzaref13_Next.l0 k a2 (wrap64 (a1 + 1))) else (some (wrap64 (a1 + a0_2)))
theorem stanzaref13_Next.mono_l : ∀ k, (∀ y0 y1, LeO (stanzaref13_Next.l0 k y0 y1) (stanzaref13_Next.l0 (k + 1) y0 y1))
  | 0 => fun _ _ r h => by simp [stanzaref13_Next.l0] at h
  | k + 1 => by
    have ih0 := stanzaref13_Next.mono_l k
    · intro y0 y1
      unfold stanzaref13_Next.l0
      repeat' first
      | (with_reducible exact ih0 _ _)
      | (with_reducible exact LeO.refl _)
      | (with_reducible exact LeO.none _)
      | (with_reducible refine LeO.ite ?_ ?_)
      | (with_reducible refine LeO.bind ?_ (fun _ => ?_))
      | exact ih0 _ _
      | exact LeO.none _
      | refine LeO.ite ?_ ?_
      | refine LeO.bind ?_ (fun _ => ?_)
theorem stanzaref13_Next.mono : ∀ a0 a1 a2 a3 a4 a5 k, LeO (stanzaref13_Next.f k a0 a1 a2 a3 a4 a5) (stanzaref13_Next.f (k + 1) a0 a1 a2 a3 a4 a5) := by
  intro a0 a1 a2 a3 a4 a5 k
  have ih0 := stanzaref13_Next.mono_l k; unfold stanzaref13_Next.f
  repeat' first
      | (with_reducible exact ih0 _ _)
      | (with_reducible exact LeO.refl _)
      | (with_reducible exact LeO.none _)
      | (with_reducible refine LeO.ite ?_ ?_)
      | (with_reducible refine LeO.bind ?_ (fun _ => ?_))
      | exact ih0 _ _
      | exact LeO.none _
      | refine LeO.ite ?_ ?_
      | refine LeO.bind ?_ (fun _ => ?_)
set_option maxHeartbeats 8000000 in
set_option maxRecDepth 100000 in
theorem stanzaref13_Next.calls (k : Nat) (a0_0 : Int) (a0_1 : Int) (a0_2 : Int) (a0_3 : Int) (a1 : Int) (a2 : Int) (r : Int) (w : World) (h : stanzaref13_Next.f k a0_0 a0_1 a0_2 a0_3 a1 a2 = some r) :
    Calls Try.prog 22 #[.agg #[.int .i64 a0_0, .int .i64 a0_1, .int .i64 a0_2, .int .u8 a0_3], .int .i64 a1, .int .i64 a2] w fun e w' => e = .returned (.int .i64 r) ∧ Below w.heap.size w w' := by
  have hu41 := Try.underlying41; have HB := zA.mk (Below.refl w.heap.size w); have H : (if a0_3 = 2 then (stanzaref13_Next.l0 k a2 (wrap64 (a1 + 1))) else (some (wrap64 (a1 + a0_2)))) = some r := h
  clear h; by_cases c4 : a0_3 = 2
  · rw [if_pos c4] at H
    have c4b0 : (a0_3 == 2) = true := beq_iff_eq.mpr c4
    have c4b1 : (a0_3 != 2) = false := bne_eq_false_iff_eq.mpr c4
    clear c4; have H' := zA.mk H
    clear H; go_enter Try.func22, Try.ntmps22
    go_wp2_with (first | ((with_reducible refine gate_dst (N := 3) rfl ?_); refine box_event ?hg (N := 3) ?hd (cs := #[.int .i64 a0_0, .int .i64 a0_1, .int .i64 a0_2, .int .u8 a0_3]) (t := 41) ?hr ?_; (case hd => rfl); (case hg => rfl); (case hr => first | (go_simp; done) | (go_simp; rfl)); intro gb219 hg w5 hbox hb; have n0_ := zA.mk (zO (by repeat (first | (with_reducible first | exact HB.out | apply zI | apply zF | apply zH) | exact HB.out)) hb); have n1_ := zA.mk (hbox); have n2_ := zA.mk ((by rw [hg]; exact (zK (by repeat (first | (with_reducible first | exact HB.out | apply zI | apply zF | apply zH) | exact HB.out))) : w.heap.size ≤ gb219)); have n3_ := zA.mk ((by rw [hg]; exact (zK (by repeat (first | (with_reducible first | exact HB.out | apply zI | apply zF | apply zH) | exact HB.out))) : w.heap.size ≤ gb219)); clear HB; have HB := n0_; have BK219 := n1_; have GW219 := n2_; have GE219 := n3_; clear n0_ n1_ n2_ n3_; clear hb hbox hg; have hcz6_0 : w5.cell? ⟨gb219, 0, none⟩ = some (.int .i64 a0_0) := (zG BK219.out 0).trans rfl; have hcz6_1 : w5.cell? ⟨gb219, 1, none⟩ = some (.int .i64 a0_1) := (zG BK219.out 1).trans rfl; have hcz6_2 : w5.cell? ⟨gb219, 2, none⟩ = some (.int .i64 a0_2) := (zG BK219.out 2).trans rfl; have hcz6_3 : w5.cell? ⟨gb219, 3, none⟩ = some (.int .u8 a0_3) := (zG BK219.out 3).trans rfl; have hfz6_0 := zJ BK219.out 0; have hfz6_1 := zJ BK219.out 1; have hfz6_2 := zJ BK219.out 2; have hfz6_3 := zJ BK219.out 3))
    go_loopg [7] k (fun kq v7 w' => ∃ (x7_1 : Int), v7 = .int .i64 x7_1 ∧ zA (stanzaref13_Next.l0 kq a2 x7_1 = some r) ∧ zA (kq ≤ k) ∧ zA (w'.heap[gb219]? = some (.cells #[.int .i64 a0_0, .int .i64 a0_1, .int .i64 a0_2, .int .u8 a0_3] 41 (0, 0))) ∧ zA (Below w.heap.size w w'))
    case atStart => exact ⟨(wrap64 (a1 + 1)), (by first | rfl | (simp; done) | (simp [*]; done)), H', ⟨Nat.le_refl _⟩, ⟨by (with_reducible repeat (first | refine zC ?_ _ | refine zD ?_ | refine zB ?_ _)); exact BK219.out⟩, ⟨by repeat (first | (with_reducible first | exact HB.out | apply zI | apply zF | apply zH | refine zE ?_ GE219.out) | exact HB.out)⟩⟩
    case round =>
      clear H'; try clear c2
      try clear p2
      try clear c4
      try clear c4b0
      try clear c4b1
      try clear p6
      try clear hcz6_0
      try clear hcz6_1
      try clear hcz6_2
      try clear hcz6_3
      try clear hfz6_0
      try clear hfz6_1
      try clear hfz6_2
      try clear hfz6_3
      obtain ⟨x7_1, rfl, HA, HK1, BK219, HB⟩ := hrel; cases gk with
      | zero => exact absurd HA.out (by simp [stanzaref13_Next.l0])
      | succ k1 =>
        have H := HA.out; clear HA; simp only [stanzaref13_Next.l0] at H; by_cases c7 : a2 = 0
        · rw [if_pos c7] at H
          exact absurd H (by simp)
        · rw [if_neg c7] at H
          have c7b0 : (a2 == 0) = false := beq_eq_false_iff_ne.mpr c7
          have c7b1 : (a2 != 0) = true := bne_iff_ne.mpr c7
          by_cases c8 : (Int.tmod x7_1 a2) = 0
          · rw [if_pos c8] at H
            have c8b0 : ((Int.tmod x7_1 a2) == 0) = true := beq_iff_eq.mpr c8
            have c8b1 : ((Int.tmod x7_1 a2) != 0) = false := bne_eq_false_iff_eq.mpr c8
            clear c8; obtain rfl := Option.some.inj H
            go_wp2
            go_ret
            exact ⟨by first | rfl | (simp [errW_none, errW_some] <;> rfl) | (simp [*, errW_none, errW_some] <;> rfl), by repeat (first | (with_reducible first | exact HB.out | apply zI | apply zF | apply zH | refine zE ?_ GE219.out) | exact HB.out)⟩
          · rw [if_neg c8] at H
            have c8b0 : ((Int.tmod x7_1 a2) == 0) = false := beq_eq_false_iff_ne.mpr c8
            have c8b1 : ((Int.tmod x7_1 a2) != 0) = true := bne_iff_ne.mpr c8
            have H' := zA.mk H
            clear H; go_wp2
            go_roundg k1
            case measure => have := HK1.out; omega
            case rel => exact ⟨(wrap64 (x7_1 + 1)), (by first | rfl | (simp; done) | (simp [*]; done)), H', ⟨by have := HK1.out; omega⟩, ⟨by (with_reducible repeat (first | refine zC ?_ _ | refine zD ?_ | refine zB ?_ _)); exact BK219.out⟩, ⟨by repeat (first | (with_reducible first | exact HB.out | apply zI | apply zF | apply zH | refine zE ?_ GE219.out) | exact HB.out)⟩⟩
  · rw [if_neg c4] at H
    have c4b0 : (a0_3 == 2) = false := beq_eq_false_iff_ne.mpr c4
    have c4b1 : (a0_3 != 2) = true := bne_iff_ne.mpr c4
    obtain rfl := Option.some.inj H
    go_enter Try.func22, Try.ntmps22
    go_wp2_with (first | ((with_reducible refine gate_dst (N := 3) rfl ?_); refine box_event ?hg (N := 3) ?hd (cs := #[.int .i64 a0_0, .int .i64 a0_1, .int .i64 a0_2, .int .u8 a0_3]) (t := 41) ?hr ?_; (case hd => rfl); (case hg => rfl); (case hr => first | (go_simp; done) | (go_simp; rfl)); intro gb219 hg w9 hbox hb; have n0_ := zA.mk (zO (by repeat (first | (with_reducible first | exact HB.out | apply zI | apply zF | apply zH) | exact HB.out)) hb); have n1_ := zA.mk (hbox); have n2_ := zA.mk ((by rw [hg]; exact (zK (by repeat (first | (with_reducible first | exact HB.out | apply zI | apply zF | apply zH) | exact HB.out))) : w.heap.size ≤ gb219)); have n3_ := zA.mk ((by rw [hg]; exact (zK (by repeat (first | (with_reducible first | exact HB.out | apply zI | apply zF | apply zH) | exact HB.out))) : w.heap.size ≤ gb219)); clear HB; have HB := n0_; have BK219 := n1_; have GW219 := n2_; have GE219 := n3_; clear n0_ n1_ n2_ n3_; clear hb hbox hg; have hcz10_0 : w9.cell? ⟨gb219, 0, none⟩ = some (.int .i64 a0_0) := (zG BK219.out 0).trans rfl; have hcz10_1 : w9.cell? ⟨gb219, 1, none⟩ = some (.int .i64 a0_1) := (zG BK219.out 1).trans rfl; have hcz10_2 : w9.cell? ⟨gb219, 2, none⟩ = some (.int .i64 a0_2) := (zG BK219.out 2).trans rfl; have hcz10_3 : w9.cell? ⟨gb219, 3, none⟩ = some (.int .u8 a0_3) := (zG BK219.out 3).trans rfl; have hfz10_0 := zJ BK219.out 0; have hfz10_1 := zJ BK219.out 1; have hfz10_2 := zJ BK219.out 2; have hfz10_3 := zJ BK219.out 3))
    go_ret
    exact ⟨by first | rfl | (simp [errW_none, errW_some] <;> rfl) | (simp [*, errW_none, errW_some] <;> rfl), by repeat (first | (with_reducible first | exact HB.out | apply zI | apply zF | apply zH | refine zE ?_ GE219.out) | exact HB.out)⟩
end Go.Proofs.Ytbnoeeflpegcoaa.F
end
section
namespace Go.Proofs.Ytbnoeeflpegcoaa.F
open Go.RowKit Go.Proofs.YtbnoeeflpegcoaaW.PrintWords Go.Proofs.YtbnoeeflpegcoaaW.PrintLast Go.Proofs.YtbnoeeflpegcoaaW.PrintMore
attribute [local go_sem] max2_int min2_int max_two min_two max_three min_three max_four min_four   -- for this text's walks alone
set_option linter.unusedVariables false
set_option linter.unusedSimpArgs false
def stanzaref13_Columns.l0 : Nat → Int → Int → Int → List Int → Int → List (S41) → List Int → Option (List Int)
  | 0, _, _, _, _, _, _, _ => none
  | k + 1, x2, x3, x9, x10, x11, x221000, x221001 => if x11 < x2 then (if 0 ≤ x11 then (if x11 < (x221000.length : Int) then ((stanzaref13_Next.f k ((rd_T41 x221000 x11).f0) ((rd_T41 x221000 x11).f1) ((rd_T41 x221000 x11).f2) ((rd_T41 x221000 x11).f3) x9 x3).bind fun t225 => (if x10.length < 17592186044416 then (stanzaref13_Columns.l0 k x2 x3 t225 (x10 ++ [t225]) (wrap64 (x11 + 1)) x221000 x221001) else (none))) else (none)) else (none)) else (some x10)
def stanzaref13_Columns.f (k : Nat) (l0_0 : List (S41)) (l0_1 : List Int) (a1 : Int) (a2 : Int) (a3 : Int) : Option (List Int) := stanzaref13_Columns.l0 k a2 a3 0 (([0] : List Int)) a1 l0_0 l0_1
theorem stanzaref13_Columns.mono_l : ∀ k, (∀ y0 y1 y2 y3 y4 y5 y6, LeO (stanzaref13_Columns.l0 k y0 y1 y2 y3 y4 y5 y6) (stanzaref13_Columns.l0 (k + 1) y0 y1 y2 y3 y4 y5 y6))
  | 0 => fun _ _ _ _ _ _ _ r h => by simp [stanzaref13_Columns.l0] at h
  | k + 1 => by
    have ih0 := stanzaref13_Columns.mono_l k
    · intro y0 y1 y2 y3 y4 y5 y6
      unfold stanzaref13_Columns.l0
      repeat' first
      | (with_reducible exact ih0 _ _ _ _ _ _ _)
      | (with_reducible exact stanzaref13_Next.mono _ _ _ _ _ _ _)
      | (with_reducible exact LeO.refl _)
      | (with_reducible exact LeO.none _)
      | (with_reducible refine LeO.ite ?_ ?_)
      | (with_reducible refine LeO.bind ?_ (fun _ => ?_))
      | exact ih0 _ _ _ _ _ _ _
      | exact stanzaref13_Next.mono _ _ _ _ _ _ _
      | exact LeO.none _
      | refine LeO.ite ?_ ?_
      | refine LeO.bind ?_ (fun _ => ?_)
theorem stanzaref13_Columns.mono : ∀ a0 a1 a2 a3 a4 k, LeO (stanzaref13_Columns.f k a0 a1 a2 a3 a4) (stanzaref13_Columns.f (k + 1) a0 a1 a2 a3 a4) := by
  intro a0 a1 a2 a3 a4 k
  have ih0 := stanzaref13_Columns.mono_l k; unfold stanzaref13_Columns.f
  repeat' first
      | (with_reducible exact ih0 _ _ _ _ _ _ _)
      | (with_reducible exact stanzaref13_Next.mono _ _ _ _ _ _ _)
      | (with_reducible exact LeO.refl _)
      | (with_reducible exact LeO.none _)
      | (with_reducible refine LeO.ite ?_ ?_)
      | (with_reducible refine LeO.bind ?_ (fun _ => ?_))
      | exact ih0 _ _ _ _ _ _ _
      | exact stanzaref13_Next.mono _ _ _ _ _ _ _
      | exact LeO.none _
      | refine LeO.ite ?_ ?_
      | refine LeO.bind ?_ (fun _ => ?_)
set_option maxHeartbeats 8000000 in
set_option maxRecDepth 100000 in
theorem stanzaref13_Columns.calls (k : Nat) (A0_0 : Option Addr) (c0_0 : Nat) (l0_0 : List (S41)) (A0_1 : Option Addr) (c0_1 : Nat) (l0_1 : List Int) (a1 : Int) (a2 : Int) (a3 : Int) (r : List Int) (w : World) (hr0_0 : Kd.C k41 w A0_0 l0_0.length l0_0) (hc0_0 : l0_0.length ≤ c0_0) (hr0_1 : Kd.C (Kd.int .u8) w A0_1 l0_1.length l0_1) (hc0_1 : l0_1.length ≤ c0_1) (h : stanzaref13_Columns.f k l0_0 l0_1 a1 a2 a3 = some r) :
    Calls Try.prog 24 #[.agg #[.slice A0_0 l0_0.length c0_0, .slice A0_1 l0_1.length c0_1], .int .i64 a1, .int .i64 a2, .int .i64 a3] w fun e w' => ∃ v0_ : Value, e = .returned (v0_) ∧ Kd.R (Kd.int .i64) 3 w' w.heap.size (fun _ => True) v0_ r ∧ Below w.heap.size w w' := by
  have hu35 := Try.underlying35; have hu41 := Try.underlying41; have HR0_0 := zA.mk hr0_0; have HC0_0 := zA.mk hc0_0; clear hr0_0 hc0_0; have HR0_1 := zA.mk hr0_1; have HC0_1 := zA.mk hc0_1; clear hr0_1 hc0_1; have HB := zA.mk (Below.refl w.heap.size w); have H : (stanzaref13_Columns.l0 k a2 a3 0 (([0] : List Int)) a1 l0_0 l0_1) = some r := h
  clear h; obtain ⟨y221, hy221⟩ : ∃ y_ : List Int, y_ = (([0] : List Int)) := ⟨_, rfl⟩; replace H : (stanzaref13_Columns.l0 k a2 a3 0 y221 a1 l0_0 l0_1) = some r := by first | (rw [hy221]; with_reducible exact H) | (have H2_ := (Option.bind_some _ _).symm.trans H; rw [hy221]; with_reducible exact H2_) | (have H2_ := (Option.bind_some _ _).symm.trans H; with_reducible exact H2_) | with_reducible exact H | (rw [hy221]; exact H) | exact H
  have Ny221 := zA.mk hy221; clear hy221; have H' := zA.mk H
  clear H; go_enter Try.func24, Try.ntmps24
  go_wp2_with (first | ((with_reducible refine gate_dst (N := 4) rfl ?_); refine box_event ?hg (N := 4) ?hd (cs := #[.slice A0_0 l0_0.length c0_0, .slice A0_1 l0_1.length c0_1]) (t := 35) ?hr ?_; (case hd => rfl); (case hg => rfl); (case hr => first | (go_simp; done) | (go_simp; rfl)); intro gb220 hg w5 hbox hb; have n0_ := zA.mk (zO (by repeat (first | (with_reducible first | exact HB.out | apply zI | apply zF | apply zH) | exact HB.out)) hb); have n1_ := zA.mk (hbox); have n2_ := zA.mk ((by rw [hg]; exact (zK (by repeat (first | (with_reducible first | exact HB.out | apply zI | apply zF | apply zH) | exact HB.out))) : w.heap.size ≤ gb220)); have n3_ := zA.mk ((by rw [hg]; exact (zK (by repeat (first | (with_reducible first | exact HB.out | apply zI | apply zF | apply zH) | exact HB.out))) : w.heap.size ≤ gb220)); clear HB; have HB := n0_; have BK220 := n1_; have GW220 := n2_; have GE220 := n3_; clear n0_ n1_ n2_ n3_; clear hb hbox hg) | ((with_reducible refine gate_dst (N := 12) rfl ?_); refine Kd.R_lit (Kd.int .i64) _ 3 ?hg (N := 12) ?hd (xs := ([0] : List Int)) (inner := [.int .i64 0]) (ok := fun _ => True) (okp := fun _ => True) ?hr ?hp (fun _ hk => hk) trivial (Below.refl _ _) (Nat.le_refl _) (by simp) ?_; (case hd => rfl); (case hg => rfl); (case hr => first | (go_simp; done) | (go_simp; rfl)); (case hp => exact (Reps.one (show Kd.M (Kd.int .i64) _ _ _ 0 [.int .i64 0] from rfl) (Reps.none _ _))); intro v222 w6 ho7 hb hg_ hnew_; clear hg_ hnew_; (first | rw [← Ny221.out] at ho7 | (simp only [Int.reduceToNat] at ho7; rw [← Ny221.out] at ho7)); have n0_ := zA.mk (Kd.R_lower ho7 (zK (by repeat (first | (with_reducible first | exact HB.out | apply zI | apply zF | apply zH | refine zE ?_ GE220.out) | exact HB.out)))); have n1_ := zA.mk (zL (g := gb220) (o := .cells #[.slice A0_0 l0_0.length c0_0, .slice A0_1 l0_1.length c0_1] 35 (0, 0)) (by (with_reducible repeat (first | refine zC ?_ _ | refine zD ?_ | refine zB ?_ _)); exact BK220.out) hb); have n2_ := zA.mk (zO (by repeat (first | (with_reducible first | exact HB.out | apply zI | apply zF | apply zH | refine zE ?_ GE220.out) | exact HB.out)) hb); clear BK220; clear HB; have HO223 := n0_; have BK220 := n1_; have HB := n2_; clear n0_ n1_ n2_; clear hb ho7))
  go_loopg [9, 10, 11] k (fun kq v9 v10 v11 w' => ∃ (x9_1 : Int) (x10_1 : List Int) (x11_1 : Int), v9 = .int .i64 x9_1 ∧ v11 = .int .i64 x11_1 ∧ zA (stanzaref13_Columns.l0 kq a2 a3 x9_1 x10_1 x11_1 l0_0 l0_1 = some r) ∧ zA (kq ≤ k) ∧ zA (Kd.R (Kd.int .i64) 3 w' w.heap.size (fun _ => True) v10 x10_1) ∧ zA (w'.heap[gb220]? = some (.cells #[(.slice A0_0 l0_0.length c0_0), (.slice A0_1 l0_1.length c0_1)] 35 (0, 0))) ∧ zA (Below w.heap.size w w'))
  case atStart => exact ⟨(0), (y221), (a1), (by first | rfl | (simp; done) | (simp [*]; done)), (by first | rfl | (simp; done) | (simp [*]; done)), H', ⟨Nat.le_refl _⟩, ⟨by (with_reducible repeat (first | apply Kd.R_alloc | apply Kd.R_drewN | apply Kd.R_drew)); exact HO223.out⟩, ⟨by (with_reducible repeat (first | refine zC ?_ _ | refine zD ?_ | refine zB ?_ _)); exact BK220.out⟩, ⟨by repeat (first | (with_reducible first | exact HB.out | apply zI | apply zF | apply zH | refine zE ?_ GE220.out) | exact HB.out)⟩⟩
  case round =>
    clear H'; try clear c2
    try clear p2
    obtain ⟨x9_1, x10_1, x11_1, rfl, rfl, HA, HK1, HO_10, BK220, HB⟩ := hrel; cases gk with
    | zero => exact absurd HA.out (by simp [stanzaref13_Columns.l0])
    | succ k1 =>
      have H := HA.out; clear HA; simp only [stanzaref13_Columns.l0] at H; by_cases c8 : x11_1 < a2
      · rw [if_pos c8] at H
        have c8b0 : decide (x11_1 < a2) = true := decide_eq_true c8
        clear c8; by_cases c9 : 0 ≤ x11_1
        · rw [if_pos c9] at H
          have c9b0 : decide (0 ≤ x11_1) = true := decide_eq_true c9
          clear c9; by_cases c10 : x11_1 < (l0_0.length : Int)
          · rw [if_pos c10] at H
            have c10b0 : decide (x11_1 < (l0_0.length : Int)) = true := decide_eq_true c10
            clear c10; replace H := Option.bind_eq_some_iff.mp H; obtain ⟨t225, A110, H⟩ := H; replace H : (if x10_1.length < 17592186044416 then (stanzaref13_Columns.l0 k1 a2 a3 t225 (x10_1 ++ [t225]) (wrap64 (x11_1 + 1)) l0_0 l0_1) else (none)) = some r := H; have A11 := zA.mk A110; clear A110; by_cases c12 : x10_1.length < 17592186044416
            · rw [if_pos c12] at H
              have LMc12 := zA.mk c12; clear c12; obtain ⟨y226, hy226⟩ : ∃ y_ : List Int, y_ = (x10_1 ++ [t225]) := ⟨_, rfl⟩; replace H : (stanzaref13_Columns.l0 k1 a2 a3 t225 y226 (wrap64 (x11_1 + 1)) l0_0 l0_1) = some r := by first | (rw [hy226]; with_reducible exact H) | (have H2_ := (Option.bind_some _ _).symm.trans H; rw [hy226]; with_reducible exact H2_) | (have H2_ := (Option.bind_some _ _).symm.trans H; with_reducible exact H2_) | with_reducible exact H | (rw [hy226]; exact H) | exact H
              have Ny226 := zA.mk hy226; clear hy226; have H' := zA.mk H
              clear H; have hcz13_0 : wr.cell? ⟨gb220, 0, none⟩ = some (.slice A0_0 l0_0.length c0_0) := (zG BK220.out 0).trans rfl
              have hcz13_1 : wr.cell? ⟨gb220, 1, none⟩ = some (.slice A0_1 l0_1.length c0_1) := (zG BK220.out 1).trans rfl
              have hfz13_0 := zJ BK220.out 0; have hfz13_1 := zJ BK220.out 1; have p224 : 0 ≤ (x11_1 : Int) := of_decide_eq_true (by first | (with_reducible assumption) | assumption)
              have q224 : x11_1 < (l0_0.length : Int) := of_decide_eq_true (by first | (with_reducible assumption) | assumption)
              obtain ⟨ad224, e224, hx224_0, hx224_1, hx224_2, hx224_3⟩ := at_T41 HR0_0.out x11_1 p224 q224; cases e224
              replace hx224_0 := (HB.out.cell (World.block_lt_of_cell? w _ hx224_0)).trans hx224_0; replace hx224_1 := (HB.out.cell (World.block_lt_of_cell? w _ hx224_1)).trans hx224_1; replace hx224_2 := (HB.out.cell (World.block_lt_of_cell? w _ hx224_2)).trans hx224_2; replace hx224_3 := (HB.out.cell (World.block_lt_of_cell? w _ hx224_3)).trans hx224_3; replace p224 := eq_true p224; replace q224 := eq_true q224; go_wp2_with (first | ((with_reducible refine gate_callee (f := 22) rfl ?_); refine goesL_ (some 26) rfl rfl Try.func22 (by kernel_rfl) rfl #[.agg #[.int .i64 ((rd_T41 l0_0 x11_1).f0), .int .i64 ((rd_T41 l0_0 x11_1).f1), .int .i64 ((rd_T41 l0_0 x11_1).f2), .int .u8 ((rd_T41 l0_0 x11_1).f3)], .int .i64 x9_1, .int .i64 a3] rfl (by (try simp only [List.map_toArray, List.map_cons, List.map_nil]); first | done | rfl | (simp only [List.length_drop, List.length_take]; rfl)) ?_; (with_reducible refine (stanzaref13_Next.calls k1 ((rd_T41 l0_0 x11_1).f0) ((rd_T41 l0_0 x11_1).f1) ((rd_T41 l0_0 x11_1).f2) ((rd_T41 l0_0 x11_1).f3) x9_1 a3 t225 _ A11.out).mono ?_); rintro e w14 ⟨rfl, hb⟩; refine ⟨_, rfl, ?_⟩; have n0_ := zA.mk (Kd.R_below (by (with_reducible repeat (first | apply Kd.R_alloc | apply Kd.R_drewN | apply Kd.R_drew)); exact HO_10.out) hb); have n1_ := zA.mk (zL (g := gb220) (o := .cells #[.slice (some ad224) l0_0.length c0_0, .slice A0_1 l0_1.length c0_1] 35 (0, 0)) (by (with_reducible repeat (first | refine zC ?_ _ | refine zD ?_ | refine zB ?_ _)); exact BK220.out) hb); have n2_ := zA.mk (zO (by repeat (first | (with_reducible first | exact HB.out | apply zI | apply zF | apply zH | refine zE ?_ GE220.out) | exact HB.out)) hb); clear HO_10; clear BK220; clear HB; have HO_10 := n0_; have BK220 := n1_; have HB := n2_; clear n0_ n1_ n2_; (try clear hb); (try clear hb2); (try clear hk); (try clear hi)) | ((with_reducible refine gate_builtin (b := .append) (xs := #[.tmp 27, .tmp 29]) rfl ?_); at_builtin; refine Kd.R_append (Kd.int .i64) (w0 := w) w.heap.size rfl (.tmp 27) (.tmp 29) 24 3 (.int .i64 0) 8 rfl Try.underlying24 info3 rfl (by decide) (by omega) u10 x10_1 t225 [.int .i64 t225] (fun _ => True) (fun _ => False) rfl rfl ?aP (fun _ hk => hk.elim) ?aF ?aO ?aB ?aS ?aL ?_; (case aP => exact rfl); (case aB => exact (by repeat (first | (with_reducible first | exact HB.out | apply zI | apply zF | apply zH | refine zE ?_ GE220.out) | exact HB.out))); (case aF => exact (fun _ _ => trivial)); (case aO => exact (by (with_reducible repeat (first | apply Kd.R_alloc | apply Kd.R_drewN | apply Kd.R_drew)); exact HO_10.out)); (case aS => exact (zK (by repeat (first | (with_reducible first | exact HB.out | apply zI | apply zF | apply zH | refine zE ?_ GE220.out) | exact HB.out)))); (case aL => have := LMc12.out; omega); intro v227 w15 ho hb hg hat; rw [← Ny226.out] at ho; have n0_ := zA.mk (blk_grown (g := gb220) (o := .cells #[.slice (some ad224) l0_0.length c0_0, .slice A0_1 l0_1.length c0_1] 35 (0, 0)) (by (with_reducible repeat (first | refine zC ?_ _ | refine zD ?_ | refine zB ?_ _)); exact BK220.out) hg (Kd.R_ne HO_10.out BK220.out (by decide))); have n1_ := zA.mk (hb); have n2_ := zA.mk (ho); clear BK220; clear HB; clear HO_10; have BK220 := n0_; have HB := n1_; have HO228 := n2_; clear n0_ n1_ n2_; clear ho hb hg hat))
              go_roundg k1
              case measure => have := HK1.out; omega
              case rel => exact ⟨(t225), (y226), (wrap64 (x11_1 + 1)), (by first | rfl | (simp; done) | (simp [*]; done)), (by first | rfl | (simp; done) | (simp [*]; done)), H', ⟨by have := HK1.out; omega⟩, ⟨by (with_reducible repeat (first | apply Kd.R_alloc | apply Kd.R_drewN | apply Kd.R_drew)); exact HO228.out⟩, ⟨by (with_reducible repeat (first | refine zC ?_ _ | refine zD ?_ | refine zB ?_ _)); exact BK220.out⟩, ⟨by repeat (first | (with_reducible first | exact HB.out | apply zI | apply zF | apply zH | refine zE ?_ GE220.out) | exact HB.out)⟩⟩
            · rw [if_neg c12] at H
              exact absurd H (by simp)
          · rw [if_neg c10] at H
            exact absurd H (by simp)
        · rw [if_neg c9] at H
          exact absurd H (by simp)
      · rw [if_neg c8] at H
        have c8b0 : decide (x11_1 < a2) = false := decide_eq_false c8
        clear c8; obtain rfl := Option.some.inj H
        go_wp2
        go_ret
        exact ⟨_, by first | rfl | (simp [errW_none, errW_some] <;> rfl) | (simp [*, errW_none, errW_some] <;> rfl), by (with_reducible repeat (first | apply Kd.R_alloc | apply Kd.R_drewN | apply Kd.R_drew)); exact HO_10.out, by repeat (first | (with_reducible first | exact HB.out | apply zI | apply zF | apply zH | refine zE ?_ GE220.out) | exact HB.out)⟩
end Go.Proofs.Ytbnoeeflpegcoaa.F
end
section
namespace Go.Proofs.Ytbnoeeflpegcoaa.F
open Go.RowKit Go.Proofs.YtbnoeeflpegcoaaW.PrintWords Go.Proofs.YtbnoeeflpegcoaaW.PrintLast Go.Proofs.YtbnoeeflpegcoaaW.PrintMore
attribute [local go_sem] max2_int min2_int max_two min_two max_three min_three max_four min_four   -- for this text's walks alone
set_option linter.unusedVariables false
set_option linter.unusedSimpArgs false
def stanzaref13_Empty.f (a0_0 : Int) (a0_1 : Int) (a0_2 : Int) (a0_3 : Int) : Option (Bool) := if a0_3 = 1 then (some true) else (if a0_3 = 0 then (some (a0_2 == 0)) else (some false))
set_option maxHeartbeats 8000000 in
set_option maxRecDepth 100000 in
theorem stanzaref13_Empty.calls (a0_0 : Int) (a0_1 : Int) (a0_2 : Int) (a0_3 : Int) (r : Bool) (w : World) (h : stanzaref13_Empty.f a0_0 a0_1 a0_2 a0_3 = some r) :
    Calls Try.prog 40 #[.agg #[.int .i64 a0_0, .int .i64 a0_1, .int .i64 a0_2, .int .u8 a0_3]] w fun e w' => e = .returned (.bool r) ∧ Below w.heap.size w w' := by
  have hu41 := Try.underlying41; have HB := zA.mk (Below.refl w.heap.size w); have H : (if a0_3 = 1 then (some true) else (if a0_3 = 0 then (some (a0_2 == 0)) else (some false))) = some r := h
  clear h; by_cases c2 : a0_3 = 1
  · rw [if_pos c2] at H
    have c2b0 : (a0_3 == 1) = true := beq_iff_eq.mpr c2
    have c2b1 : (a0_3 != 1) = false := bne_eq_false_iff_eq.mpr c2
    clear c2; obtain rfl := Option.some.inj H
    go_enter Try.func40, Try.ntmps40
    go_wp2_with (first | ((with_reducible refine gate_dst (N := 1) rfl ?_); refine box_event ?hg (N := 1) ?hd (cs := #[.int .i64 a0_0, .int .i64 a0_1, .int .i64 a0_2, .int .u8 a0_3]) (t := 41) ?hr ?_; (case hd => rfl); (case hg => rfl); (case hr => first | (go_simp; done) | (go_simp; rfl)); intro gb319 hg w3 hbox hb; have n0_ := zA.mk (zO (by repeat (first | (with_reducible first | exact HB.out | apply zI | apply zF | apply zH) | exact HB.out)) hb); have n1_ := zA.mk (hbox); have n2_ := zA.mk ((by rw [hg]; exact (zK (by repeat (first | (with_reducible first | exact HB.out | apply zI | apply zF | apply zH) | exact HB.out))) : w.heap.size ≤ gb319)); have n3_ := zA.mk ((by rw [hg]; exact (zK (by repeat (first | (with_reducible first | exact HB.out | apply zI | apply zF | apply zH) | exact HB.out))) : w.heap.size ≤ gb319)); clear HB; have HB := n0_; have BK319 := n1_; have GW319 := n2_; have GE319 := n3_; clear n0_ n1_ n2_ n3_; clear hb hbox hg; have hcz4_0 : w3.cell? ⟨gb319, 0, none⟩ = some (.int .i64 a0_0) := (zG BK319.out 0).trans rfl; have hcz4_1 : w3.cell? ⟨gb319, 1, none⟩ = some (.int .i64 a0_1) := (zG BK319.out 1).trans rfl; have hcz4_2 : w3.cell? ⟨gb319, 2, none⟩ = some (.int .i64 a0_2) := (zG BK319.out 2).trans rfl; have hcz4_3 : w3.cell? ⟨gb319, 3, none⟩ = some (.int .u8 a0_3) := (zG BK319.out 3).trans rfl; have hfz4_0 := zJ BK319.out 0; have hfz4_1 := zJ BK319.out 1; have hfz4_2 := zJ BK319.out 2; have hfz4_3 := zJ BK319.out 3))
    go_ret
    exact ⟨by first | rfl | (simp [errW_none, errW_some] <;> rfl) | (simp [*, errW_none, errW_some] <;> rfl), by repeat (first | (with_reducible first | exact HB.out | apply zI | apply zF | apply zH | refine zE ?_ GE319.out) | exact HB.out)⟩
  · rw [if_neg c2] at H
    have c2b0 : (a0_3 == 1) = false := beq_eq_false_iff_ne.mpr c2
    have c2b1 : (a0_3 != 1) = true := bne_iff_ne.mpr c2
    by_cases c5 : a0_3 = 0
    · rw [if_pos c5] at H
      have c5b0 : (a0_3 == 0) = true := beq_iff_eq.mpr c5
      have c5b1 : (a0_3 != 0) = false := bne_eq_false_iff_eq.mpr c5
      clear c5; obtain rfl := Option.some.inj H
      go_enter Try.func40, Try.ntmps40
      go_wp2_with (first | ((with_reducible refine gate_dst (N := 1) rfl ?_); refine box_event ?hg (N := 1) ?hd (cs := #[.int .i64 a0_0, .int .i64 a0_1, .int .i64 a0_2, .int .u8 a0_3]) (t := 41) ?hr ?_; (case hd => rfl); (case hg => rfl); (case hr => first | (go_simp; done) | (go_simp; rfl)); intro gb319 hg w6 hbox hb; have n0_ := zA.mk (zO (by repeat (first | (with_reducible first | exact HB.out | apply zI | apply zF | apply zH) | exact HB.out)) hb); have n1_ := zA.mk (hbox); have n2_ := zA.mk ((by rw [hg]; exact (zK (by repeat (first | (with_reducible first | exact HB.out | apply zI | apply zF | apply zH) | exact HB.out))) : w.heap.size ≤ gb319)); have n3_ := zA.mk ((by rw [hg]; exact (zK (by repeat (first | (with_reducible first | exact HB.out | apply zI | apply zF | apply zH) | exact HB.out))) : w.heap.size ≤ gb319)); clear HB; have HB := n0_; have BK319 := n1_; have GW319 := n2_; have GE319 := n3_; clear n0_ n1_ n2_ n3_; clear hb hbox hg; have hcz7_0 : w6.cell? ⟨gb319, 0, none⟩ = some (.int .i64 a0_0) := (zG BK319.out 0).trans rfl; have hcz7_1 : w6.cell? ⟨gb319, 1, none⟩ = some (.int .i64 a0_1) := (zG BK319.out 1).trans rfl; have hcz7_2 : w6.cell? ⟨gb319, 2, none⟩ = some (.int .i64 a0_2) := (zG BK319.out 2).trans rfl; have hcz7_3 : w6.cell? ⟨gb319, 3, none⟩ = some (.int .u8 a0_3) := (zG BK319.out 3).trans rfl; have hfz7_0 := zJ BK319.out 0; have hfz7_1 := zJ BK319.out 1; have hfz7_2 := zJ BK319.out 2; have hfz7_3 := zJ BK319.out 3))
      go_ret
      exact ⟨by first | rfl | (simp [errW_none, errW_some] <;> rfl) | (simp [*, errW_none, errW_some] <;> rfl), by repeat (first | (with_reducible first | exact HB.out | apply zI | apply zF | apply zH | refine zE ?_ GE319.out) | exact HB.out)⟩
    · rw [if_neg c5] at H
      have c5b0 : (a0_3 == 0) = false := beq_eq_false_iff_ne.mpr c5
      have c5b1 : (a0_3 != 0) = true := bne_iff_ne.mpr c5
      obtain rfl := Option.some.inj H
      go_enter Try.func40, Try.ntmps40
      go_wp2_with (first | ((with_reducible refine gate_dst (N := 1) rfl ?_); refine box_event ?hg (N := 1) ?hd (cs := #[.int .i64 a0_0, .int .i64 a0_1, .int .i64 a0_2, .int .u8 a0_3]) (t := 41) ?hr ?_; (case hd => rfl); (case hg => rfl); (case hr => first | (go_simp; done) | (go_simp; rfl)); intro gb319 hg w8 hbox hb; have n0_ := zA.mk (zO (by repeat (first | (with_reducible first | exact HB.out | apply zI | apply zF | apply zH) | exact HB.out)) hb); have n1_ := zA.mk (hbox); have n2_ := zA.mk ((by rw [hg]; exact (zK (by repeat (first | (with_reducible first | exact HB.out | apply zI | apply zF | apply zH) | exact HB.out))) : w.heap.size ≤ gb319)); have n3_ := zA.mk ((by rw [hg]; exact (zK (by repeat (first | (with_reducible first | exact HB.out | apply zI | apply zF | apply zH) | exact HB.out))) : w.heap.size ≤ gb319)); clear HB; have HB := n0_; have BK319 := n1_; have GW319 := n2_; have GE319 := n3_; clear n0_ n1_ n2_ n3_; clear hb hbox hg; have hcz9_0 : w8.cell? ⟨gb319, 0, none⟩ = some (.int .i64 a0_0) := (zG BK319.out 0).trans rfl; have hcz9_1 : w8.cell? ⟨gb319, 1, none⟩ = some (.int .i64 a0_1) := (zG BK319.out 1).trans rfl; have hcz9_2 : w8.cell? ⟨gb319, 2, none⟩ = some (.int .i64 a0_2) := (zG BK319.out 2).trans rfl; have hcz9_3 : w8.cell? ⟨gb319, 3, none⟩ = some (.int .u8 a0_3) := (zG BK319.out 3).trans rfl; have hfz9_0 := zJ BK319.out 0; have hfz9_1 := zJ BK319.out 1; have hfz9_2 := zJ BK319.out 2; have hfz9_3 := zJ BK319.out 3))
      go_ret
      exact ⟨by first | rfl | (simp [errW_none, errW_some] <;> rfl) | (simp [*, errW_none, errW_some] <;> rfl), by repeat (first | (with_reducible first | exact HB.out | apply zI | apply zF | apply zH | refine zE ?_ GE319.out) | exact HB.out)⟩
end Go.Proofs.Ytbnoeeflpegcoaa.F
end
section
namespace Go.Proofs.Ytbnoeeflpegcoaa.F
open Go.RowKit Go.Proofs.YtbnoeeflpegcoaaW.PrintWords Go.Proofs.YtbnoeeflpegcoaaW.PrintLast Go.Proofs.YtbnoeeflpegcoaaW.PrintMore
attribute [local go_sem] max2_int min2_int max_two min_two max_three min_three max_four min_four   -- for this text's walks alone
set_option linter.unusedVariables false
set_option linter.unusedSimpArgs false
def stanzaref13_Trim.l0 : Nat → Int → Int → Int → List (S41) → List Int → Option (Int)
  | 0, _, _, _, _, _ => none
  | k + 1, x2, x7, x8, x321000, x321001 => if x8 < x2 then (if 0 ≤ x8 then (if x8 < (x321000.length : Int) then ((stanzaref13_Empty.f ((rd_T41 x321000 x8).f0) ((rd_T41 x321000 x8).f1) ((rd_T41 x321000 x8).f2) ((rd_T41 x321000 x8).f3)).bind fun t322 => (if t322 = true then (stanzaref13_Trim.l0 k x2 x7 (wrap64 (x8 + 1)) x321000 x321001) else (stanzaref13_Trim.l0 k x2 (wrap64 (x8 + 1)) (wrap64 (x8 + 1)) x321000 x321001))) else (none)) else (none)) else (some x7)
def stanzaref13_Trim.f (k : Nat) (l0_0 : List (S41)) (l0_1 : List Int) (a1 : Int) (a2 : Int) : Option (Int) := stanzaref13_Trim.l0 k a2 a1 a1 l0_0 l0_1
theorem stanzaref13_Trim.mono_l : ∀ k, (∀ y0 y1 y2 y3 y4, LeO (stanzaref13_Trim.l0 k y0 y1 y2 y3 y4) (stanzaref13_Trim.l0 (k + 1) y0 y1 y2 y3 y4))
  | 0 => fun _ _ _ _ _ r h => by simp [stanzaref13_Trim.l0] at h
  | k + 1 => by
    have ih0 := stanzaref13_Trim.mono_l k
    · intro y0 y1 y2 y3 y4
      unfold stanzaref13_Trim.l0
      repeat' first
      | (with_reducible exact ih0 _ _ _ _ _)
      | (with_reducible exact LeO.refl _)
      | (with_reducible exact LeO.none _)
      | (with_reducible refine LeO.ite ?_ ?_)
      | (with_reducible refine LeO.bind ?_ (fun _ => ?_))
      | exact ih0 _ _ _ _ _
      | exact LeO.none _
      | refine LeO.ite ?_ ?_
      | refine LeO.bind ?_ (fun _ => ?_)
theorem stanzaref13_Trim.mono : ∀ a0 a1 a2 a3 k, LeO (stanzaref13_Trim.f k a0 a1 a2 a3) (stanzaref13_Trim.f (k + 1) a0 a1 a2 a3) := by
  intro a0 a1 a2 a3 k
  have ih0 := stanzaref13_Trim.mono_l k; unfold stanzaref13_Trim.f
  repeat' first
      | (with_reducible exact ih0 _ _ _ _ _)
      | (with_reducible exact LeO.refl _)
      | (with_reducible exact LeO.none _)
      | (with_reducible refine LeO.ite ?_ ?_)
      | (with_reducible refine LeO.bind ?_ (fun _ => ?_))
      | exact ih0 _ _ _ _ _
      | exact LeO.none _
      | refine LeO.ite ?_ ?_
      | refine LeO.bind ?_ (fun _ => ?_)
set_option maxHeartbeats 8000000 in
set_option maxRecDepth 100000 in
theorem stanzaref13_Trim.calls (k : Nat) (A0_0 : Option Addr) (c0_0 : Nat) (l0_0 : List (S41)) (A0_1 : Option Addr) (c0_1 : Nat) (l0_1 : List Int) (a1 : Int) (a2 : Int) (r : Int) (w : World) (hr0_0 : Kd.C k41 w A0_0 l0_0.length l0_0) (hc0_0 : l0_0.length ≤ c0_0) (hr0_1 : Kd.C (Kd.int .u8) w A0_1 l0_1.length l0_1) (hc0_1 : l0_1.length ≤ c0_1) (h : stanzaref13_Trim.f k l0_0 l0_1 a1 a2 = some r) :
    Calls Try.prog 31 #[.agg #[.slice A0_0 l0_0.length c0_0, .slice A0_1 l0_1.length c0_1], .int .i64 a1, .int .i64 a2] w fun e w' => e = .returned (.int .i64 r) ∧ Below w.heap.size w w' := by
  have hu35 := Try.underlying35; have hu41 := Try.underlying41; have HR0_0 := zA.mk hr0_0; have HC0_0 := zA.mk hc0_0; clear hr0_0 hc0_0; have HR0_1 := zA.mk hr0_1; have HC0_1 := zA.mk hc0_1; clear hr0_1 hc0_1; have HB := zA.mk (Below.refl w.heap.size w); have H : (stanzaref13_Trim.l0 k a2 a1 a1 l0_0 l0_1) = some r := h
  clear h; have H' := zA.mk H
  clear H; go_enter Try.func31, Try.ntmps31
  go_wp2_with (first | ((with_reducible refine gate_dst (N := 3) rfl ?_); refine box_event ?hg (N := 3) ?hd (cs := #[.slice A0_0 l0_0.length c0_0, .slice A0_1 l0_1.length c0_1]) (t := 35) ?hr ?_; (case hd => rfl); (case hg => rfl); (case hr => first | (go_simp; done) | (go_simp; rfl)); intro gb320 hg w4 hbox hb; have n0_ := zA.mk (zO (by repeat (first | (with_reducible first | exact HB.out | apply zI | apply zF | apply zH) | exact HB.out)) hb); have n1_ := zA.mk (hbox); have n2_ := zA.mk ((by rw [hg]; exact (zK (by repeat (first | (with_reducible first | exact HB.out | apply zI | apply zF | apply zH) | exact HB.out))) : w.heap.size ≤ gb320)); have n3_ := zA.mk ((by rw [hg]; exact (zK (by repeat (first | (with_reducible first | exact HB.out | apply zI | apply zF | apply zH) | exact HB.out))) : w.heap.size ≤ gb320)); clear HB; have HB := n0_; have BK320 := n1_; have GW320 := n2_; have GE320 := n3_; clear n0_ n1_ n2_ n3_; clear hb hbox hg))
  go_loopg [7, 8] k (fun kq v7 v8 w' => ∃ (x7_1 : Int) (x8_1 : Int), v7 = .int .i64 x7_1 ∧ v8 = .int .i64 x8_1 ∧ zA (stanzaref13_Trim.l0 kq a2 x7_1 x8_1 l0_0 l0_1 = some r) ∧ zA (kq ≤ k) ∧ zA (w'.heap[gb320]? = some (.cells #[(.slice A0_0 l0_0.length c0_0), (.slice A0_1 l0_1.length c0_1)] 35 (0, 0))) ∧ zA (Below w.heap.size w w'))
  case atStart => exact ⟨(a1), (a1), (by first | rfl | (simp; done) | (simp [*]; done)), (by first | rfl | (simp; done) | (simp [*]; done)), H', ⟨Nat.le_refl _⟩, ⟨by (with_reducible repeat (first | refine zC ?_ _ | refine zD ?_ | refine zB ?_ _)); exact BK320.out⟩, ⟨by repeat (first | (with_reducible first | exact HB.out | apply zI | apply zF | apply zH | refine zE ?_ GE320.out) | exact HB.out)⟩⟩
  case round =>
    clear H'; try clear p2
    try clear c3
    obtain ⟨x7_1, x8_1, rfl, rfl, HA, HK1, BK320, HB⟩ := hrel; cases gk with
    | zero => exact absurd HA.out (by simp [stanzaref13_Trim.l0])
    | succ k1 =>
      have H := HA.out; clear HA; simp only [stanzaref13_Trim.l0] at H; by_cases c5 : x8_1 < a2
      · rw [if_pos c5] at H
        have c5b0 : decide (x8_1 < a2) = true := decide_eq_true c5
        clear c5; by_cases c6 : 0 ≤ x8_1
        · rw [if_pos c6] at H
          have c6b0 : decide (0 ≤ x8_1) = true := decide_eq_true c6
          clear c6; by_cases c7 : x8_1 < (l0_0.length : Int)
          · rw [if_pos c7] at H
            have c7b0 : decide (x8_1 < (l0_0.length : Int)) = true := decide_eq_true c7
            clear c7; replace H := Option.bind_eq_some_iff.mp H; obtain ⟨t322, A80, H⟩ := H; replace H : (if t322 = true then (stanzaref13_Trim.l0 k1 a2 x7_1 (wrap64 (x8_1 + 1)) l0_0 l0_1) else (stanzaref13_Trim.l0 k1 a2 (wrap64 (x8_1 + 1)) (wrap64 (x8_1 + 1)) l0_0 l0_1)) = some r := H; have A8 := zA.mk A80; clear A80; by_cases c9 : t322 = true
            · subst c9
              have H1 : (stanzaref13_Trim.l0 k1 a2 x7_1 (wrap64 (x8_1 + 1)) l0_0 l0_1) = some r := by rw [if_pos rfl] at H; exact H
              clear H; have H := H1; clear H1; have H' := zA.mk H
              clear H; have hcz10_0 : wr.cell? ⟨gb320, 0, none⟩ = some (.slice A0_0 l0_0.length c0_0) := (zG BK320.out 0).trans rfl
              have hcz10_1 : wr.cell? ⟨gb320, 1, none⟩ = some (.slice A0_1 l0_1.length c0_1) := (zG BK320.out 1).trans rfl
              have hfz10_0 := zJ BK320.out 0; have hfz10_1 := zJ BK320.out 1; have p321 : 0 ≤ (x8_1 : Int) := of_decide_eq_true (by first | (with_reducible assumption) | assumption)
              have q321 : x8_1 < (l0_0.length : Int) := of_decide_eq_true (by first | (with_reducible assumption) | assumption)
              obtain ⟨ad321, e321, hx321_0, hx321_1, hx321_2, hx321_3⟩ := at_T41 HR0_0.out x8_1 p321 q321; cases e321
              replace hx321_0 := (HB.out.cell (World.block_lt_of_cell? w _ hx321_0)).trans hx321_0; replace hx321_1 := (HB.out.cell (World.block_lt_of_cell? w _ hx321_1)).trans hx321_1; replace hx321_2 := (HB.out.cell (World.block_lt_of_cell? w _ hx321_2)).trans hx321_2; replace hx321_3 := (HB.out.cell (World.block_lt_of_cell? w _ hx321_3)).trans hx321_3; replace p321 := eq_true p321; replace q321 := eq_true q321; go_wp2_with (first | ((with_reducible refine gate_callee (f := 40) rfl ?_); refine goesL_ (some 21) rfl rfl Try.func40 (by kernel_rfl) rfl #[.agg #[.int .i64 ((rd_T41 l0_0 x8_1).f0), .int .i64 ((rd_T41 l0_0 x8_1).f1), .int .i64 ((rd_T41 l0_0 x8_1).f2), .int .u8 ((rd_T41 l0_0 x8_1).f3)]] rfl (by (try simp only [List.map_toArray, List.map_cons, List.map_nil]); first | done | rfl | (simp only [List.length_drop, List.length_take]; rfl)) ?_; (with_reducible refine (stanzaref13_Empty.calls ((rd_T41 l0_0 x8_1).f0) ((rd_T41 l0_0 x8_1).f1) ((rd_T41 l0_0 x8_1).f2) ((rd_T41 l0_0 x8_1).f3) true _ A8.out).mono ?_); rintro e w11 ⟨rfl, hb⟩; refine ⟨_, rfl, ?_⟩; have n0_ := zA.mk (zL (g := gb320) (o := .cells #[.slice (some ad321) l0_0.length c0_0, .slice A0_1 l0_1.length c0_1] 35 (0, 0)) (by (with_reducible repeat (first | refine zC ?_ _ | refine zD ?_ | refine zB ?_ _)); exact BK320.out) hb); have n1_ := zA.mk (zO (by repeat (first | (with_reducible first | exact HB.out | apply zI | apply zF | apply zH | refine zE ?_ GE320.out) | exact HB.out)) hb); clear BK320; clear HB; have BK320 := n0_; have HB := n1_; clear n0_ n1_; (try clear hb); (try clear hb2); (try clear hk); (try clear hi)))
              go_roundg k1
              case measure => have := HK1.out; omega
              case rel => exact ⟨(x7_1), (wrap64 (x8_1 + 1)), (by first | rfl | (simp; done) | (simp [*]; done)), (by first | rfl | (simp; done) | (simp [*]; done)), H', ⟨by have := HK1.out; omega⟩, ⟨by (with_reducible repeat (first | refine zC ?_ _ | refine zD ?_ | refine zB ?_ _)); exact BK320.out⟩, ⟨by repeat (first | (with_reducible first | exact HB.out | apply zI | apply zF | apply zH | refine zE ?_ GE320.out) | exact HB.out)⟩⟩
            · replace c9 := Bool.eq_false_iff.mpr c9
              subst c9; have H1 : (stanzaref13_Trim.l0 k1 a2 (wrap64 (x8_1 + 1)) (wrap64 (x8_1 + 1)) l0_0 l0_1) = some r := by rw [if_neg (show ¬ (false = true) by decide)] at H; exact H
              clear H; have H := H1; clear H1; have H' := zA.mk H
              clear H; have hcz12_0 : wr.cell? ⟨gb320, 0, none⟩ = some (.slice A0_0 l0_0.length c0_0) := (zG BK320.out 0).trans rfl
              have hcz12_1 : wr.cell? ⟨gb320, 1, none⟩ = some (.slice A0_1 l0_1.length c0_1) := (zG BK320.out 1).trans rfl
              have hfz12_0 := zJ BK320.out 0; have hfz12_1 := zJ BK320.out 1; have p321 : 0 ≤ (x8_1 : Int) := of_decide_eq_true (by first | (with_reducible assumption) | assumption)
              have q321 : x8_1 < (l0_0.length : Int) := of_decide_eq_true (by first | (with_reducible assumption) | assumption)
              obtain ⟨ad321, e321, hx321_0, hx321_1, hx321_2, hx321_3⟩ := at_T41 HR0_0.out x8_1 p321 q321; cases e321
              replace hx321_0 := (HB.out.cell (World.block_lt_of_cell? w _ hx321_0)).trans hx321_0; replace hx321_1 := (HB.out.cell (World.block_lt_of_cell? w _ hx321_1)).trans hx321_1; replace hx321_2 := (HB.out.cell (World.block_lt_of_cell? w _ hx321_2)).trans hx321_2; replace hx321_3 := (HB.out.cell (World.block_lt_of_cell? w _ hx321_3)).trans hx321_3; replace p321 := eq_true p321; replace q321 := eq_true q321; go_wp2_with (first | ((with_reducible refine gate_callee (f := 40) rfl ?_); refine goesL_ (some 21) rfl rfl Try.func40 (by kernel_rfl) rfl #[.agg #[.int .i64 ((rd_T41 l0_0 x8_1).f0), .int .i64 ((rd_T41 l0_0 x8_1).f1), .int .i64 ((rd_T41 l0_0 x8_1).f2), .int .u8 ((rd_T41 l0_0 x8_1).f3)]] rfl (by (try simp only [List.map_toArray, List.map_cons, List.map_nil]); first | done | rfl | (simp only [List.length_drop, List.length_take]; rfl)) ?_; (with_reducible refine (stanzaref13_Empty.calls ((rd_T41 l0_0 x8_1).f0) ((rd_T41 l0_0 x8_1).f1) ((rd_T41 l0_0 x8_1).f2) ((rd_T41 l0_0 x8_1).f3) false _ A8.out).mono ?_); rintro e w13 ⟨rfl, hb⟩; refine ⟨_, rfl, ?_⟩; have n0_ := zA.mk (zL (g := gb320) (o := .cells #[.slice (some ad321) l0_0.length c0_0, .slice A0_1 l0_1.length c0_1] 35 (0, 0)) (by (with_reducible repeat (first | refine zC ?_ _ | refine zD ?_ | refine zB ?_ _)); exact BK320.out) hb); have n1_ := zA.mk (zO (by repeat (first | (with_reducible first | exact HB.out | apply zI | apply zF | apply zH | refine zE ?_ GE320.out) | exact HB.out)) hb); clear BK320; clear HB; have BK320 := n0_; have HB := n1_; clear n0_ n1_; (try clear hb); (try clear hb2); (try clear hk); (try clear hi)))
              go_roundg k1
              case measure => have := HK1.out; omega
              case rel => exact ⟨(wrap64 (x8_1 + 1)), (wrap64 (x8_1 + 1)), (by first | rfl | (simp; done) | (simp [*]; done)), (by first | rfl | (simp; done) | (simp [*]; done)), H', ⟨by have := HK1.out; omega⟩, ⟨by (with_reducible repeat (first | refine zC ?_ _ | refine zD ?_ | refine zB ?_ _)); exact BK320.out⟩, ⟨by repeat (first | (with_reducible first | exact HB.out | apply zI | apply zF | apply zH | refine zE ?_ GE320.out) | exact HB.out)⟩⟩
          · rw [if_neg c7] at H
            exact absurd H (by simp)
        · rw [if_neg c6] at H
          exact absurd H (by simp)
      · rw [if_neg c5] at H
        have c5b0 : decide (x8_1 < a2) = false := decide_eq_false c5
        clear c5; obtain rfl := Option.some.inj H
        go_wp2
        go_ret
        exact ⟨by first | rfl | (simp [errW_none, errW_some] <;> rfl) | (simp [*, errW_none, errW_some] <;> rfl), by repeat (first | (with_reducible first | exact HB.out | apply zI | apply zF | apply zH | refine zE ?_ GE320.out) | exact HB.out)⟩
end Go.Proofs.Ytbnoeeflpegcoaa.F
end
section
namespace Go.Proofs.Ytbnoeeflpegcoaa.F
open Go.RowKit Go.Proofs.YtbnoeeflpegcoaaW.PrintWords Go.Proofs.YtbnoeeflpegcoaaW.PrintLast Go.Proofs.YtbnoeeflpegcoaaW.PrintMore
attribute [local go_sem] max2_int min2_int max_two min_two max_three min_three max_four min_four   -- for this text's walks alone
set_option linter.unusedVariables false
set_option linter.unusedSimpArgs false
def stanzaref13_Cells.f (k : Nat) (l0_0 : List (S41)) (l0_1 : List Int) (a1 : Int) (a2 : Int) (a3 : Int) (a4 : Int) : Option (Int) := (stanzaref13_Trim.f k l0_0 l0_1 a1 a2).bind fun t324 => ((stanzaref13_Columns.f k l0_0 l0_1 a1 t324 a4).bind fun t325 => (if 0 ≤ (wrap64 ((t325.length : Int) - 1)) then (if (wrap64 ((t325.length : Int) - 1)) < (t325.length : Int) then (if a3 = 3 then (some (wrap64 ((rd t325 (wrap64 ((t325.length : Int) - 1))) + 1))) else (some (rd t325 (wrap64 ((t325.length : Int) - 1))))) else (none)) else (none)))
theorem stanzaref13_Cells.mono : ∀ a0 a1 a2 a3 a4 a5 k, LeO (stanzaref13_Cells.f k a0 a1 a2 a3 a4 a5) (stanzaref13_Cells.f (k + 1) a0 a1 a2 a3 a4 a5) := by
  intro a0 a1 a2 a3 a4 a5 k
  unfold stanzaref13_Cells.f
  repeat' first
      | (with_reducible exact stanzaref13_Columns.mono _ _ _ _ _ _)
      | (with_reducible exact stanzaref13_Trim.mono _ _ _ _ _)
      | (with_reducible exact LeO.refl _)
      | (with_reducible exact LeO.none _)
      | (with_reducible refine LeO.ite ?_ ?_)
      | (with_reducible refine LeO.bind ?_ (fun _ => ?_))
      | exact stanzaref13_Columns.mono _ _ _ _ _ _
      | exact stanzaref13_Trim.mono _ _ _ _ _
      | exact LeO.none _
      | refine LeO.ite ?_ ?_
      | refine LeO.bind ?_ (fun _ => ?_)
def stanzaref13_Cells.T1 : Bool × List (List Nat × List Nat) := (true, [([], []), ([], []), ([], []), ([], []), ([], []), ([2, 3, 4], [2, 3, 4]), ([], []), ([0, 1, 5, 6, 5], [0, 1, 5, 6]), ([7, 7, 0, 1, 2, 3, 4, 5, 6, 7], [7])])
def stanzaref13_Cells.B1 : List Nat := [0, 0, 0, 0, 0, 28, 0, 127, 255]
theorem stanzaref13_Cells.tab1 : rtab .any (opsOf Try.f32 1) = stanzaref13_Cells.T1 := by kernel_rfl
theorem stanzaref13_Cells.bits1 : waitsOk stanzaref13_Cells.T1.2 stanzaref13_Cells.B1 = true := by kernel_rfl
set_option maxHeartbeats 8000000 in
set_option maxRecDepth 100000 in
theorem stanzaref13_Cells.calls (k : Nat) (A0_0 : Option Addr) (c0_0 : Nat) (l0_0 : List (S41)) (A0_1 : Option Addr) (c0_1 : Nat) (l0_1 : List Int) (a1 : Int) (a2 : Int) (a3 : Int) (a4 : Int) (r : Int) (w : World) (hr0_0 : Kd.C k41 w A0_0 l0_0.length l0_0) (hc0_0 : l0_0.length ≤ c0_0) (hr0_1 : Kd.C (Kd.int .u8) w A0_1 l0_1.length l0_1) (hc0_1 : l0_1.length ≤ c0_1) (h : stanzaref13_Cells.f k l0_0 l0_1 a1 a2 a3 a4 = some r) :
    Calls Try.prog 32 #[.agg #[.slice A0_0 l0_0.length c0_0, .slice A0_1 l0_1.length c0_1], .int .i64 a1, .int .i64 a2, .int .u8 a3, .int .i64 a4] w fun e w' => e = .returned (.int .i64 r) ∧ Below w.heap.size w w' := by
  have hu35 := Try.underlying35; have HR0_0 := zA.mk hr0_0; have HC0_0 := zA.mk hc0_0; clear hr0_0 hc0_0; have HR0_1 := zA.mk hr0_1; have HC0_1 := zA.mk hc0_1; clear hr0_1 hc0_1; have HB := zA.mk (Below.refl w.heap.size w); have H : ((stanzaref13_Trim.f k l0_0 l0_1 a1 a2).bind fun t324 => ((stanzaref13_Columns.f k l0_0 l0_1 a1 t324 a4).bind fun t325 => (if 0 ≤ (wrap64 ((t325.length : Int) - 1)) then (if (wrap64 ((t325.length : Int) - 1)) < (t325.length : Int) then (if a3 = 3 then (some (wrap64 ((rd t325 (wrap64 ((t325.length : Int) - 1))) + 1))) else (some (rd t325 (wrap64 ((t325.length : Int) - 1))))) else (none)) else (none)))) = some r := h
  clear h; replace H := Option.bind_eq_some_iff.mp H; obtain ⟨t324, A60, H⟩ := H; replace H : ((stanzaref13_Columns.f k l0_0 l0_1 a1 t324 a4).bind fun t325 => (if 0 ≤ (wrap64 ((t325.length : Int) - 1)) then (if (wrap64 ((t325.length : Int) - 1)) < (t325.length : Int) then (if a3 = 3 then (some (wrap64 ((rd t325 (wrap64 ((t325.length : Int) - 1))) + 1))) else (some (rd t325 (wrap64 ((t325.length : Int) - 1))))) else (none)) else (none))) = some r := H
  have A6 := zA.mk A60; clear A60; replace H := Option.bind_eq_some_iff.mp H; obtain ⟨t325, A70, H⟩ := H; replace H : (if 0 ≤ (wrap64 ((t325.length : Int) - 1)) then (if (wrap64 ((t325.length : Int) - 1)) < (t325.length : Int) then (if a3 = 3 then (some (wrap64 ((rd t325 (wrap64 ((t325.length : Int) - 1))) + 1))) else (some (rd t325 (wrap64 ((t325.length : Int) - 1))))) else (none)) else (none)) = some r := H; have A7 := zA.mk A70; clear A70; obtain ⟨ji8, hji8⟩ : ∃ j_ : Int, (wrap64 ((t325.length : Int) - 1)) = j_ := ⟨_, rfl⟩; replace H : (if 0 ≤ (ji8) then (if (ji8) < (t325.length : Int) then (if a3 = 3 then (some (wrap64 ((rd t325 (ji8)) + 1))) else (some (rd t325 (ji8)))) else (none)) else (none)) = some r := by first | (rw [hji8] at H; exact H) | (simp only [hji8] at H ⊢; exact H)
  (try rw [hji8] at A6)
  (try rw [hji8] at A7)
  have hji8w : (IntKind.i64.wrap ((t325.length : Int) - 1)) = ji8 := (zM _).trans hji8
  by_cases c9 : 0 ≤ (ji8)
  · rw [if_pos c9] at H
    have c9b0 : decide (0 ≤ (ji8)) = true := decide_eq_true c9
    clear c9; by_cases c10 : (ji8) < (t325.length : Int)
    · rw [if_pos c10] at H
      have c10b0 : decide ((ji8) < (t325.length : Int)) = true := decide_eq_true c10
      clear c10; by_cases c11 : a3 = 3
      · rw [if_pos c11] at H
        have c11b0 : (a3 == 3) = true := beq_iff_eq.mpr c11
        have c11b1 : (a3 != 3) = false := bne_eq_false_iff_eq.mpr c11
        clear c11; obtain rfl := Option.some.inj H
        go_enter Try.func32, Try.ntmps32
        try go_wp2_with (first | ((with_reducible refine gate_dst (N := 5) rfl ?_); refine box_event ?hg (N := 5) ?hd (cs := #[.slice A0_0 l0_0.length c0_0, .slice A0_1 l0_1.length c0_1]) (t := 35) ?hr ?_; (case hd => rfl); (case hg => rfl); (case hr => first | (go_simp; done) | (go_simp; rfl)); intro gb323 hg w12 hbox hb; have n0_ := zA.mk (zO (by repeat (first | (with_reducible first | exact HB.out | apply zI | apply zF | apply zH) | exact HB.out)) hb); have n1_ := zA.mk (hbox); have n2_ := zA.mk ((by rw [hg]; exact (zK (by repeat (first | (with_reducible first | exact HB.out | apply zI | apply zF | apply zH) | exact HB.out))) : w.heap.size ≤ gb323)); have n3_ := zA.mk ((by rw [hg]; exact (zK (by repeat (first | (with_reducible first | exact HB.out | apply zI | apply zF | apply zH) | exact HB.out))) : w.heap.size ≤ gb323)); clear HB; have HB := n0_; have BK323 := n1_; have GW323 := n2_; have GE323 := n3_; clear n0_ n1_ n2_ n3_; clear hb hbox hg))
        have n0_ := zA.mk (zD BK323.out); have n1_ := zA.mk (zH HB.out); clear BK323; clear HB; have BK323 := n0_; have HB := n1_; clear n0_ n1_; refine start_ (n := 9) (S := fun w' => w'.cell? ⟨gb323, 0, none⟩ = some (.slice A0_0 l0_0.length c0_0) ∧ w'.cell? ⟨gb323, 1, none⟩ = some (.slice A0_1 l0_1.length c0_1)) (ds := []) #[false, false, false, false, false, false, false, false, false] (by kernel_rfl) rfl rfl ⟨(zG BK323.out 0).trans rfl, (zG BK323.out 1).trans rfl⟩ (fun hHeld => ?_); refine with_tabW stanzaref13_Cells.tab1 stanzaref13_Cells.bits1 (fun HT_ HW_ => ?_)
        generalize w12.drew = w13 at BK323 HB hHeld ⊢
        refine pure_ (i := 1) (N := some 14) (v := ?_) (a' := ?_) #[false, true, false, false, false, false, false, false, false] rfl rfl (any_of HT_.out (by kernel_rfl)) (fun _ _ _ h => h) (Or.inl ⟨by rfl, ?_⟩) ?_ ?_
        rotate_left
        · intro w'
          go_simp
          with_reducible rfl
        rotate_left
        · simp only [Act.put, List.setIfInBounds_toArray, List.set_cons_zero, List.set_cons_succ, zM, zN]
          rfl
        refine pure_ (i := 3) (N := some 16) (v := ?_) (a' := ?_) #[false, true, false, true, false, false, false, false, false] rfl rfl (any_of HT_.out (by kernel_rfl)) (fun _ _ _ h => h) (Or.inl ⟨by rfl, ?_⟩) ?_ ?_
        rotate_left
        · intro w'
          go_simp
          with_reducible rfl
        rotate_left
        · simp only [Act.put, List.setIfInBounds_toArray, List.set_cons_zero, List.set_cons_succ, zM, zN]
          rfl
        refine pure_ (i := 4) (N := some 17) (v := ?_) (a' := ?_) #[false, true, false, true, true, false, false, false, false] rfl rfl (any_of HT_.out (by kernel_rfl)) (fun _ _ _ h => h) (Or.inl ⟨by rfl, ?_⟩) ?_ ?_
        rotate_left
        · intro w'
          go_simp
          with_reducible rfl
        rotate_left
        · simp only [Act.put, List.setIfInBounds_toArray, List.set_cons_zero, List.set_cons_succ, zM, zN]
          rfl
        refine pure_ (i := 6) (N := some 19) (v := ?_) (a' := ?_) #[false, true, false, true, true, false, true, false, false] rfl rfl (any_of HT_.out (by kernel_rfl)) (fun _ _ _ h => h) (Or.inl ⟨by rfl, ?_⟩) ?_ ?_
        rotate_left
        · intro w'
          go_simp
          with_reducible rfl
        rotate_left
        · simp only [Act.put, List.setIfInBounds_toArray, List.set_cons_zero, List.set_cons_succ, zM, zN]
          rfl
        refine take_ (i := 0) (N := some 13) (v := ?_) (a' := ?_) #[true, true, false, true, true, false, true, false, false] rfl rfl (take_ofW HT_.out HW_.out (by kernel_rfl)) (fun _ _ _ h => h) (Or.inl ⟨by rfl, ?_⟩) hHeld ?_ ?_
        rotate_left
        · rintro w' ⟨s0, s1⟩
          go_simp
          with_reducible rfl
        rotate_left
        · simp only [Act.put, List.setIfInBounds_toArray, List.set_cons_zero, List.set_cons_succ, zM, zN]
          rfl
        refine take_ (i := 2) (N := some 15) (v := ?_) (a' := ?_) #[true, true, true, true, true, false, true, false, false] rfl rfl (take_ofW HT_.out HW_.out (by kernel_rfl)) (fun _ _ _ h => h) (Or.inl ⟨by rfl, ?_⟩) hHeld ?_ ?_
        rotate_left
        · rintro w' ⟨s0, s1⟩
          go_simp
          with_reducible rfl
        rotate_left
        · simp only [Act.put, List.setIfInBounds_toArray, List.set_cons_zero, List.set_cons_succ, zM, zN]
          rfl
        refine one_ (i := 5) (N := some 18) #[true, true, true, true, true, true, true, false, false] rfl rfl (one_of HT_.out (by kernel_rfl)) (by decide) (fun K hK => ?_)
        refine goes_ Try.func31 (by kernel_rfl) rfl #[.agg #[.slice A0_0 l0_0.length c0_0, .slice A0_1 l0_1.length c0_1], .int .i64 a1, .int .i64 a2] (by rfl) rfl rfl (by (try simp only [List.map_toArray, List.map_cons, List.map_nil]); first | done | rfl | (simp only [List.length_drop, List.length_take]; rfl)) ?_
        with_reducible refine (stanzaref13_Trim.calls k _ _ l0_0 _ _ l0_1 a1 a2 t324 _ ?side1 ?side2 ?side3 ?side4 A6.out).mono ?_
        (case side1 => repeat (first | exact (Kd.C_below HR0_0.out HB.out) | (with_reducible refine Kd.C_alloc ?_ _) | (with_reducible refine Kd.C_drewN ?_ _) | (with_reducible refine Kd.C_drew ?_)))
        (case side2 => exact HC0_0.out)
        (case side3 => repeat (first | exact (Kd.C_below HR0_1.out HB.out) | (with_reducible refine Kd.C_alloc ?_ _) | (with_reducible refine Kd.C_drewN ?_ _) | (with_reducible refine Kd.C_drew ?_)))
        (case side4 => exact HC0_1.out)
        rintro e w14 ⟨rfl, hb⟩
        refine ⟨_, rfl, ?_⟩
        have n0_ := zA.mk (zL (g := gb323) (o := .cells #[.slice A0_0 l0_0.length c0_0, .slice A0_1 l0_1.length c0_1] 35 (0, 0)) (by (with_reducible repeat (first | refine zC ?_ _ | refine zD ?_ | refine zB ?_ _)); exact BK323.out) hb)
        have n1_ := zA.mk (zO (by repeat (first | (with_reducible first | exact HB.out | apply zI | apply zF | apply zH | refine zE ?_ GE323.out) | exact HB.out)) hb)
        clear BK323 HB; have BK323 := n0_; have HB := n1_; clear n0_ n1_; (try clear hb)
        (try clear hb2)
        (try clear hk)
        (try clear hi)
        refine hK.out _ _ ⟨(zG BK323.out 0).trans rfl, (zG BK323.out 1).trans rfl⟩ (fun hHeld => ?_)
        clear hK K; refine norm_ (a' := ?_) ?_ ?_
        rotate_left
        · show Act.put _ (some 18) _ = _
          simp only [Act.put, List.setIfInBounds_toArray, List.set_cons_zero, List.set_cons_succ, zM, zN]; rfl
        refine one_ (i := 7) (N := some 20) #[true, true, true, true, true, true, true, true, false] rfl rfl (one_of HT_.out (by kernel_rfl)) (by decide) (fun K hK => ?_)
        refine goes_ Try.func24 (by kernel_rfl) rfl #[.agg #[.slice A0_0 l0_0.length c0_0, .slice A0_1 l0_1.length c0_1], .int .i64 a1, .int .i64 t324, .int .i64 a4] (by rfl) rfl rfl (by (try simp only [List.map_toArray, List.map_cons, List.map_nil]); first | done | rfl | (simp only [List.length_drop, List.length_take]; rfl)) ?_
        with_reducible refine (stanzaref13_Columns.calls k _ _ l0_0 _ _ l0_1 a1 t324 a4 t325 _ ?side1 ?side2 ?side3 ?side4 A7.out).mono ?_
        (case side1 => repeat (first | exact (Kd.C_below HR0_0.out HB.out) | (with_reducible refine Kd.C_alloc ?_ _) | (with_reducible refine Kd.C_drewN ?_ _) | (with_reducible refine Kd.C_drew ?_)))
        (case side2 => exact HC0_0.out)
        (case side3 => repeat (first | exact (Kd.C_below HR0_1.out HB.out) | (with_reducible refine Kd.C_alloc ?_ _) | (with_reducible refine Kd.C_drewN ?_ _) | (with_reducible refine Kd.C_drew ?_)))
        (case side4 => exact HC0_1.out)
        rintro e w15 ⟨v326, rfl, ho0, hb⟩
        refine ⟨_, rfl, ?_⟩
        have n0_ := zA.mk (Kd.R_lower ho0 (zK (by repeat (first | (with_reducible first | exact HB.out | apply zI | apply zF | apply zH | refine zE ?_ GE323.out) | exact HB.out))))
        have n1_ := zA.mk (zL (g := gb323) (o := .cells #[.slice A0_0 l0_0.length c0_0, .slice A0_1 l0_1.length c0_1] 35 (0, 0)) (by (with_reducible repeat (first | refine zC ?_ _ | refine zD ?_ | refine zB ?_ _)); exact BK323.out) hb)
        have n2_ := zA.mk (zO (by repeat (first | (with_reducible first | exact HB.out | apply zI | apply zF | apply zH | refine zE ?_ GE323.out) | exact HB.out)) hb)
        clear BK323 HB; have HO327 := n0_; have BK323 := n1_; have HB := n2_; clear n0_ n1_ n2_; (try clear hb)
        (try clear hb2)
        (try clear hk)
        (try clear hi)
        (try clear ho0)
        refine hK.out _ _ ⟨(zG BK323.out 0).trans rfl, (zG BK323.out 1).trans rfl⟩ (fun hHeld => ?_)
        clear hK K; refine norm_ (a' := ?_) ?_ ?_
        rotate_left
        · show Act.put _ (some 20) _ = _
          simp only [Act.put, List.setIfInBounds_toArray, List.set_cons_zero, List.set_cons_succ, zM, zN]; rfl
        refine pure_ (i := 8) (N := some 11) (v := ?_) (a' := ?_) #[true, true, true, true, true, true, true, true, true] rfl rfl (any_of HT_.out (by kernel_rfl)) (fun _ _ _ h => h) (Or.inl ⟨by rfl, ?_⟩) ?_ ?_
        rotate_left
        · intro w'
          go_simp
          with_reducible rfl
        rotate_left
        · simp only [Act.put, List.setIfInBounds_toArray, List.set_cons_zero, List.set_cons_succ, zM, zN]
          rfl
        refine done_ (done_of HT_.out (by kernel_rfl)) ?_
        obtain ⟨Ao16, co16, eo16⟩ := Kd.R_slice HO327.out; subst eo16; have p328 : 0 ≤ ((ji8) : Int) := of_decide_eq_true (by first | (with_reducible assumption) | assumption)
        have q328 : (ji8) < (t325.length : Int) := of_decide_eq_true (by first | (with_reducible assumption) | assumption)
        obtain ⟨ad328, e328, hx328_0⟩ := Kd.at_int (Kd.R_reads' HO327.out).2.2 (ji8) p328 q328; cases e328
        replace p328 := eq_true p328; replace q328 := eq_true q328; try go_wp2
        go_ret
        exact ⟨by first | rfl | (simp [errW_none, errW_some] <;> rfl) | (simp only [← hji8]; first | rfl | (simp [errW_none, errW_some] <;> rfl)) | (simp [*, errW_none, errW_some] <;> rfl), by repeat (first | (with_reducible first | exact HB.out | apply zI | apply zF | apply zH | refine zE ?_ GE323.out) | exact HB.out)⟩
      · rw [if_neg c11] at H
        have c11b0 : (a3 == 3) = false := beq_eq_false_iff_ne.mpr c11
        have c11b1 : (a3 != 3) = true := bne_iff_ne.mpr c11
        obtain rfl := Option.some.inj H
        go_enter Try.func32, Try.ntmps32
        try go_wp2_with (first | ((with_reducible refine gate_dst (N := 5) rfl ?_); refine box_event ?hg (N := 5) ?hd (cs := #[.slice A0_0 l0_0.length c0_0, .slice A0_1 l0_1.length c0_1]) (t := 35) ?hr ?_; (case hd => rfl); (case hg => rfl); (case hr => first | (go_simp; done) | (go_simp; rfl)); intro gb323 hg w17 hbox hb; have n0_ := zA.mk (zO (by repeat (first | (with_reducible first | exact HB.out | apply zI | apply zF | apply zH) | exact HB.out)) hb); have n1_ := zA.mk (hbox); have n2_ := zA.mk ((by rw [hg]; exact (zK (by repeat (first | (with_reducible first | exact HB.out | apply zI | apply zF | apply zH) | exact HB.out))) : w.heap.size ≤ gb323)); have n3_ := zA.mk ((by rw [hg]; exact (zK (by repeat (first | (with_reducible first | exact HB.out | apply zI | apply zF | apply zH) | exact HB.out))) : w.heap.size ≤ gb323)); clear HB; have HB := n0_; have BK323 := n1_; have GW323 := n2_; have GE323 := n3_; clear n0_ n1_ n2_ n3_; clear hb hbox hg))
        have n0_ := zA.mk (zD BK323.out); have n1_ := zA.mk (zH HB.out); clear BK323; clear HB; have BK323 := n0_; have HB := n1_; clear n0_ n1_; refine start_ (n := 9) (S := fun w' => w'.cell? ⟨gb323, 0, none⟩ = some (.slice A0_0 l0_0.length c0_0) ∧ w'.cell? ⟨gb323, 1, none⟩ = some (.slice A0_1 l0_1.length c0_1)) (ds := []) #[false, false, false, false, false, false, false, false, false] (by kernel_rfl) rfl rfl ⟨(zG BK323.out 0).trans rfl, (zG BK323.out 1).trans rfl⟩ (fun hHeld => ?_); refine with_tabW stanzaref13_Cells.tab1 stanzaref13_Cells.bits1 (fun HT_ HW_ => ?_)
        generalize w17.drew = w18 at BK323 HB hHeld ⊢
        refine pure_ (i := 1) (N := some 14) (v := ?_) (a' := ?_) #[false, true, false, false, false, false, false, false, false] rfl rfl (any_of HT_.out (by kernel_rfl)) (fun _ _ _ h => h) (Or.inl ⟨by rfl, ?_⟩) ?_ ?_
        rotate_left
        · intro w'
          go_simp
          with_reducible rfl
        rotate_left
        · simp only [Act.put, List.setIfInBounds_toArray, List.set_cons_zero, List.set_cons_succ, zM, zN]
          rfl
        refine pure_ (i := 3) (N := some 16) (v := ?_) (a' := ?_) #[false, true, false, true, false, false, false, false, false] rfl rfl (any_of HT_.out (by kernel_rfl)) (fun _ _ _ h => h) (Or.inl ⟨by rfl, ?_⟩) ?_ ?_
        rotate_left
        · intro w'
          go_simp
          with_reducible rfl
        rotate_left
        · simp only [Act.put, List.setIfInBounds_toArray, List.set_cons_zero, List.set_cons_succ, zM, zN]
          rfl
        refine pure_ (i := 4) (N := some 17) (v := ?_) (a' := ?_) #[false, true, false, true, true, false, false, false, false] rfl rfl (any_of HT_.out (by kernel_rfl)) (fun _ _ _ h => h) (Or.inl ⟨by rfl, ?_⟩) ?_ ?_
        rotate_left
        · intro w'
          go_simp
          with_reducible rfl
        rotate_left
        · simp only [Act.put, List.setIfInBounds_toArray, List.set_cons_zero, List.set_cons_succ, zM, zN]
          rfl
        refine pure_ (i := 6) (N := some 19) (v := ?_) (a' := ?_) #[false, true, false, true, true, false, true, false, false] rfl rfl (any_of HT_.out (by kernel_rfl)) (fun _ _ _ h => h) (Or.inl ⟨by rfl, ?_⟩) ?_ ?_
        rotate_left
        · intro w'
          go_simp
          with_reducible rfl
        rotate_left
        · simp only [Act.put, List.setIfInBounds_toArray, List.set_cons_zero, List.set_cons_succ, zM, zN]
          rfl
        refine take_ (i := 0) (N := some 13) (v := ?_) (a' := ?_) #[true, true, false, true, true, false, true, false, false] rfl rfl (take_ofW HT_.out HW_.out (by kernel_rfl)) (fun _ _ _ h => h) (Or.inl ⟨by rfl, ?_⟩) hHeld ?_ ?_
        rotate_left
        · rintro w' ⟨s0, s1⟩
          go_simp
          with_reducible rfl
        rotate_left
        · simp only [Act.put, List.setIfInBounds_toArray, List.set_cons_zero, List.set_cons_succ, zM, zN]
          rfl
        refine take_ (i := 2) (N := some 15) (v := ?_) (a' := ?_) #[true, true, true, true, true, false, true, false, false] rfl rfl (take_ofW HT_.out HW_.out (by kernel_rfl)) (fun _ _ _ h => h) (Or.inl ⟨by rfl, ?_⟩) hHeld ?_ ?_
        rotate_left
        · rintro w' ⟨s0, s1⟩
          go_simp
          with_reducible rfl
        rotate_left
        · simp only [Act.put, List.setIfInBounds_toArray, List.set_cons_zero, List.set_cons_succ, zM, zN]
          rfl
        refine one_ (i := 5) (N := some 18) #[true, true, true, true, true, true, true, false, false] rfl rfl (one_of HT_.out (by kernel_rfl)) (by decide) (fun K hK => ?_)
        refine goes_ Try.func31 (by kernel_rfl) rfl #[.agg #[.slice A0_0 l0_0.length c0_0, .slice A0_1 l0_1.length c0_1], .int .i64 a1, .int .i64 a2] (by rfl) rfl rfl (by (try simp only [List.map_toArray, List.map_cons, List.map_nil]); first | done | rfl | (simp only [List.length_drop, List.length_take]; rfl)) ?_
        with_reducible refine (stanzaref13_Trim.calls k _ _ l0_0 _ _ l0_1 a1 a2 t324 _ ?side1 ?side2 ?side3 ?side4 A6.out).mono ?_
        (case side1 => repeat (first | exact (Kd.C_below HR0_0.out HB.out) | (with_reducible refine Kd.C_alloc ?_ _) | (with_reducible refine Kd.C_drewN ?_ _) | (with_reducible refine Kd.C_drew ?_)))
        (case side2 => exact HC0_0.out)
        (case side3 => repeat (first | exact (Kd.C_below HR0_1.out HB.out) | (with_reducible refine Kd.C_alloc ?_ _) | (with_reducible refine Kd.C_drewN ?_ _) | (with_reducible refine Kd.C_drew ?_)))
        (case side4 => exact HC0_1.out)
        rintro e w19 ⟨rfl, hb⟩
        refine ⟨_, rfl, ?_⟩
        have n0_ := zA.mk (zL (g := gb323) (o := .cells #[.slice A0_0 l0_0.length c0_0, .slice A0_1 l0_1.length c0_1] 35 (0, 0)) (by (with_reducible repeat (first | refine zC ?_ _ | refine zD ?_ | refine zB ?_ _)); exact BK323.out) hb)
        have n1_ := zA.mk (zO (by repeat (first | (with_reducible first | exact HB.out | apply zI | apply zF | apply zH | refine zE ?_ GE323.out) | exact HB.out)) hb)
        clear BK323 HB; have BK323 := n0_; have HB := n1_; clear n0_ n1_; (try clear hb)
        (try clear hb2)
        (try clear hk)
        (try clear hi)
        refine hK.out _ _ ⟨(zG BK323.out 0).trans rfl, (zG BK323.out 1).trans rfl⟩ (fun hHeld => ?_)
        clear hK K; refine norm_ (a' := ?_) ?_ ?_
        rotate_left
        · show Act.put _ (some 18) _ = _
          simp only [Act.put, List.setIfInBounds_toArray, List.set_cons_zero, List.set_cons_succ, zM, zN]; rfl
        refine one_ (i := 7) (N := some 20) #[true, true, true, true, true, true, true, true, false] rfl rfl (one_of HT_.out (by kernel_rfl)) (by decide) (fun K hK => ?_)
        refine goes_ Try.func24 (by kernel_rfl) rfl #[.agg #[.slice A0_0 l0_0.length c0_0, .slice A0_1 l0_1.length c0_1], .int .i64 a1, .int .i64 t324, .int .i64 a4] (by rfl) rfl rfl (by (try simp only [List.map_toArray, List.map_cons, List.map_nil]); first | done | rfl | (simp only [List.length_drop, List.length_take]; rfl)) ?_
        with_reducible refine (stanzaref13_Columns.calls k _ _ l0_0 _ _ l0_1 a1 t324 a4 t325 _ ?side1 ?side2 ?side3 ?side4 A7.out).mono ?_
        (case side1 => repeat (first | exact (Kd.C_below HR0_0.out HB.out) | (with_reducible refine Kd.C_alloc ?_ _) | (with_reducible refine Kd.C_drewN ?_ _) | (with_reducible refine Kd.C_drew ?_)))
        (case side2 => exact HC0_0.out)
        (case side3 => repeat (first | exact (Kd.C_below HR0_1.out HB.out) | (with_reducible refine Kd.C_alloc ?_ _) | (with_reducible refine Kd.C_drewN ?_ _) | (with_reducible refine Kd.C_drew ?_)))
        (case side4 => exact HC0_1.out)
        rintro e w20 ⟨v326, rfl, ho0, hb⟩
        refine ⟨_, rfl, ?_⟩
        have n0_ := zA.mk (Kd.R_lower ho0 (zK (by repeat (first | (with_reducible first | exact HB.out | apply zI | apply zF | apply zH | refine zE ?_ GE323.out) | exact HB.out))))
        have n1_ := zA.mk (zL (g := gb323) (o := .cells #[.slice A0_0 l0_0.length c0_0, .slice A0_1 l0_1.length c0_1] 35 (0, 0)) (by (with_reducible repeat (first | refine zC ?_ _ | refine zD ?_ | refine zB ?_ _)); exact BK323.out) hb)
        have n2_ := zA.mk (zO (by repeat (first | (with_reducible first | exact HB.out | apply zI | apply zF | apply zH | refine zE ?_ GE323.out) | exact HB.out)) hb)
        clear BK323 HB; have HO327 := n0_; have BK323 := n1_; have HB := n2_; clear n0_ n1_ n2_; (try clear hb)
        (try clear hb2)
        (try clear hk)
        (try clear hi)
        (try clear ho0)
        refine hK.out _ _ ⟨(zG BK323.out 0).trans rfl, (zG BK323.out 1).trans rfl⟩ (fun hHeld => ?_)
        clear hK K; refine norm_ (a' := ?_) ?_ ?_
        rotate_left
        · show Act.put _ (some 20) _ = _
          simp only [Act.put, List.setIfInBounds_toArray, List.set_cons_zero, List.set_cons_succ, zM, zN]; rfl
        refine pure_ (i := 8) (N := some 11) (v := ?_) (a' := ?_) #[true, true, true, true, true, true, true, true, true] rfl rfl (any_of HT_.out (by kernel_rfl)) (fun _ _ _ h => h) (Or.inl ⟨by rfl, ?_⟩) ?_ ?_
        rotate_left
        · intro w'
          go_simp
          with_reducible rfl
        rotate_left
        · simp only [Act.put, List.setIfInBounds_toArray, List.set_cons_zero, List.set_cons_succ, zM, zN]
          rfl
        refine done_ (done_of HT_.out (by kernel_rfl)) ?_
        obtain ⟨Ao21, co21, eo21⟩ := Kd.R_slice HO327.out; subst eo21; have p328 : 0 ≤ ((ji8) : Int) := of_decide_eq_true (by first | (with_reducible assumption) | assumption)
        have q328 : (ji8) < (t325.length : Int) := of_decide_eq_true (by first | (with_reducible assumption) | assumption)
        obtain ⟨ad328, e328, hx328_0⟩ := Kd.at_int (Kd.R_reads' HO327.out).2.2 (ji8) p328 q328; cases e328
        replace p328 := eq_true p328; replace q328 := eq_true q328; try go_wp2
        go_ret
        exact ⟨by first | rfl | (simp [errW_none, errW_some] <;> rfl) | (simp only [← hji8]; first | rfl | (simp [errW_none, errW_some] <;> rfl)) | (simp [*, errW_none, errW_some] <;> rfl), by repeat (first | (with_reducible first | exact HB.out | apply zI | apply zF | apply zH | refine zE ?_ GE323.out) | exact HB.out)⟩
    · rw [if_neg c10] at H
      exact absurd H (by simp)
  · rw [if_neg c9] at H
    exact absurd H (by simp)
end Go.Proofs.Ytbnoeeflpegcoaa.F
end
section
namespace Go.Proofs.Ytbnoeeflpegcoaa.F
open Go.RowKit Go.Proofs.YtbnoeeflpegcoaaW.PrintWords Go.Proofs.YtbnoeeflpegcoaaW.PrintLast Go.Proofs.YtbnoeeflpegcoaaW.PrintMore
attribute [local go_sem] max2_int min2_int max_two min_two max_three min_three max_four min_four   -- for this text's walks alone
set_option linter.unusedVariables false
set_option linter.unusedSimpArgs false
def span_Next.f (a0_0 : Int) (a0_1 : Int) (a0_2 : Int) (a0_3 : Int) (a1 : Int) (a2 : Int) : Option (Int) := if a0_3 = 2 then (if a2 = 0 then (none) else (some (wrap64 ((wrap64 (a1 + a2)) - (Int.tmod a1 a2))))) else (some (wrap64 (a1 + a0_2)))
set_option maxHeartbeats 8000000 in
set_option maxRecDepth 100000 in
theorem span_Next.calls (a0_0 : Int) (a0_1 : Int) (a0_2 : Int) (a0_3 : Int) (a1 : Int) (a2 : Int) (r : Int) (w : World) (h : span_Next.f a0_0 a0_1 a0_2 a0_3 a1 a2 = some r) :
    Calls Try.prog 21 #[.agg #[.int .i64 a0_0, .int .i64 a0_1, .int .i64 a0_2, .int .u8 a0_3], .int .i64 a1, .int .i64 a2] w fun e w' => e = .returned (.int .i64 r) ∧ Below w.heap.size w w' := by
  have hu41 := Try.underlying41; have HB := zA.mk (Below.refl w.heap.size w); have H : (if a0_3 = 2 then (if a2 = 0 then (none) else (some (wrap64 ((wrap64 (a1 + a2)) - (Int.tmod a1 a2))))) else (some (wrap64 (a1 + a0_2)))) = some r := h
  clear h; by_cases c4 : a0_3 = 2
  · rw [if_pos c4] at H
    have c4b0 : (a0_3 == 2) = true := beq_iff_eq.mpr c4
    have c4b1 : (a0_3 != 2) = false := bne_eq_false_iff_eq.mpr c4
    clear c4; by_cases c5 : a2 = 0
    · rw [if_pos c5] at H
      exact absurd H (by simp)
    · rw [if_neg c5] at H
      have c5b0 : (a2 == 0) = false := beq_eq_false_iff_ne.mpr c5
      have c5b1 : (a2 != 0) = true := bne_iff_ne.mpr c5
      obtain rfl := Option.some.inj H
      go_enter Try.func21, Try.ntmps21
      go_wp2_with (first | ((with_reducible refine gate_dst (N := 3) rfl ?_); refine box_event ?hg (N := 3) ?hd (cs := #[.int .i64 a0_0, .int .i64 a0_1, .int .i64 a0_2, .int .u8 a0_3]) (t := 41) ?hr ?_; (case hd => rfl); (case hg => rfl); (case hr => first | (go_simp; done) | (go_simp; rfl)); intro gb171 hg w6 hbox hb; have n0_ := zA.mk (zO (by repeat (first | (with_reducible first | exact HB.out | apply zI | apply zF | apply zH) | exact HB.out)) hb); have n1_ := zA.mk (hbox); have n2_ := zA.mk ((by rw [hg]; exact (zK (by repeat (first | (with_reducible first | exact HB.out | apply zI | apply zF | apply zH) | exact HB.out))) : w.heap.size ≤ gb171)); have n3_ := zA.mk ((by rw [hg]; exact (zK (by repeat (first | (with_reducible first | exact HB.out | apply zI | apply zF | apply zH) | exact HB.out))) : w.heap.size ≤ gb171)); clear HB; have HB := n0_; have BK171 := n1_; have GW171 := n2_; have GE171 := n3_; clear n0_ n1_ n2_ n3_; clear hb hbox hg; have hcz7_0 : w6.cell? ⟨gb171, 0, none⟩ = some (.int .i64 a0_0) := (zG BK171.out 0).trans rfl; have hcz7_1 : w6.cell? ⟨gb171, 1, none⟩ = some (.int .i64 a0_1) := (zG BK171.out 1).trans rfl; have hcz7_2 : w6.cell? ⟨gb171, 2, none⟩ = some (.int .i64 a0_2) := (zG BK171.out 2).trans rfl; have hcz7_3 : w6.cell? ⟨gb171, 3, none⟩ = some (.int .u8 a0_3) := (zG BK171.out 3).trans rfl; have hfz7_0 := zJ BK171.out 0; have hfz7_1 := zJ BK171.out 1; have hfz7_2 := zJ BK171.out 2; have hfz7_3 := zJ BK171.out 3))
      go_ret
      exact ⟨by first | rfl | (simp [errW_none, errW_some] <;> rfl) | (simp [*, errW_none, errW_some] <;> rfl), by repeat (first | (with_reducible first | exact HB.out | apply zI | apply zF | apply zH | refine zE ?_ GE171.out) | exact HB.out)⟩
  · rw [if_neg c4] at H
    have c4b0 : (a0_3 == 2) = false := beq_eq_false_iff_ne.mpr c4
    have c4b1 : (a0_3 != 2) = true := bne_iff_ne.mpr c4
    obtain rfl := Option.some.inj H
    go_enter Try.func21, Try.ntmps21
    go_wp2_with (first | ((with_reducible refine gate_dst (N := 3) rfl ?_); refine box_event ?hg (N := 3) ?hd (cs := #[.int .i64 a0_0, .int .i64 a0_1, .int .i64 a0_2, .int .u8 a0_3]) (t := 41) ?hr ?_; (case hd => rfl); (case hg => rfl); (case hr => first | (go_simp; done) | (go_simp; rfl)); intro gb171 hg w8 hbox hb; have n0_ := zA.mk (zO (by repeat (first | (with_reducible first | exact HB.out | apply zI | apply zF | apply zH) | exact HB.out)) hb); have n1_ := zA.mk (hbox); have n2_ := zA.mk ((by rw [hg]; exact (zK (by repeat (first | (with_reducible first | exact HB.out | apply zI | apply zF | apply zH) | exact HB.out))) : w.heap.size ≤ gb171)); have n3_ := zA.mk ((by rw [hg]; exact (zK (by repeat (first | (with_reducible first | exact HB.out | apply zI | apply zF | apply zH) | exact HB.out))) : w.heap.size ≤ gb171)); clear HB; have HB := n0_; have BK171 := n1_; have GW171 := n2_; have GE171 := n3_; clear n0_ n1_ n2_ n3_; clear hb hbox hg; have hcz9_0 : w8.cell? ⟨gb171, 0, none⟩ = some (.int .i64 a0_0) := (zG BK171.out 0).trans rfl; have hcz9_1 : w8.cell? ⟨gb171, 1, none⟩ = some (.int .i64 a0_1) := (zG BK171.out 1).trans rfl; have hcz9_2 : w8.cell? ⟨gb171, 2, none⟩ = some (.int .i64 a0_2) := (zG BK171.out 2).trans rfl; have hcz9_3 : w8.cell? ⟨gb171, 3, none⟩ = some (.int .u8 a0_3) := (zG BK171.out 3).trans rfl; have hfz9_0 := zJ BK171.out 0; have hfz9_1 := zJ BK171.out 1; have hfz9_2 := zJ BK171.out 2; have hfz9_3 := zJ BK171.out 3))
    go_ret
    exact ⟨by first | rfl | (simp [errW_none, errW_some] <;> rfl) | (simp [*, errW_none, errW_some] <;> rfl), by repeat (first | (with_reducible first | exact HB.out | apply zI | apply zF | apply zH | refine zE ?_ GE171.out) | exact HB.out)⟩
end Go.Proofs.Ytbnoeeflpegcoaa.F
end
section
namespace Go.Proofs.Ytbnoeeflpegcoaa.F
open Go.RowKit Go.Proofs.YtbnoeeflpegcoaaW.PrintWords Go.Proofs.YtbnoeeflpegcoaaW.PrintLast Go.Proofs.YtbnoeeflpegcoaaW.PrintMore
attribute [local go_sem] max2_int min2_int max_two min_two max_three min_three max_four min_four   -- for this text's walks alone
set_option linter.unusedVariables false
set_option linter.unusedSimpArgs false
def span_Columns.l0 : Nat → Int → Int → List Int → Int → List (S41) → List Int → Option (List Int)
  | 0, _, _, _, _, _, _ => none
  | k + 1, x2, x3, x9, x10, x173000, x173001 => if x10 < x2 then (if 0 ≤ x10 then (if x10 < (x173000.length : Int) then (if 0 ≤ (wrap64 ((x9.length : Int) - 1)) then (if (wrap64 ((x9.length : Int) - 1)) < (x9.length : Int) then ((span_Next.f ((rd_T41 x173000 x10).f0) ((rd_T41 x173000 x10).f1) ((rd_T41 x173000 x10).f2) ((rd_T41 x173000 x10).f3) (rd x9 (wrap64 ((x9.length : Int) - 1))) x3).bind fun t178 => (if x9.length < 17592186044416 then (span_Columns.l0 k x2 x3 (x9 ++ [t178]) (wrap64 (x10 + 1)) x173000 x173001) else (none))) else (none)) else (none)) else (none)) else (none)) else (some x9)
def span_Columns.f (k : Nat) (l0_0 : List (S41)) (l0_1 : List Int) (a1 : Int) (a2 : Int) (a3 : Int) : Option (List Int) := span_Columns.l0 k a2 a3 (([0] : List Int)) a1 l0_0 l0_1
theorem span_Columns.mono_l : ∀ k, (∀ y0 y1 y2 y3 y4 y5, LeO (span_Columns.l0 k y0 y1 y2 y3 y4 y5) (span_Columns.l0 (k + 1) y0 y1 y2 y3 y4 y5))
  | 0 => fun _ _ _ _ _ _ r h => by simp [span_Columns.l0] at h
  | k + 1 => by
    have ih0 := span_Columns.mono_l k
    · intro y0 y1 y2 y3 y4 y5
      unfold span_Columns.l0
      repeat' first
      | (with_reducible exact ih0 _ _ _ _ _ _)
      | (with_reducible exact LeO.refl _)
      | (with_reducible exact LeO.none _)
      | (with_reducible refine LeO.ite ?_ ?_)
      | (with_reducible refine LeO.bind ?_ (fun _ => ?_))
      | exact ih0 _ _ _ _ _ _
      | exact LeO.none _
      | refine LeO.ite ?_ ?_
      | refine LeO.bind ?_ (fun _ => ?_)
theorem span_Columns.mono : ∀ a0 a1 a2 a3 a4 k, LeO (span_Columns.f k a0 a1 a2 a3 a4) (span_Columns.f (k + 1) a0 a1 a2 a3 a4) := by
  intro a0 a1 a2 a3 a4 k
  have ih0 := span_Columns.mono_l k; unfold span_Columns.f
  repeat' first
      | (with_reducible exact ih0 _ _ _ _ _ _)
      | (with_reducible exact LeO.refl _)
      | (with_reducible exact LeO.none _)
      | (with_reducible refine LeO.ite ?_ ?_)
      | (with_reducible refine LeO.bind ?_ (fun _ => ?_))
      | exact ih0 _ _ _ _ _ _
      | exact LeO.none _
      | refine LeO.ite ?_ ?_
      | refine LeO.bind ?_ (fun _ => ?_)
def span_Columns.T5 : Bool × List (List Nat × List Nat) := (true, [([], []), ([], []), ([1], [1]), ([], []), ([2, 3], [2, 3]), ([4], [4]), ([], []), ([], []), ([7], [7]), ([8], [8]), ([6, 9], [6, 9]), ([10], [10]), ([], []), ([5, 11, 12], [5, 11, 12]), ([13], [13]), ([0, 14, 13], [0, 14]), ([15, 15, 0, 1, 2, 3, 4, 5, 6, 7, 8, 9, 10, 11, 12, 13, 14, 15], [0, 6, 7, 15])])
def span_Columns.B5 : List Nat := [0, 0, 2, 0, 14, 30, 0, 0, 128, 384, 960, 1984, 0, 8190, 16382, 32767, 65535]
theorem span_Columns.tab5 : rtab .any (opsOf Try.f23 5) = span_Columns.T5 := by kernel_rfl
theorem span_Columns.bits5 : waitsOk span_Columns.T5.2 span_Columns.B5 = true := by kernel_rfl
set_option maxHeartbeats 8000000 in
set_option maxRecDepth 100000 in
theorem span_Columns.calls (k : Nat) (A0_0 : Option Addr) (c0_0 : Nat) (l0_0 : List (S41)) (A0_1 : Option Addr) (c0_1 : Nat) (l0_1 : List Int) (a1 : Int) (a2 : Int) (a3 : Int) (r : List Int) (w : World) (hr0_0 : Kd.C k41 w A0_0 l0_0.length l0_0) (hc0_0 : l0_0.length ≤ c0_0) (hr0_1 : Kd.C (Kd.int .u8) w A0_1 l0_1.length l0_1) (hc0_1 : l0_1.length ≤ c0_1) (h : span_Columns.f k l0_0 l0_1 a1 a2 a3 = some r) :
    Calls Try.prog 23 #[.agg #[.slice A0_0 l0_0.length c0_0, .slice A0_1 l0_1.length c0_1], .int .i64 a1, .int .i64 a2, .int .i64 a3] w fun e w' => ∃ v0_ : Value, e = .returned (v0_) ∧ Kd.R (Kd.int .i64) 3 w' w.heap.size (fun _ => True) v0_ r ∧ Below w.heap.size w w' := by
  have hu35 := Try.underlying35; have hu41 := Try.underlying41; have HR0_0 := zA.mk hr0_0; have HC0_0 := zA.mk hc0_0; clear hr0_0 hc0_0; have HR0_1 := zA.mk hr0_1; have HC0_1 := zA.mk hc0_1; clear hr0_1 hc0_1; have HB := zA.mk (Below.refl w.heap.size w); have H : (span_Columns.l0 k a2 a3 (([0] : List Int)) a1 l0_0 l0_1) = some r := h
  clear h; obtain ⟨y173, hy173⟩ : ∃ y_ : List Int, y_ = (([0] : List Int)) := ⟨_, rfl⟩; replace H : (span_Columns.l0 k a2 a3 y173 a1 l0_0 l0_1) = some r := by first | (rw [hy173]; with_reducible exact H) | (have H2_ := (Option.bind_some _ _).symm.trans H; rw [hy173]; with_reducible exact H2_) | (have H2_ := (Option.bind_some _ _).symm.trans H; with_reducible exact H2_) | with_reducible exact H | (rw [hy173]; exact H) | exact H
  have Ny173 := zA.mk hy173; clear hy173; have H' := zA.mk H
  clear H; go_enter Try.func23, Try.ntmps23
  go_wp2_with (first | ((with_reducible refine gate_dst (N := 4) rfl ?_); refine box_event ?hg (N := 4) ?hd (cs := #[.slice A0_0 l0_0.length c0_0, .slice A0_1 l0_1.length c0_1]) (t := 35) ?hr ?_; (case hd => rfl); (case hg => rfl); (case hr => first | (go_simp; done) | (go_simp; rfl)); intro gb172 hg w5 hbox hb; have n0_ := zA.mk (zO (by repeat (first | (with_reducible first | exact HB.out | apply zI | apply zF | apply zH) | exact HB.out)) hb); have n1_ := zA.mk (hbox); have n2_ := zA.mk ((by rw [hg]; exact (zK (by repeat (first | (with_reducible first | exact HB.out | apply zI | apply zF | apply zH) | exact HB.out))) : w.heap.size ≤ gb172)); have n3_ := zA.mk ((by rw [hg]; exact (zK (by repeat (first | (with_reducible first | exact HB.out | apply zI | apply zF | apply zH) | exact HB.out))) : w.heap.size ≤ gb172)); clear HB; have HB := n0_; have BK172 := n1_; have GW172 := n2_; have GE172 := n3_; clear n0_ n1_ n2_ n3_; clear hb hbox hg) | ((with_reducible refine gate_dst (N := 11) rfl ?_); refine Kd.R_lit (Kd.int .i64) _ 3 ?hg (N := 11) ?hd (xs := ([0] : List Int)) (inner := [.int .i64 0]) (ok := fun _ => True) (okp := fun _ => True) ?hr ?hp (fun _ hk => hk) trivial (Below.refl _ _) (Nat.le_refl _) (by simp) ?_; (case hd => rfl); (case hg => rfl); (case hr => first | (go_simp; done) | (go_simp; rfl)); (case hp => exact (Reps.one (show Kd.M (Kd.int .i64) _ _ _ 0 [.int .i64 0] from rfl) (Reps.none _ _))); intro v174 w6 ho7 hb hg_ hnew_; clear hg_ hnew_; (first | rw [← Ny173.out] at ho7 | (simp only [Int.reduceToNat] at ho7; rw [← Ny173.out] at ho7)); have n0_ := zA.mk (Kd.R_lower ho7 (zK (by repeat (first | (with_reducible first | exact HB.out | apply zI | apply zF | apply zH | refine zE ?_ GE172.out) | exact HB.out)))); have n1_ := zA.mk (zL (g := gb172) (o := .cells #[.slice A0_0 l0_0.length c0_0, .slice A0_1 l0_1.length c0_1] 35 (0, 0)) (by (with_reducible repeat (first | refine zC ?_ _ | refine zD ?_ | refine zB ?_ _)); exact BK172.out) hb); have n2_ := zA.mk (zO (by repeat (first | (with_reducible first | exact HB.out | apply zI | apply zF | apply zH | refine zE ?_ GE172.out) | exact HB.out)) hb); clear BK172; clear HB; have HO175 := n0_; have BK172 := n1_; have HB := n2_; clear n0_ n1_ n2_; clear hb ho7))
  go_loopg [9, 10] k (fun kq v9 v10 w' => ∃ (x9_1 : List Int) (x10_1 : Int), v10 = .int .i64 x10_1 ∧ zA (span_Columns.l0 kq a2 a3 x9_1 x10_1 l0_0 l0_1 = some r) ∧ zA (kq ≤ k) ∧ zA (Kd.R (Kd.int .i64) 3 w' w.heap.size (fun _ => True) v9 x9_1) ∧ zA (w'.heap[gb172]? = some (.cells #[(.slice A0_0 l0_0.length c0_0), (.slice A0_1 l0_1.length c0_1)] 35 (0, 0))) ∧ zA (Below w.heap.size w w'))
  case atStart => exact ⟨(y173), (a1), (by first | rfl | (simp; done) | (simp [*]; done)), H', ⟨Nat.le_refl _⟩, ⟨by (with_reducible repeat (first | apply Kd.R_alloc | apply Kd.R_drewN | apply Kd.R_drew)); exact HO175.out⟩, ⟨by (with_reducible repeat (first | refine zC ?_ _ | refine zD ?_ | refine zB ?_ _)); exact BK172.out⟩, ⟨by repeat (first | (with_reducible first | exact HB.out | apply zI | apply zF | apply zH | refine zE ?_ GE172.out) | exact HB.out)⟩⟩
  case round =>
    clear H'; try clear c2
    try clear p2
    obtain ⟨x9_1, x10_1, rfl, HA, HK1, HO_9, BK172, HB⟩ := hrel; cases gk with
    | zero => exact absurd HA.out (by simp [span_Columns.l0])
    | succ k1 =>
      have H := HA.out; clear HA; simp only [span_Columns.l0] at H; by_cases c8 : x10_1 < a2
      · rw [if_pos c8] at H
        have c8b0 : decide (x10_1 < a2) = true := decide_eq_true c8
        clear c8; by_cases c9 : 0 ≤ x10_1
        · rw [if_pos c9] at H
          have c9b0 : decide (0 ≤ x10_1) = true := decide_eq_true c9
          clear c9; by_cases c10 : x10_1 < (l0_0.length : Int)
          · rw [if_pos c10] at H
            have c10b0 : decide (x10_1 < (l0_0.length : Int)) = true := decide_eq_true c10
            clear c10; obtain ⟨ji11, hji11⟩ : ∃ j_ : Int, (wrap64 ((x9_1.length : Int) - 1)) = j_ := ⟨_, rfl⟩; replace H : (if 0 ≤ (ji11) then (if (ji11) < (x9_1.length : Int) then ((span_Next.f ((rd_T41 l0_0 x10_1).f0) ((rd_T41 l0_0 x10_1).f1) ((rd_T41 l0_0 x10_1).f2) ((rd_T41 l0_0 x10_1).f3) (rd x9_1 (ji11)) a3).bind fun t178 => (if x9_1.length < 17592186044416 then (span_Columns.l0 k1 a2 a3 (x9_1 ++ [t178]) (wrap64 (x10_1 + 1)) l0_0 l0_1) else (none))) else (none)) else (none)) = some r := by first | (rw [hji11] at H; exact H) | (simp only [hji11] at H ⊢; exact H)
            have hji11w : (IntKind.i64.wrap ((x9_1.length : Int) - 1)) = ji11 := (zM _).trans hji11
            by_cases c12 : 0 ≤ (ji11)
            · rw [if_pos c12] at H
              have c12b0 : decide (0 ≤ (ji11)) = true := decide_eq_true c12
              clear c12; by_cases c13 : (ji11) < (x9_1.length : Int)
              · rw [if_pos c13] at H
                have c13b0 : decide ((ji11) < (x9_1.length : Int)) = true := decide_eq_true c13
                clear c13; replace H := Option.bind_eq_some_iff.mp H; obtain ⟨t178, A140, H⟩ := H; replace H : (if x9_1.length < 17592186044416 then (span_Columns.l0 k1 a2 a3 (x9_1 ++ [t178]) (wrap64 (x10_1 + 1)) l0_0 l0_1) else (none)) = some r := H; have A14 := zA.mk A140; clear A140; by_cases c15 : x9_1.length < 17592186044416
                · rw [if_pos c15] at H
                  have LMc15 := zA.mk c15; clear c15; obtain ⟨y179, hy179⟩ : ∃ y_ : List Int, y_ = (x9_1 ++ [t178]) := ⟨_, rfl⟩; replace H : (span_Columns.l0 k1 a2 a3 y179 (wrap64 (x10_1 + 1)) l0_0 l0_1) = some r := by first | (rw [hy179]; with_reducible exact H) | (have H2_ := (Option.bind_some _ _).symm.trans H; rw [hy179]; with_reducible exact H2_) | (have H2_ := (Option.bind_some _ _).symm.trans H; with_reducible exact H2_) | with_reducible exact H | (rw [hy179]; exact H) | exact H
                  have Ny179 := zA.mk hy179; clear hy179; have H' := zA.mk H
                  clear H; try go_wp2
                  have n0_ := zA.mk (Kd.R_drew HO_9.out); have n1_ := zA.mk (zD BK172.out); have n2_ := zA.mk (zH HB.out); clear HO_9; clear BK172; clear HB; have HO_9 := n0_; have BK172 := n1_; have HB := n2_; clear n0_ n1_ n2_; have p176 : 0 ≤ (x10_1 : Int) := of_decide_eq_true (by first | (with_reducible assumption) | assumption)
                  have q176 : x10_1 < (l0_0.length : Int) := of_decide_eq_true (by first | (with_reducible assumption) | assumption)
                  obtain ⟨ad176, e176, hx176_0, hx176_1, hx176_2, hx176_3⟩ := at_T41 HR0_0.out x10_1 p176 q176; have hw176_3 := hx176_3; have hw176_2 := hx176_2; have hw176_1 := hx176_1; have hw176_0 := hx176_0; cases e176
                  replace hx176_0 := (HB.out.cell (World.block_lt_of_cell? w _ hx176_0)).trans hx176_0; replace hx176_1 := (HB.out.cell (World.block_lt_of_cell? w _ hx176_1)).trans hx176_1; replace hx176_2 := (HB.out.cell (World.block_lt_of_cell? w _ hx176_2)).trans hx176_2; replace hx176_3 := (HB.out.cell (World.block_lt_of_cell? w _ hx176_3)).trans hx176_3; replace p176 := eq_true p176; replace q176 := eq_true q176; obtain ⟨Ao17, co17, eo17⟩ := Kd.R_slice HO_9.out; (first | subst eo17 | (injection eo17 with f1_ f2_ f3_; have f4_ := f1_.symm; have f5_ := f3_.symm; clear f1_ f2_ f3_; subst f4_; subst f5_))
                  have p177 : 0 ≤ ((ji11) : Int) := of_decide_eq_true (by first | (with_reducible assumption) | assumption)
                  have q177 : (ji11) < (x9_1.length : Int) := of_decide_eq_true (by first | (with_reducible assumption) | assumption)
                  obtain ⟨ad177, e177, hx177_0⟩ := Kd.at_int (Kd.R_reads' HO_9.out).2.2 (ji11) p177 q177; cases e177
                  replace p177 := eq_true p177; replace q177 := eq_true q177; refine start_ (n := 17) (S := fun w' => w'.cell? ⟨gb172, 0, none⟩ = some (.slice (some ad176) l0_0.length c0_0) ∧ w'.cell? ⟨gb172, 1, none⟩ = some (.slice A0_1 l0_1.length c0_1) ∧ w'.cell? (ad176.add ((x10_1).toNat * 4)) = some (.int .i64 ((rd_T41 l0_0 x10_1).f0)) ∧ w'.cell? ⟨(ad176.add ((x10_1).toNat * 4)).block, (ad176.add ((x10_1).toNat * 4)).off + 1, none⟩ = some (.int .i64 ((rd_T41 l0_0 x10_1).f1)) ∧ w'.cell? ⟨(ad176.add ((x10_1).toNat * 4)).block, (ad176.add ((x10_1).toNat * 4)).off + 2, none⟩ = some (.int .i64 ((rd_T41 l0_0 x10_1).f2)) ∧ w'.cell? ⟨(ad176.add ((x10_1).toNat * 4)).block, (ad176.add ((x10_1).toNat * 4)).off + 3, none⟩ = some (.int .u8 ((rd_T41 l0_0 x10_1).f3)) ∧ w'.cell? (ad177.add ((ji11)).toNat) = some (.int .i64 (rd x9_1 (ji11)))) (ds := [14, 15]) #[false, false, false, false, false, false, false, false, false, false, false, false, false, false, false, false, false] (by kernel_rfl) rfl rfl ⟨(zG BK172.out 0).trans rfl, (zG BK172.out 1).trans rfl, ((HB.out.cell (World.block_lt_of_cell? w _ hw176_0)).trans hw176_0), ((HB.out.cell (World.block_lt_of_cell? w _ hw176_1)).trans hw176_1), ((HB.out.cell (World.block_lt_of_cell? w _ hw176_2)).trans hw176_2), ((HB.out.cell (World.block_lt_of_cell? w _ hw176_3)).trans hw176_3), hx177_0⟩ (fun hHeld => ?_); refine with_tabW span_Columns.tab5 span_Columns.bits5 (fun HT_ HW_ => ?_)
                  generalize wr.drew = w16 at HO_9 BK172 HB hx176_0 hx176_1 hx176_2 hx176_3 hx177_0 hHeld ⊢
                  refine pure_ (i := 0) (N := some 18) (v := ?_) (a' := ?_) #[true, false, false, false, false, false, false, false, false, false, false, false, false, false, false, false, false] rfl rfl (any_of HT_.out (by kernel_rfl)) (fun _ _ _ h => h) (Or.inl ⟨by rfl, ?_⟩) ?_ ?_
                  rotate_left
                  · intro w'
                    go_simp
                    with_reducible rfl
                  rotate_left
                  · simp only [Act.put, List.setIfInBounds_toArray, List.set_cons_zero, List.set_cons_succ, zM, zN]
                    rfl
                  refine pure_ (i := 1) (N := some 19) (v := ?_) (a' := ?_) #[true, true, false, false, false, false, false, false, false, false, false, false, false, false, false, false, false] rfl rfl (any_of HT_.out (by kernel_rfl)) (fun _ _ _ h => h) (Or.inl ⟨by rfl, ?_⟩) ?_ ?_
                  rotate_left
                  · intro w'
                    go_simp
                    with_reducible rfl
                  rotate_left
                  · simp only [Act.put, List.setIfInBounds_toArray, List.set_cons_zero, List.set_cons_succ, zM, zN]
                    rfl
                  refine pure_ (i := 3) (N := some 21) (v := ?_) (a' := ?_) #[true, true, false, true, false, false, false, false, false, false, false, false, false, false, false, false, false] rfl rfl (any_of HT_.out (by kernel_rfl)) (fun _ _ _ h => h) (Or.inl ⟨by rfl, ?_⟩) ?_ ?_
                  rotate_left
                  · intro w'
                    go_simp
                    with_reducible rfl
                  rotate_left
                  · simp only [Act.put, List.setIfInBounds_toArray, List.set_cons_zero, List.set_cons_succ, zM, zN]
                    rfl
                  refine pure_ (i := 6) (N := some 24) (v := ?_) (a' := ?_) #[true, true, false, true, false, false, true, false, false, false, false, false, false, false, false, false, false] rfl rfl (any_of HT_.out (by kernel_rfl)) (fun _ _ _ h => h) (Or.inl ⟨by rfl, ?_⟩) ?_ ?_
                  rotate_left
                  · intro w'
                    go_simp
                    with_reducible rfl
                  rotate_left
                  · simp only [Act.put, List.setIfInBounds_toArray, List.set_cons_zero, List.set_cons_succ, zM, zN]
                    rfl
                  refine pure_ (i := 7) (N := some 25) (v := ?_) (a' := ?_) #[true, true, false, true, false, false, true, true, false, false, false, false, false, false, false, false, false] rfl rfl (any_of HT_.out (by kernel_rfl)) (fun _ _ _ h => h) (Or.inl ⟨by rfl, ?_⟩) ?_ ?_
                  rotate_left
                  · intro w'
                    go_simp
                    with_reducible rfl
                  rotate_left
                  · simp only [Act.put, List.setIfInBounds_toArray, List.set_cons_zero, List.set_cons_succ, zM, zN]
                    rfl
                  refine pure_ (i := 8) (N := some 26) (v := ?_) (a' := ?_) #[true, true, false, true, false, false, true, true, true, false, false, false, false, false, false, false, false] rfl rfl (any_of HT_.out (by kernel_rfl)) (fun _ _ _ h => h) (Or.inl ⟨by rfl, ?_⟩) ?_ ?_
                  rotate_left
                  · intro w'
                    go_simp
                    with_reducible rfl
                  rotate_left
                  · simp only [Act.put, List.setIfInBounds_toArray, List.set_cons_zero, List.set_cons_succ, zM, zN]
                    rfl
                  refine pure_ (i := 9) (N := some 27) (v := ?_) (a' := ?_) #[true, true, false, true, false, false, true, true, true, true, false, false, false, false, false, false, false] rfl rfl (any_of HT_.out (by kernel_rfl)) (fun _ _ _ h => h) (Or.inl ⟨by rfl, ?_⟩) ?_ ?_
                  rotate_left
                  · intro w'
                    go_simp
                    with_reducible rfl
                  rotate_left
                  · simp only [Act.put, List.setIfInBounds_toArray, List.set_cons_zero, List.set_cons_succ, zM, zN]
                    rfl
                  refine pure_ (i := 10) (N := some 28) (v := ?_) (a' := ?_) #[true, true, false, true, false, false, true, true, true, true, true, false, false, false, false, false, false] rfl rfl (any_of HT_.out (by kernel_rfl)) (fun _ _ _ h => h) (Or.inl ⟨by rfl, ?_⟩) ?_ ?_
                  rotate_left
                  · intro w'
                    go_simp
                    with_reducible rfl
                  rotate_left
                  · simp only [Act.put, List.setIfInBounds_toArray, List.set_cons_zero, List.set_cons_succ, zM, zN]
                    rfl
                  refine pure_ (i := 12) (N := some 30) (v := ?_) (a' := ?_) #[true, true, false, true, false, false, true, true, true, true, true, false, true, false, false, false, false] rfl rfl (any_of HT_.out (by kernel_rfl)) (fun _ _ _ h => h) (Or.inl ⟨by rfl, ?_⟩) ?_ ?_
                  rotate_left
                  · intro w'
                    go_simp
                    with_reducible rfl
                  rotate_left
                  · simp only [Act.put, List.setIfInBounds_toArray, List.set_cons_zero, List.set_cons_succ, zM, zN]
                    rfl
                  refine take_ (i := 2) (N := some 20) (v := ?_) (a' := ?_) #[true, true, true, true, false, false, true, true, true, true, true, false, true, false, false, false, false] rfl rfl (take_ofW HT_.out HW_.out (by kernel_rfl)) (fun _ _ _ h => h) (Or.inl ⟨by rfl, ?_⟩) hHeld ?_ ?_
                  rotate_left
                  · rintro w' ⟨s0, s1, s2, s3, s4, s5, s6⟩
                    go_simp
                    with_reducible rfl
                  rotate_left
                  · simp only [Act.put, List.setIfInBounds_toArray, List.set_cons_zero, List.set_cons_succ, zM, zN]
                    rfl
                  refine pure_ (i := 4) (N := some 22) (v := ?_) (a' := ?_) #[true, true, true, true, true, false, true, true, true, true, true, false, true, false, false, false, false] rfl rfl (any_of HT_.out (by kernel_rfl)) (fun _ _ _ h => h) (Or.inl ⟨by rfl, ?_⟩) ?_ ?_
                  rotate_left
                  · intro w'
                    go_simp
                    with_reducible rfl
                  rotate_left
                  · simp only [Act.put, List.setIfInBounds_toArray, List.set_cons_zero, List.set_cons_succ, zM, zN]
                    rfl
                  refine take_ (i := 5) (N := some 23) (v := ?_) (a' := ?_) #[true, true, true, true, true, true, true, true, true, true, true, false, true, false, false, false, false] rfl rfl (take_ofW HT_.out HW_.out (by kernel_rfl)) (fun _ _ _ h => h) (Or.inl ⟨by rfl, ?_⟩) hHeld ?_ ?_
                  rotate_left
                  · rintro w' ⟨s0, s1, s2, s3, s4, s5, s6⟩
                    go_simp
                    with_reducible rfl
                  rotate_left
                  · simp only [Act.put, List.setIfInBounds_toArray, List.set_cons_zero, List.set_cons_succ, zM, zN]
                    rfl
                  refine take_ (i := 11) (N := some 29) (v := ?_) (a' := ?_) #[true, true, true, true, true, true, true, true, true, true, true, true, true, false, false, false, false] rfl rfl (take_ofW HT_.out HW_.out (by kernel_rfl)) (fun _ _ _ h => h) (Or.inl ⟨by rfl, ?_⟩) hHeld ?_ ?_
                  rotate_left
                  · rintro w' ⟨s0, s1, s2, s3, s4, s5, s6⟩
                    go_simp
                    with_reducible rfl
                  rotate_left
                  · simp only [Act.put, List.setIfInBounds_toArray, List.set_cons_zero, List.set_cons_succ, zM, zN]
                    rfl
                  refine one_ (i := 13) (N := some 31) #[true, true, true, true, true, true, true, true, true, true, true, true, true, true, false, false, false] rfl rfl (one_of HT_.out (by kernel_rfl)) (by decide) (fun K hK => ?_)
                  refine goes_ Try.func21 (by kernel_rfl) rfl #[.agg #[.int .i64 ((rd_T41 l0_0 x10_1).f0), .int .i64 ((rd_T41 l0_0 x10_1).f1), .int .i64 ((rd_T41 l0_0 x10_1).f2), .int .u8 ((rd_T41 l0_0 x10_1).f3)], .int .i64 (rd x9_1 (ji11)), .int .i64 a3] (by rfl) rfl rfl (by (try simp only [List.map_toArray, List.map_cons, List.map_nil]); first | done | (simp only [hji11]; rfl) | rfl | (simp only [List.length_drop, List.length_take]; rfl)) ?_
                  with_reducible refine (span_Next.calls ((rd_T41 l0_0 x10_1).f0) ((rd_T41 l0_0 x10_1).f1) ((rd_T41 l0_0 x10_1).f2) ((rd_T41 l0_0 x10_1).f3) (rd x9_1 (ji11)) a3 t178 _ A14.out).mono ?_
                  rintro e w18 ⟨rfl, hb⟩
                  have HS6_ := (hb.cell (World.block_lt_of_cell? _ _ (hHeld.2.2.2.2.2.2))).trans (hHeld.2.2.2.2.2.2); refine ⟨_, rfl, ?_⟩
                  have n0_ := zA.mk (Kd.R_below (by (with_reducible repeat (first | apply Kd.R_alloc | apply Kd.R_drewN | apply Kd.R_drew)); exact HO_9.out) hb)
                  have n1_ := zA.mk (zL (g := gb172) (o := .cells #[.slice (some ad176) l0_0.length c0_0, .slice A0_1 l0_1.length c0_1] 35 (0, 0)) (by (with_reducible repeat (first | refine zC ?_ _ | refine zD ?_ | refine zB ?_ _)); exact BK172.out) hb)
                  have n2_ := zA.mk (zO (by repeat (first | (with_reducible first | exact HB.out | apply zI | apply zF | apply zH | refine zE ?_ GE172.out) | exact HB.out)) hb)
                  clear HO_9 BK172 HB; have HO_9 := n0_; have BK172 := n1_; have HB := n2_; clear n0_ n1_ n2_; (try clear hb)
                  (try clear hb2)
                  (try clear hk)
                  (try clear hi)
                  refine hK.out _ _ ⟨(zG BK172.out 0).trans rfl, (zG BK172.out 1).trans rfl, ((HB.out.cell (World.block_lt_of_cell? w _ hw176_0)).trans hw176_0), ((HB.out.cell (World.block_lt_of_cell? w _ hw176_1)).trans hw176_1), ((HB.out.cell (World.block_lt_of_cell? w _ hw176_2)).trans hw176_2), ((HB.out.cell (World.block_lt_of_cell? w _ hw176_3)).trans hw176_3), HS6_⟩ (fun hHeld => ?_)
                  clear hK K; refine norm_ (a' := ?_) ?_ ?_
                  rotate_left
                  · show Act.put _ (some 31) _ = _
                    simp only [Act.put, List.setIfInBounds_toArray, List.set_cons_zero, List.set_cons_succ, zM, zN]; rfl
                  refine last_ (i := 14) (N := some 32) #[true, true, true, true, true, true, true, true, true, true, true, true, true, true, true, false, false] rfl rfl (one_of HT_.out (by kernel_rfl)) (by decide) (fun K hK => ?_)
                  refine value_ (w1 := ?_) (v := ?_) (by rfl) rfl ?_ ?_
                  rotate_left 2
                  · go_simp
                    constructor
                    · rfl
                    · rfl
                  refine hK.out _ _ ?_
                  clear hK K; refine norm_ (a' := ?_) ?_ ?_
                  rotate_left
                  · show Act.put _ (some 32) _ = _
                    simp only [Act.put, List.setIfInBounds_toArray, List.set_cons_zero, List.set_cons_succ, zM, zN]; rfl
                  refine last_ (i := 15) (N := some 33) #[true, true, true, true, true, true, true, true, true, true, true, true, true, true, true, true, false] rfl rfl (one_of HT_.out (by kernel_rfl)) (by decide) (fun K hK => ?_)
                  refine Kd.R_append_step (Kd.int .i64) (w0 := w) w.heap.size (by rfl) (.tmp 18) (.tmp 32) 24 3 (.int .i64 0) 8 rfl Try.underlying24 info3 rfl (by decide) (by omega) (.slice (some ad177) x9_1.length co17) x9_1 t178 [.int .i64 t178] (fun _ => True) (fun _ => False) rfl rfl ?aP (fun _ hk => hk.elim) ?aF ?aO ?aB ?aS ?aL ?_
                  (case aP => exact rfl)
                  (case aB => exact (by repeat (first | (with_reducible first | exact HB.out | apply zI | apply zF | apply zH | refine zE ?_ GE172.out) | exact HB.out)))
                  (case aF => exact (fun _ _ => trivial))
                  (case aO => exact (by (with_reducible repeat (first | apply Kd.R_alloc | apply Kd.R_drewN | apply Kd.R_drew)); exact HO_9.out))
                  (case aS => exact (zK (by repeat (first | (with_reducible first | exact HB.out | apply zI | apply zF | apply zH | refine zE ?_ GE172.out) | exact HB.out))))
                  (case aL => have := LMc15.out; omega)
                  intro v180 w19 ho hb hg hat
                  rw [← Ny179.out] at ho; have n0_ := zA.mk (blk_grown (g := gb172) (o := .cells #[.slice (some ad176) l0_0.length c0_0, .slice A0_1 l0_1.length c0_1] 35 (0, 0)) (by (with_reducible repeat (first | refine zC ?_ _ | refine zD ?_ | refine zB ?_ _)); exact BK172.out) hg (Kd.R_ne HO_9.out BK172.out (by decide)))
                  have n1_ := zA.mk (hb); have n2_ := zA.mk (ho); clear BK172; clear HB; clear HO_9; have BK172 := n0_; have HB := n1_; have HO181 := n2_; clear n0_ n1_ n2_; clear ho hb hg hat; refine hK.out _ _ ?_
                  clear hK K; refine norm_ (a' := ?_) ?_ ?_
                  rotate_left
                  · show Act.put _ (some 33) _ = _
                    simp only [Act.put, List.setIfInBounds_toArray, List.set_cons_zero, List.set_cons_succ, zM, zN]; rfl
                  refine pure_ (i := 16) (N := some 9) (v := ?_) (a' := ?_) #[true, true, true, true, true, true, true, true, true, true, true, true, true, true, true, true, true] rfl rfl (any_of HT_.out (by kernel_rfl)) (fun _ _ _ h => h) (Or.inl ⟨by rfl, ?_⟩) ?_ ?_
                  rotate_left
                  · intro w'
                    go_simp
                    with_reducible rfl
                  rotate_left
                  · simp only [Act.put, List.setIfInBounds_toArray, List.set_cons_zero, List.set_cons_succ, zM, zN]
                    rfl
                  refine done_ (done_of HT_.out (by kernel_rfl)) ?_
                  try go_wp2
                  go_roundg k1
                  case measure => have := HK1.out; omega
                  case rel => exact ⟨(y179), (wrap64 (x10_1 + 1)), (by first | rfl | (simp; done) | (simp [*]; done)), H', ⟨by have := HK1.out; omega⟩, ⟨by (with_reducible repeat (first | apply Kd.R_alloc | apply Kd.R_drewN | apply Kd.R_drew)); exact HO181.out⟩, ⟨by (with_reducible repeat (first | refine zC ?_ _ | refine zD ?_ | refine zB ?_ _)); exact BK172.out⟩, ⟨by repeat (first | (with_reducible first | exact HB.out | apply zI | apply zF | apply zH | refine zE ?_ GE172.out) | exact HB.out)⟩⟩
                · rw [if_neg c15] at H
                  exact absurd H (by simp)
              · rw [if_neg c13] at H
                exact absurd H (by simp)
            · rw [if_neg c12] at H
              exact absurd H (by simp)
          · rw [if_neg c10] at H
            exact absurd H (by simp)
        · rw [if_neg c9] at H
          exact absurd H (by simp)
      · rw [if_neg c8] at H
        have c8b0 : decide (x10_1 < a2) = false := decide_eq_false c8
        clear c8; obtain rfl := Option.some.inj H
        go_wp2
        go_ret
        exact ⟨_, by first | rfl | (simp [errW_none, errW_some] <;> rfl) | (simp [*, errW_none, errW_some] <;> rfl), by (with_reducible repeat (first | apply Kd.R_alloc | apply Kd.R_drewN | apply Kd.R_drew)); exact HO_9.out, by repeat (first | (with_reducible first | exact HB.out | apply zI | apply zF | apply zH | refine zE ?_ GE172.out) | exact HB.out)⟩
end Go.Proofs.Ytbnoeeflpegcoaa.F
end
section
namespace Go.Proofs.Ytbnoeeflpegcoaa.F
open Go.RowKit Go.Proofs.YtbnoeeflpegcoaaW.PrintWords Go.Proofs.YtbnoeeflpegcoaaW.PrintLast Go.Proofs.YtbnoeeflpegcoaaW.PrintMore
attribute [local go_sem] max2_int min2_int max_two min_two max_three min_three max_four min_four   -- for this text's walks alone
set_option linter.unusedVariables false
set_option linter.unusedSimpArgs false
def span_empty.f (a0_0 : Int) (a0_1 : Int) (a0_2 : Int) (a0_3 : Int) : Option (Bool) := if a0_3 = 1 then (some true) else (if a0_3 = 0 then (some (a0_2 == 0)) else (some false))
set_option maxHeartbeats 8000000 in
set_option maxRecDepth 100000 in
theorem span_empty.calls (a0_0 : Int) (a0_1 : Int) (a0_2 : Int) (a0_3 : Int) (r : Bool) (w : World) (h : span_empty.f a0_0 a0_1 a0_2 a0_3 = some r) :
    Calls Try.prog 39 #[.agg #[.int .i64 a0_0, .int .i64 a0_1, .int .i64 a0_2, .int .u8 a0_3]] w fun e w' => e = .returned (.bool r) ∧ Below w.heap.size w w' := by
  have hu41 := Try.underlying41; have HB := zA.mk (Below.refl w.heap.size w); have H : (if a0_3 = 1 then (some true) else (if a0_3 = 0 then (some (a0_2 == 0)) else (some false))) = some r := h
  clear h; by_cases c2 : a0_3 = 1
  · rw [if_pos c2] at H
    have c2b0 : (a0_3 == 1) = true := beq_iff_eq.mpr c2
    have c2b1 : (a0_3 != 1) = false := bne_eq_false_iff_eq.mpr c2
    clear c2; obtain rfl := Option.some.inj H
    go_enter Try.func39, Try.ntmps39
    go_wp2_with (first | ((with_reducible refine gate_dst (N := 1) rfl ?_); refine box_event ?hg (N := 1) ?hd (cs := #[.int .i64 a0_0, .int .i64 a0_1, .int .i64 a0_2, .int .u8 a0_3]) (t := 41) ?hr ?_; (case hd => rfl); (case hg => rfl); (case hr => first | (go_simp; done) | (go_simp; rfl)); intro gb182 hg w3 hbox hb; have n0_ := zA.mk (zO (by repeat (first | (with_reducible first | exact HB.out | apply zI | apply zF | apply zH) | exact HB.out)) hb); have n1_ := zA.mk (hbox); have n2_ := zA.mk ((by rw [hg]; exact (zK (by repeat (first | (with_reducible first | exact HB.out | apply zI | apply zF | apply zH) | exact HB.out))) : w.heap.size ≤ gb182)); have n3_ := zA.mk ((by rw [hg]; exact (zK (by repeat (first | (with_reducible first | exact HB.out | apply zI | apply zF | apply zH) | exact HB.out))) : w.heap.size ≤ gb182)); clear HB; have HB := n0_; have BK182 := n1_; have GW182 := n2_; have GE182 := n3_; clear n0_ n1_ n2_ n3_; clear hb hbox hg; have hcz4_0 : w3.cell? ⟨gb182, 0, none⟩ = some (.int .i64 a0_0) := (zG BK182.out 0).trans rfl; have hcz4_1 : w3.cell? ⟨gb182, 1, none⟩ = some (.int .i64 a0_1) := (zG BK182.out 1).trans rfl; have hcz4_2 : w3.cell? ⟨gb182, 2, none⟩ = some (.int .i64 a0_2) := (zG BK182.out 2).trans rfl; have hcz4_3 : w3.cell? ⟨gb182, 3, none⟩ = some (.int .u8 a0_3) := (zG BK182.out 3).trans rfl; have hfz4_0 := zJ BK182.out 0; have hfz4_1 := zJ BK182.out 1; have hfz4_2 := zJ BK182.out 2; have hfz4_3 := zJ BK182.out 3))
    go_ret
    exact ⟨by first | rfl | (simp [errW_none, errW_some] <;> rfl) | (simp [*, errW_none, errW_some] <;> rfl), by repeat (first | (with_reducible first | exact HB.out | apply zI | apply zF | apply zH | refine zE ?_ GE182.out) | exact HB.out)⟩
  · rw [if_neg c2] at H
    have c2b0 : (a0_3 == 1) = false := beq_eq_false_iff_ne.mpr c2
    have c2b1 : (a0_3 != 1) = true := bne_iff_ne.mpr c2
    by_cases c5 : a0_3 = 0
    · rw [if_pos c5] at H
      have c5b0 : (a0_3 == 0) = true := beq_iff_eq.mpr c5
      have c5b1 : (a0_3 != 0) = false := bne_eq_false_iff_eq.mpr c5
      clear c5; obtain rfl := Option.some.inj H
      go_enter Try.func39, Try.ntmps39
      go_wp2_with (first | ((with_reducible refine gate_dst (N := 1) rfl ?_); refine box_event ?hg (N := 1) ?hd (cs := #[.int .i64 a0_0, .int .i64 a0_1, .int .i64 a0_2, .int .u8 a0_3]) (t := 41) ?hr ?_; (case hd => rfl); (case hg => rfl); (case hr => first | (go_simp; done) | (go_simp; rfl)); intro gb182 hg w6 hbox hb; have n0_ := zA.mk (zO (by repeat (first | (with_reducible first | exact HB.out | apply zI | apply zF | apply zH) | exact HB.out)) hb); have n1_ := zA.mk (hbox); have n2_ := zA.mk ((by rw [hg]; exact (zK (by repeat (first | (with_reducible first | exact HB.out | apply zI | apply zF | apply zH) | exact HB.out))) : w.heap.size ≤ gb182)); have n3_ := zA.mk ((by rw [hg]; exact (zK (by repeat (first | (with_reducible first | exact HB.out | apply zI | apply zF | apply zH) | exact HB.out))) : w.heap.size ≤ gb182)); clear HB; have HB := n0_; have BK182 := n1_; have GW182 := n2_; have GE182 := n3_; clear n0_ n1_ n2_ n3_; clear hb hbox hg; have hcz7_0 : w6.cell? ⟨gb182, 0, none⟩ = some (.int .i64 a0_0) := (zG BK182.out 0).trans rfl; have hcz7_1 : w6.cell? ⟨gb182, 1, none⟩ = some (.int .i64 a0_1) := (zG BK182.out 1).trans rfl; have hcz7_2 : w6.cell? ⟨gb182, 2, none⟩ = some (.int .i64 a0_2) := (zG BK182.out 2).trans rfl; have hcz7_3 : w6.cell? ⟨gb182, 3, none⟩ = some (.int .u8 a0_3) := (zG BK182.out 3).trans rfl; have hfz7_0 := zJ BK182.out 0; have hfz7_1 := zJ BK182.out 1; have hfz7_2 := zJ BK182.out 2; have hfz7_3 := zJ BK182.out 3))
      go_ret
      exact ⟨by first | rfl | (simp [errW_none, errW_some] <;> rfl) | (simp [*, errW_none, errW_some] <;> rfl), by repeat (first | (with_reducible first | exact HB.out | apply zI | apply zF | apply zH | refine zE ?_ GE182.out) | exact HB.out)⟩
    · rw [if_neg c5] at H
      have c5b0 : (a0_3 == 0) = false := beq_eq_false_iff_ne.mpr c5
      have c5b1 : (a0_3 != 0) = true := bne_iff_ne.mpr c5
      obtain rfl := Option.some.inj H
      go_enter Try.func39, Try.ntmps39
      go_wp2_with (first | ((with_reducible refine gate_dst (N := 1) rfl ?_); refine box_event ?hg (N := 1) ?hd (cs := #[.int .i64 a0_0, .int .i64 a0_1, .int .i64 a0_2, .int .u8 a0_3]) (t := 41) ?hr ?_; (case hd => rfl); (case hg => rfl); (case hr => first | (go_simp; done) | (go_simp; rfl)); intro gb182 hg w8 hbox hb; have n0_ := zA.mk (zO (by repeat (first | (with_reducible first | exact HB.out | apply zI | apply zF | apply zH) | exact HB.out)) hb); have n1_ := zA.mk (hbox); have n2_ := zA.mk ((by rw [hg]; exact (zK (by repeat (first | (with_reducible first | exact HB.out | apply zI | apply zF | apply zH) | exact HB.out))) : w.heap.size ≤ gb182)); have n3_ := zA.mk ((by rw [hg]; exact (zK (by repeat (first | (with_reducible first | exact HB.out | apply zI | apply zF | apply zH) | exact HB.out))) : w.heap.size ≤ gb182)); clear HB; have HB := n0_; have BK182 := n1_; have GW182 := n2_; have GE182 := n3_; clear n0_ n1_ n2_ n3_; clear hb hbox hg; have hcz9_0 : w8.cell? ⟨gb182, 0, none⟩ = some (.int .i64 a0_0) := (zG BK182.out 0).trans rfl; have hcz9_1 : w8.cell? ⟨gb182, 1, none⟩ = some (.int .i64 a0_1) := (zG BK182.out 1).trans rfl; have hcz9_2 : w8.cell? ⟨gb182, 2, none⟩ = some (.int .i64 a0_2) := (zG BK182.out 2).trans rfl; have hcz9_3 : w8.cell? ⟨gb182, 3, none⟩ = some (.int .u8 a0_3) := (zG BK182.out 3).trans rfl; have hfz9_0 := zJ BK182.out 0; have hfz9_1 := zJ BK182.out 1; have hfz9_2 := zJ BK182.out 2; have hfz9_3 := zJ BK182.out 3))
      go_ret
      exact ⟨by first | rfl | (simp [errW_none, errW_some] <;> rfl) | (simp [*, errW_none, errW_some] <;> rfl), by repeat (first | (with_reducible first | exact HB.out | apply zI | apply zF | apply zH | refine zE ?_ GE182.out) | exact HB.out)⟩
end Go.Proofs.Ytbnoeeflpegcoaa.F
end
section
namespace Go.Proofs.Ytbnoeeflpegcoaa.F
open Go.RowKit Go.Proofs.YtbnoeeflpegcoaaW.PrintWords Go.Proofs.YtbnoeeflpegcoaaW.PrintLast Go.Proofs.YtbnoeeflpegcoaaW.PrintMore
attribute [local go_sem] max2_int min2_int max_two min_two max_three min_three max_four min_four   -- for this text's walks alone
set_option linter.unusedVariables false
set_option linter.unusedSimpArgs false
def span_Trim.l0 : Nat → Int → Int → List (S41) → List Int → Option (Int)
  | 0, _, _, _, _ => none
  | k + 1, x1, x2, x184000, x184001 => if x2 > x1 then (if 0 ≤ (wrap64 (x2 - 1)) then (if (wrap64 (x2 - 1)) < (x184000.length : Int) then ((span_empty.f ((rd_T41 x184000 (wrap64 (x2 - 1))).f0) ((rd_T41 x184000 (wrap64 (x2 - 1))).f1) ((rd_T41 x184000 (wrap64 (x2 - 1))).f2) ((rd_T41 x184000 (wrap64 (x2 - 1))).f3)).bind fun t185 => (if t185 = true then (span_Trim.l0 k x1 (wrap64 (x2 - 1)) x184000 x184001) else (some x2))) else (none)) else (none)) else (some x2)
def span_Trim.f (k : Nat) (l0_0 : List (S41)) (l0_1 : List Int) (a1 : Int) (a2 : Int) : Option (Int) := span_Trim.l0 k a1 a2 l0_0 l0_1
theorem span_Trim.mono_l : ∀ k, (∀ y0 y1 y2 y3, LeO (span_Trim.l0 k y0 y1 y2 y3) (span_Trim.l0 (k + 1) y0 y1 y2 y3))
  | 0 => fun _ _ _ _ r h => by simp [span_Trim.l0] at h
  | k + 1 => by
    have ih0 := span_Trim.mono_l k
    · intro y0 y1 y2 y3
      unfold span_Trim.l0
      repeat' first
      | (with_reducible exact ih0 _ _ _ _)
      | (with_reducible exact LeO.refl _)
      | (with_reducible exact LeO.none _)
      | (with_reducible refine LeO.ite ?_ ?_)
      | (with_reducible refine LeO.bind ?_ (fun _ => ?_))
      | exact ih0 _ _ _ _
      | exact LeO.none _
      | refine LeO.ite ?_ ?_
      | refine LeO.bind ?_ (fun _ => ?_)
theorem span_Trim.mono : ∀ a0 a1 a2 a3 k, LeO (span_Trim.f k a0 a1 a2 a3) (span_Trim.f (k + 1) a0 a1 a2 a3) := by
  intro a0 a1 a2 a3 k
  have ih0 := span_Trim.mono_l k; unfold span_Trim.f
  repeat' first
      | (with_reducible exact ih0 _ _ _ _)
      | (with_reducible exact LeO.refl _)
      | (with_reducible exact LeO.none _)
      | (with_reducible refine LeO.ite ?_ ?_)
      | (with_reducible refine LeO.bind ?_ (fun _ => ?_))
      | exact ih0 _ _ _ _
      | exact LeO.none _
      | refine LeO.ite ?_ ?_
      | refine LeO.bind ?_ (fun _ => ?_)
set_option maxHeartbeats 8000000 in
set_option maxRecDepth 100000 in
theorem span_Trim.calls (k : Nat) (A0_0 : Option Addr) (c0_0 : Nat) (l0_0 : List (S41)) (A0_1 : Option Addr) (c0_1 : Nat) (l0_1 : List Int) (a1 : Int) (a2 : Int) (r : Int) (w : World) (hr0_0 : Kd.C k41 w A0_0 l0_0.length l0_0) (hc0_0 : l0_0.length ≤ c0_0) (hr0_1 : Kd.C (Kd.int .u8) w A0_1 l0_1.length l0_1) (hc0_1 : l0_1.length ≤ c0_1) (h : span_Trim.f k l0_0 l0_1 a1 a2 = some r) :
    Calls Try.prog 26 #[.agg #[.slice A0_0 l0_0.length c0_0, .slice A0_1 l0_1.length c0_1], .int .i64 a1, .int .i64 a2] w fun e w' => e = .returned (.int .i64 r) ∧ Below w.heap.size w w' := by
  have hu35 := Try.underlying35; have hu41 := Try.underlying41; have HR0_0 := zA.mk hr0_0; have HC0_0 := zA.mk hc0_0; clear hr0_0 hc0_0; have HR0_1 := zA.mk hr0_1; have HC0_1 := zA.mk hc0_1; clear hr0_1 hc0_1; have HB := zA.mk (Below.refl w.heap.size w); have H : (span_Trim.l0 k a1 a2 l0_0 l0_1) = some r := h
  clear h; have H' := zA.mk H
  clear H; go_enter Try.func26, Try.ntmps26
  go_wp2_with (first | ((with_reducible refine gate_dst (N := 3) rfl ?_); refine box_event ?hg (N := 3) ?hd (cs := #[.slice A0_0 l0_0.length c0_0, .slice A0_1 l0_1.length c0_1]) (t := 35) ?hr ?_; (case hd => rfl); (case hg => rfl); (case hr => first | (go_simp; done) | (go_simp; rfl)); intro gb183 hg w4 hbox hb; have n0_ := zA.mk (zO (by repeat (first | (with_reducible first | exact HB.out | apply zI | apply zF | apply zH) | exact HB.out)) hb); have n1_ := zA.mk (hbox); have n2_ := zA.mk ((by rw [hg]; exact (zK (by repeat (first | (with_reducible first | exact HB.out | apply zI | apply zF | apply zH) | exact HB.out))) : w.heap.size ≤ gb183)); have n3_ := zA.mk ((by rw [hg]; exact (zK (by repeat (first | (with_reducible first | exact HB.out | apply zI | apply zF | apply zH) | exact HB.out))) : w.heap.size ≤ gb183)); clear HB; have HB := n0_; have BK183 := n1_; have GW183 := n2_; have GE183 := n3_; clear n0_ n1_ n2_ n3_; clear hb hbox hg))
  go_loopg [2] k (fun kq v2 w' => ∃ (x2_1 : Int), v2 = .int .i64 x2_1 ∧ zA (span_Trim.l0 kq a1 x2_1 l0_0 l0_1 = some r) ∧ zA (kq ≤ k) ∧ zA (w'.heap[gb183]? = some (.cells #[(.slice A0_0 l0_0.length c0_0), (.slice A0_1 l0_1.length c0_1)] 35 (0, 0))) ∧ zA (Below w.heap.size w w'))
  case atStart => exact ⟨(a2), (by first | rfl | (simp; done) | (simp [*]; done)), H', ⟨Nat.le_refl _⟩, ⟨by (with_reducible repeat (first | refine zC ?_ _ | refine zD ?_ | refine zB ?_ _)); exact BK183.out⟩, ⟨by repeat (first | (with_reducible first | exact HB.out | apply zI | apply zF | apply zH | refine zE ?_ GE183.out) | exact HB.out)⟩⟩
  case round =>
    clear H'; try clear c2
    try clear p2
    obtain ⟨x2_1, rfl, HA, HK1, BK183, HB⟩ := hrel; cases gk with
    | zero => exact absurd HA.out (by simp [span_Trim.l0])
    | succ k1 =>
      have H := HA.out; clear HA; simp only [span_Trim.l0] at H; by_cases c5 : x2_1 > a1
      · rw [if_pos c5] at H
        have c5b0 : decide (a1 < x2_1) = true := decide_eq_true c5
        clear c5; obtain ⟨ji6, hji6⟩ : ∃ j_ : Int, (wrap64 (x2_1 - 1)) = j_ := ⟨_, rfl⟩; replace H : (if 0 ≤ (ji6) then (if (ji6) < (l0_0.length : Int) then ((span_empty.f ((rd_T41 l0_0 (ji6)).f0) ((rd_T41 l0_0 (ji6)).f1) ((rd_T41 l0_0 (ji6)).f2) ((rd_T41 l0_0 (ji6)).f3)).bind fun t185 => (if t185 = true then (span_Trim.l0 k1 a1 ji6 l0_0 l0_1) else (some x2_1))) else (none)) else (none)) = some r := by first | (rw [hji6] at H; exact H) | (simp only [hji6] at H ⊢; exact H)
        have hji6w : (IntKind.i64.wrap (x2_1 - 1)) = ji6 := (zM _).trans hji6
        by_cases c7 : 0 ≤ (ji6)
        · rw [if_pos c7] at H
          have c7b0 : decide (0 ≤ (ji6)) = true := decide_eq_true c7
          clear c7; by_cases c8 : (ji6) < (l0_0.length : Int)
          · rw [if_pos c8] at H
            have c8b0 : decide ((ji6) < (l0_0.length : Int)) = true := decide_eq_true c8
            clear c8; replace H := Option.bind_eq_some_iff.mp H; obtain ⟨t185, A90, H⟩ := H; replace H : (if t185 = true then (span_Trim.l0 k1 a1 ji6 l0_0 l0_1) else (some x2_1)) = some r := H; have A9 := zA.mk A90; clear A90; by_cases c10 : t185 = true
            · subst c10
              have H1 : (span_Trim.l0 k1 a1 ji6 l0_0 l0_1) = some r := by rw [if_pos rfl] at H; exact H
              clear H; have H := H1; clear H1; have H' := zA.mk H
              clear H; have hcz11_0 : wr.cell? ⟨gb183, 0, none⟩ = some (.slice A0_0 l0_0.length c0_0) := (zG BK183.out 0).trans rfl
              have hcz11_1 : wr.cell? ⟨gb183, 1, none⟩ = some (.slice A0_1 l0_1.length c0_1) := (zG BK183.out 1).trans rfl
              have hfz11_0 := zJ BK183.out 0; have hfz11_1 := zJ BK183.out 1; have p184 : 0 ≤ ((ji6) : Int) := of_decide_eq_true (by first | (with_reducible assumption) | assumption)
              have q184 : (ji6) < (l0_0.length : Int) := of_decide_eq_true (by first | (with_reducible assumption) | assumption)
              obtain ⟨ad184, e184, hx184_0, hx184_1, hx184_2, hx184_3⟩ := at_T41 HR0_0.out (ji6) p184 q184; cases e184
              replace hx184_0 := (HB.out.cell (World.block_lt_of_cell? w _ hx184_0)).trans hx184_0; replace hx184_1 := (HB.out.cell (World.block_lt_of_cell? w _ hx184_1)).trans hx184_1; replace hx184_2 := (HB.out.cell (World.block_lt_of_cell? w _ hx184_2)).trans hx184_2; replace hx184_3 := (HB.out.cell (World.block_lt_of_cell? w _ hx184_3)).trans hx184_3; replace p184 := eq_true p184; replace q184 := eq_true q184; go_wp2_with (first | (go_at_call 39; (with_reducible refine (span_empty.calls ((rd_T41 l0_0 (ji6)).f0) ((rd_T41 l0_0 (ji6)).f1) ((rd_T41 l0_0 (ji6)).f2) ((rd_T41 l0_0 (ji6)).f3) true _ A9.out).mono ?_); rintro e w12 ⟨rfl, hb⟩; have n0_ := zA.mk (zL (g := gb183) (o := .cells #[.slice (some ad184) l0_0.length c0_0, .slice A0_1 l0_1.length c0_1] 35 (0, 0)) (by (with_reducible repeat (first | refine zC ?_ _ | refine zD ?_ | refine zB ?_ _)); exact BK183.out) hb); have n1_ := zA.mk (zO (by repeat (first | (with_reducible first | exact HB.out | apply zI | apply zF | apply zH | refine zE ?_ GE183.out) | exact HB.out)) hb); clear BK183; clear HB; have BK183 := n0_; have HB := n1_; clear n0_ n1_; (try clear hb); (try clear hb2); (try clear hk); (try clear hi)))
              go_roundg k1
              case measure => have := HK1.out; omega
              case rel => exact ⟨(ji6), (by first | rfl | (simp; done) | (simp only [← hji6] <;> (first | rfl | simp)) | (simp [*]; done)), H', ⟨by have := HK1.out; omega⟩, ⟨by (with_reducible repeat (first | refine zC ?_ _ | refine zD ?_ | refine zB ?_ _)); exact BK183.out⟩, ⟨by repeat (first | (with_reducible first | exact HB.out | apply zI | apply zF | apply zH | refine zE ?_ GE183.out) | exact HB.out)⟩⟩
            · replace c10 := Bool.eq_false_iff.mpr c10
              subst c10; have H1 : (some x2_1) = some r := by rw [if_neg (show ¬ (false = true) by decide)] at H; exact H
              clear H; have H := H1; clear H1; obtain rfl := Option.some.inj H
              have hcz13_0 : wr.cell? ⟨gb183, 0, none⟩ = some (.slice A0_0 l0_0.length c0_0) := (zG BK183.out 0).trans rfl
              have hcz13_1 : wr.cell? ⟨gb183, 1, none⟩ = some (.slice A0_1 l0_1.length c0_1) := (zG BK183.out 1).trans rfl
              have hfz13_0 := zJ BK183.out 0; have hfz13_1 := zJ BK183.out 1; have p184 : 0 ≤ ((ji6) : Int) := of_decide_eq_true (by first | (with_reducible assumption) | assumption)
              have q184 : (ji6) < (l0_0.length : Int) := of_decide_eq_true (by first | (with_reducible assumption) | assumption)
              obtain ⟨ad184, e184, hx184_0, hx184_1, hx184_2, hx184_3⟩ := at_T41 HR0_0.out (ji6) p184 q184; cases e184
              replace hx184_0 := (HB.out.cell (World.block_lt_of_cell? w _ hx184_0)).trans hx184_0; replace hx184_1 := (HB.out.cell (World.block_lt_of_cell? w _ hx184_1)).trans hx184_1; replace hx184_2 := (HB.out.cell (World.block_lt_of_cell? w _ hx184_2)).trans hx184_2; replace hx184_3 := (HB.out.cell (World.block_lt_of_cell? w _ hx184_3)).trans hx184_3; replace p184 := eq_true p184; replace q184 := eq_true q184; go_wp2_with (first | (go_at_call 39; (with_reducible refine (span_empty.calls ((rd_T41 l0_0 (ji6)).f0) ((rd_T41 l0_0 (ji6)).f1) ((rd_T41 l0_0 (ji6)).f2) ((rd_T41 l0_0 (ji6)).f3) false _ A9.out).mono ?_); rintro e w14 ⟨rfl, hb⟩; have n0_ := zA.mk (zL (g := gb183) (o := .cells #[.slice (some ad184) l0_0.length c0_0, .slice A0_1 l0_1.length c0_1] 35 (0, 0)) (by (with_reducible repeat (first | refine zC ?_ _ | refine zD ?_ | refine zB ?_ _)); exact BK183.out) hb); have n1_ := zA.mk (zO (by repeat (first | (with_reducible first | exact HB.out | apply zI | apply zF | apply zH | refine zE ?_ GE183.out) | exact HB.out)) hb); clear BK183; clear HB; have BK183 := n0_; have HB := n1_; clear n0_ n1_; (try clear hb); (try clear hb2); (try clear hk); (try clear hi)))
              go_ret
              exact ⟨by first | rfl | (simp [errW_none, errW_some] <;> rfl) | (simp only [← hji6]; first | rfl | (simp [errW_none, errW_some] <;> rfl)) | (simp [*, errW_none, errW_some] <;> rfl), by repeat (first | (with_reducible first | exact HB.out | apply zI | apply zF | apply zH | refine zE ?_ GE183.out) | exact HB.out)⟩
          · rw [if_neg c8] at H
            exact absurd H (by simp)
        · rw [if_neg c7] at H
          exact absurd H (by simp)
      · rw [if_neg c5] at H
        have c5b0 : decide (a1 < x2_1) = false := decide_eq_false c5
        clear c5; obtain rfl := Option.some.inj H
        go_wp2
        go_ret
        exact ⟨by first | rfl | (simp [errW_none, errW_some] <;> rfl) | (simp [*, errW_none, errW_some] <;> rfl), by repeat (first | (with_reducible first | exact HB.out | apply zI | apply zF | apply zH | refine zE ?_ GE183.out) | exact HB.out)⟩
end Go.Proofs.Ytbnoeeflpegcoaa.F
end
