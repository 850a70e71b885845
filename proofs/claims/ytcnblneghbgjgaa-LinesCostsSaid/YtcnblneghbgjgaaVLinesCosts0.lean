/- Printed by a program: Lean functions that answer as the Go functions do, and the proofs of it. -/
import Derived.Test.YtcnblneghbgjgaaProg
import Derived.Below
import Derived.Deep.Draws
import Derived.Deep.AppendLies
import Derived.Maps.AppendAt
import Derived.OwnWalk
import Derived.Laws.BytesArg
import Derived.Laws.MakeOwn
import Derived.Laws.OwnMore
import Derived.Deep.OwnRows
import Derived.Tactics
import Derived.Lib.ConvBytes
import Derived.Laws.Slices
import Derived.WalkKit
import Derived.KernelRfl
import Derived.RowKit3
import Derived.Deep.LoopGhost
import Derived.Deep.QuietTactic
import Derived.BigQuiet
import Derived.WideLaws
import Derived.Deep.DeepCutAuto
import Derived.Deep.CutBlock
import Derived.Deep.RegionHeld3
import Derived.Laws.Rows
import Derived.Lib.AppendStr
import Derived.ArgAppend
import Derived.Laws.IdiomCopy
import Derived.OrdersHeld
import Derived.Laws.BitsLemmas
import Derived.RowKit
import Derived.Laws.FloatArith
import Derived.Test.YtcnblneghbgjgaaXLinesCosts0
section
namespace Go.Proofs.Ytcnblneghbgjgaa.F
open Go.RowKit Go.Proofs.YtcnblneghbgjgaaW.PrintWords Go.Proofs.YtcnblneghbgjgaaW.PrintLast Go.Proofs.YtcnblneghbgjgaaW.PrintMore
attribute [local go_sem] max2_int min2_int max_two min_two max_three min_three max_four min_four   -- for this text's walks alone
set_option linter.unusedVariables false
set_option linter.unusedSimpArgs false
def errW : Option Int → Value
  | none => .nilIface
  | some c => .iface 0 (.int .i64 c)
theorem errW_none : errW none = .nilIface := rfl
theorem errW_some (c : Int) : errW (some c) = .iface 0 (.int .i64 c) := rfl
theorem info3 : (Try.prog.info? 3).map (fun i => (i.zero, i.size, i.bytes)) = some (some (.int .i64 0), 1, 8) := by kernel_rfl
theorem info51 : (Try.prog.info? 51).map (fun i => (i.zero, i.size, i.bytes)) = some (some (.int .u8 0), 1, 1) := by kernel_rfl
theorem info53 : (Try.prog.info? 53).map (fun i => (i.zero, i.size, i.bytes)) = some (some (.agg #[(.int .i64 0), (.int .i64 0), (.int .i64 0), (.int .u8 0)]), 4, 32) := by kernel_rfl
theorem info54 : (Try.prog.info? 54).map (fun i => (i.zero, i.size, i.bytes)) = some (some (.agg #[(.int .i64 0), (.int .i64 0), (.int .i64 0), (.int .u8 0)]), 4, 32) := by kernel_rfl
theorem info63 : (Try.prog.info? 63).map (fun i => (i.zero, i.size, i.bytes)) = some (some (.agg #[(.int .u8 0), (.int .u8 0), (.int .u8 0), (.int .u8 0)]), 4, 4) := by kernel_rfl
theorem info66 : (Try.prog.info? 66).map (fun i => (i.zero, i.size, i.bytes)) = some (some (.agg #[(.int .i64 0), (.int .i64 0), (.int .i64 0), (.int .u8 0)]), 4, 32) := by kernel_rfl
theorem info70 : (Try.prog.info? 70).map (fun i => (i.zero, i.size, i.bytes)) = some (some (.agg #[(.int .i64 0), (.int .i64 0)]), 2, 16) := by kernel_rfl
structure S63 where
  f0 : Int
  f1 : Int
  f2 : Int
  f3 : Int
def z63 : S63 := ⟨(0 : Int), (0 : Int), (0 : Int), (0 : Int)⟩
def k63 : Kd S63 := Kd.iso (Kd.pair (Kd.int .u8) (Kd.pair (Kd.int .u8) (Kd.pair (Kd.int .u8) (Kd.int .u8)))) (fun x : S63 => (x.f0, x.f1, x.f2, x.f3))
theorem k63_open {w : World} {x : S63} {cs : List Value} (h : k63.K w x cs) : cs = [.int .u8 x.f0, .int .u8 x.f1, .int .u8 x.f2, .int .u8 x.f3] := by
  obtain ⟨_, _, rfl, rfl, ⟨_, _, rfl, rfl, ⟨_, _, rfl, rfl, rfl⟩⟩⟩ := h; exact rfl
theorem k63_openM {w : World} {base : Nat} {ok : Nat → Prop} {x : S63} {cs : List Value} (h : k63.M w base ok x cs) : cs = [.int .u8 x.f0, .int .u8 x.f1, .int .u8 x.f2, .int .u8 x.f3] := by
  obtain ⟨_, _, rfl, rfl, ⟨_, _, rfl, rfl, ⟨_, _, rfl, rfl, rfl⟩⟩⟩ := h; exact rfl
theorem k63_mk (w : World) (x : S63)  : k63.K w x [.int .u8 x.f0, .int .u8 x.f1, .int .u8 x.f2, .int .u8 x.f3] := ⟨[.int .u8 x.f0], [.int .u8 x.f1, .int .u8 x.f2, .int .u8 x.f3], rfl, rfl, ⟨[.int .u8 x.f1], [.int .u8 x.f2, .int .u8 x.f3], rfl, rfl, ⟨[.int .u8 x.f2], [.int .u8 x.f3], rfl, rfl, rfl⟩⟩⟩
theorem k63_mkM (w : World) (base : Nat) (ok : Nat → Prop) (x : S63)  : k63.M w base ok x [.int .u8 x.f0, .int .u8 x.f1, .int .u8 x.f2, .int .u8 x.f3] := ⟨[.int .u8 x.f0], [.int .u8 x.f1, .int .u8 x.f2, .int .u8 x.f3], rfl, rfl, ⟨[.int .u8 x.f1], [.int .u8 x.f2, .int .u8 x.f3], rfl, rfl, ⟨[.int .u8 x.f2], [.int .u8 x.f3], rfl, rfl, rfl⟩⟩⟩
def rd_T63 (xs : List S63) (i : Int) : S63 := xs.getD i.toNat z63
theorem at_T63 {w : World} {A : Option Addr} {n : Nat} {xs : List S63} (h : Kd.C k63 w A n xs) (i : Int) (h0 : 0 ≤ i) (h1 : i < n) : ∃ ad , A = some ad ∧ w.cell? (ad.add (i.toNat * 4)) = some (.int .u8 (rd_T63 xs i).f0) ∧ w.cell? ⟨(ad.add (i.toNat * 4)).block, (ad.add (i.toNat * 4)).off + 1, none⟩ = some (.int .u8 (rd_T63 xs i).f1) ∧ w.cell? ⟨(ad.add (i.toNat * 4)).block, (ad.add (i.toNat * 4)).off + 2, none⟩ = some (.int .u8 (rd_T63 xs i).f2) ∧ w.cell? ⟨(ad.add (i.toNat * 4)).block, (ad.add (i.toNat * 4)).off + 3, none⟩ = some (.int .u8 (rd_T63 xs i).f3) := by
  obtain ⟨ad, c, e, _, hK, hc0⟩ := Kd.C_get h z63 i h0 h1; have hc : ∀ j u, c[j]? = some u → w.cell? (ad.add (i.toNat * 4 + j)) = some u := hc0
  obtain rfl := k63_open hK
  exact ⟨ad, e, hc 0 _ rfl, by rw [← add_field _ _ 1 (by omega)]; exact hc 1 _ rfl, by rw [← add_field _ _ 2 (by omega)]; exact hc 2 _ rfl, by rw [← add_field _ _ 3 (by omega)]; exact hc 3 _ rfl⟩
structure S66 where
  f0 : Int
  f1 : Int
  f2 : Int
  f3 : Int
def z66 : S66 := ⟨(0 : Int), (0 : Int), (0 : Int), (0 : Int)⟩
def k66 : Kd S66 := Kd.iso (Kd.pair (Kd.int .i64) (Kd.pair (Kd.int .i64) (Kd.pair (Kd.int .i64) (Kd.int .u8)))) (fun x : S66 => (x.f0, x.f1, x.f2, x.f3))
theorem k66_open {w : World} {x : S66} {cs : List Value} (h : k66.K w x cs) : cs = [.int .i64 x.f0, .int .i64 x.f1, .int .i64 x.f2, .int .u8 x.f3] := by
  obtain ⟨_, _, rfl, rfl, ⟨_, _, rfl, rfl, ⟨_, _, rfl, rfl, rfl⟩⟩⟩ := h; exact rfl
theorem k66_openM {w : World} {base : Nat} {ok : Nat → Prop} {x : S66} {cs : List Value} (h : k66.M w base ok x cs) : cs = [.int .i64 x.f0, .int .i64 x.f1, .int .i64 x.f2, .int .u8 x.f3] := by
  obtain ⟨_, _, rfl, rfl, ⟨_, _, rfl, rfl, ⟨_, _, rfl, rfl, rfl⟩⟩⟩ := h; exact rfl
theorem k66_mk (w : World) (x : S66)  : k66.K w x [.int .i64 x.f0, .int .i64 x.f1, .int .i64 x.f2, .int .u8 x.f3] := ⟨[.int .i64 x.f0], [.int .i64 x.f1, .int .i64 x.f2, .int .u8 x.f3], rfl, rfl, ⟨[.int .i64 x.f1], [.int .i64 x.f2, .int .u8 x.f3], rfl, rfl, ⟨[.int .i64 x.f2], [.int .u8 x.f3], rfl, rfl, rfl⟩⟩⟩
theorem k66_mkM (w : World) (base : Nat) (ok : Nat → Prop) (x : S66)  : k66.M w base ok x [.int .i64 x.f0, .int .i64 x.f1, .int .i64 x.f2, .int .u8 x.f3] := ⟨[.int .i64 x.f0], [.int .i64 x.f1, .int .i64 x.f2, .int .u8 x.f3], rfl, rfl, ⟨[.int .i64 x.f1], [.int .i64 x.f2, .int .u8 x.f3], rfl, rfl, ⟨[.int .i64 x.f2], [.int .u8 x.f3], rfl, rfl, rfl⟩⟩⟩
def rd_T66 (xs : List S66) (i : Int) : S66 := xs.getD i.toNat z66
theorem at_T66 {w : World} {A : Option Addr} {n : Nat} {xs : List S66} (h : Kd.C k66 w A n xs) (i : Int) (h0 : 0 ≤ i) (h1 : i < n) : ∃ ad , A = some ad ∧ w.cell? (ad.add (i.toNat * 4)) = some (.int .i64 (rd_T66 xs i).f0) ∧ w.cell? ⟨(ad.add (i.toNat * 4)).block, (ad.add (i.toNat * 4)).off + 1, none⟩ = some (.int .i64 (rd_T66 xs i).f1) ∧ w.cell? ⟨(ad.add (i.toNat * 4)).block, (ad.add (i.toNat * 4)).off + 2, none⟩ = some (.int .i64 (rd_T66 xs i).f2) ∧ w.cell? ⟨(ad.add (i.toNat * 4)).block, (ad.add (i.toNat * 4)).off + 3, none⟩ = some (.int .u8 (rd_T66 xs i).f3) := by
  obtain ⟨ad, c, e, _, hK, hc0⟩ := Kd.C_get h z66 i h0 h1; have hc : ∀ j u, c[j]? = some u → w.cell? (ad.add (i.toNat * 4 + j)) = some u := hc0
  obtain rfl := k66_open hK
  exact ⟨ad, e, hc 0 _ rfl, by rw [← add_field _ _ 1 (by omega)]; exact hc 1 _ rfl, by rw [← add_field _ _ 2 (by omega)]; exact hc 2 _ rfl, by rw [← add_field _ _ 3 (by omega)]; exact hc 3 _ rfl⟩
structure S54 where
  f0 : Int
  f1 : Int
  f2 : Int
  f3 : Int
def z54 : S54 := ⟨(0 : Int), (0 : Int), (0 : Int), (0 : Int)⟩
def k54 : Kd S54 := Kd.iso (Kd.pair (Kd.int .i64) (Kd.pair (Kd.int .i64) (Kd.pair (Kd.int .i64) (Kd.int .u8)))) (fun x : S54 => (x.f0, x.f1, x.f2, x.f3))
theorem k54_open {w : World} {x : S54} {cs : List Value} (h : k54.K w x cs) : cs = [.int .i64 x.f0, .int .i64 x.f1, .int .i64 x.f2, .int .u8 x.f3] := by
  obtain ⟨_, _, rfl, rfl, ⟨_, _, rfl, rfl, ⟨_, _, rfl, rfl, rfl⟩⟩⟩ := h; exact rfl
theorem k54_openM {w : World} {base : Nat} {ok : Nat → Prop} {x : S54} {cs : List Value} (h : k54.M w base ok x cs) : cs = [.int .i64 x.f0, .int .i64 x.f1, .int .i64 x.f2, .int .u8 x.f3] := by
  obtain ⟨_, _, rfl, rfl, ⟨_, _, rfl, rfl, ⟨_, _, rfl, rfl, rfl⟩⟩⟩ := h; exact rfl
theorem k54_mk (w : World) (x : S54)  : k54.K w x [.int .i64 x.f0, .int .i64 x.f1, .int .i64 x.f2, .int .u8 x.f3] := ⟨[.int .i64 x.f0], [.int .i64 x.f1, .int .i64 x.f2, .int .u8 x.f3], rfl, rfl, ⟨[.int .i64 x.f1], [.int .i64 x.f2, .int .u8 x.f3], rfl, rfl, ⟨[.int .i64 x.f2], [.int .u8 x.f3], rfl, rfl, rfl⟩⟩⟩
theorem k54_mkM (w : World) (base : Nat) (ok : Nat → Prop) (x : S54)  : k54.M w base ok x [.int .i64 x.f0, .int .i64 x.f1, .int .i64 x.f2, .int .u8 x.f3] := ⟨[.int .i64 x.f0], [.int .i64 x.f1, .int .i64 x.f2, .int .u8 x.f3], rfl, rfl, ⟨[.int .i64 x.f1], [.int .i64 x.f2, .int .u8 x.f3], rfl, rfl, ⟨[.int .i64 x.f2], [.int .u8 x.f3], rfl, rfl, rfl⟩⟩⟩
def rd_T54 (xs : List S54) (i : Int) : S54 := xs.getD i.toNat z54
theorem at_T54 {w : World} {A : Option Addr} {n : Nat} {xs : List S54} (h : Kd.C k54 w A n xs) (i : Int) (h0 : 0 ≤ i) (h1 : i < n) : ∃ ad , A = some ad ∧ w.cell? (ad.add (i.toNat * 4)) = some (.int .i64 (rd_T54 xs i).f0) ∧ w.cell? ⟨(ad.add (i.toNat * 4)).block, (ad.add (i.toNat * 4)).off + 1, none⟩ = some (.int .i64 (rd_T54 xs i).f1) ∧ w.cell? ⟨(ad.add (i.toNat * 4)).block, (ad.add (i.toNat * 4)).off + 2, none⟩ = some (.int .i64 (rd_T54 xs i).f2) ∧ w.cell? ⟨(ad.add (i.toNat * 4)).block, (ad.add (i.toNat * 4)).off + 3, none⟩ = some (.int .u8 (rd_T54 xs i).f3) := by
  obtain ⟨ad, c, e, _, hK, hc0⟩ := Kd.C_get h z54 i h0 h1; have hc : ∀ j u, c[j]? = some u → w.cell? (ad.add (i.toNat * 4 + j)) = some u := hc0
  obtain rfl := k54_open hK
  exact ⟨ad, e, hc 0 _ rfl, by rw [← add_field _ _ 1 (by omega)]; exact hc 1 _ rfl, by rw [← add_field _ _ 2 (by omega)]; exact hc 2 _ rfl, by rw [← add_field _ _ 3 (by omega)]; exact hc 3 _ rfl⟩
structure S70 where
  f0 : Int
  f1 : Int
def z70 : S70 := ⟨(0 : Int), (0 : Int)⟩
def k70 : Kd S70 := Kd.iso (Kd.pair (Kd.int .i64) (Kd.int .i64)) (fun x : S70 => (x.f0, x.f1))
theorem k70_open {w : World} {x : S70} {cs : List Value} (h : k70.K w x cs) : cs = [.int .i64 x.f0, .int .i64 x.f1] := by
  obtain ⟨_, _, rfl, rfl, rfl⟩ := h; exact rfl
theorem k70_openM {w : World} {base : Nat} {ok : Nat → Prop} {x : S70} {cs : List Value} (h : k70.M w base ok x cs) : cs = [.int .i64 x.f0, .int .i64 x.f1] := by
  obtain ⟨_, _, rfl, rfl, rfl⟩ := h; exact rfl
theorem k70_mk (w : World) (x : S70)  : k70.K w x [.int .i64 x.f0, .int .i64 x.f1] := ⟨[.int .i64 x.f0], [.int .i64 x.f1], rfl, rfl, rfl⟩
theorem k70_mkM (w : World) (base : Nat) (ok : Nat → Prop) (x : S70)  : k70.M w base ok x [.int .i64 x.f0, .int .i64 x.f1] := ⟨[.int .i64 x.f0], [.int .i64 x.f1], rfl, rfl, rfl⟩
def rd_T70 (xs : List S70) (i : Int) : S70 := xs.getD i.toNat z70
theorem at_T70 {w : World} {A : Option Addr} {n : Nat} {xs : List S70} (h : Kd.C k70 w A n xs) (i : Int) (h0 : 0 ≤ i) (h1 : i < n) : ∃ ad , A = some ad ∧ w.cell? (ad.add (i.toNat * 2)) = some (.int .i64 (rd_T70 xs i).f0) ∧ w.cell? ⟨(ad.add (i.toNat * 2)).block, (ad.add (i.toNat * 2)).off + 1, none⟩ = some (.int .i64 (rd_T70 xs i).f1) := by
  obtain ⟨ad, c, e, _, hK, hc0⟩ := Kd.C_get h z70 i h0 h1; have hc : ∀ j u, c[j]? = some u → w.cell? (ad.add (i.toNat * 2 + j)) = some u := hc0
  obtain rfl := k70_open hK
  exact ⟨ad, e, hc 0 _ rfl, by rw [← add_field _ _ 1 (by omega)]; exact hc 1 _ rfl⟩
structure S53 where
  f0 : Int
  f1 : Int
  f2 : Int
  f3 : Int
def z53 : S53 := ⟨(0 : Int), (0 : Int), (0 : Int), (0 : Int)⟩
def k53 : Kd S53 := Kd.iso (Kd.pair (Kd.int .i64) (Kd.pair (Kd.int .i64) (Kd.pair (Kd.int .i64) (Kd.int .u8)))) (fun x : S53 => (x.f0, x.f1, x.f2, x.f3))
theorem k53_open {w : World} {x : S53} {cs : List Value} (h : k53.K w x cs) : cs = [.int .i64 x.f0, .int .i64 x.f1, .int .i64 x.f2, .int .u8 x.f3] := by
  obtain ⟨_, _, rfl, rfl, ⟨_, _, rfl, rfl, ⟨_, _, rfl, rfl, rfl⟩⟩⟩ := h; exact rfl
theorem k53_openM {w : World} {base : Nat} {ok : Nat → Prop} {x : S53} {cs : List Value} (h : k53.M w base ok x cs) : cs = [.int .i64 x.f0, .int .i64 x.f1, .int .i64 x.f2, .int .u8 x.f3] := by
  obtain ⟨_, _, rfl, rfl, ⟨_, _, rfl, rfl, ⟨_, _, rfl, rfl, rfl⟩⟩⟩ := h; exact rfl
theorem k53_mk (w : World) (x : S53)  : k53.K w x [.int .i64 x.f0, .int .i64 x.f1, .int .i64 x.f2, .int .u8 x.f3] := ⟨[.int .i64 x.f0], [.int .i64 x.f1, .int .i64 x.f2, .int .u8 x.f3], rfl, rfl, ⟨[.int .i64 x.f1], [.int .i64 x.f2, .int .u8 x.f3], rfl, rfl, ⟨[.int .i64 x.f2], [.int .u8 x.f3], rfl, rfl, rfl⟩⟩⟩
theorem k53_mkM (w : World) (base : Nat) (ok : Nat → Prop) (x : S53)  : k53.M w base ok x [.int .i64 x.f0, .int .i64 x.f1, .int .i64 x.f2, .int .u8 x.f3] := ⟨[.int .i64 x.f0], [.int .i64 x.f1, .int .i64 x.f2, .int .u8 x.f3], rfl, rfl, ⟨[.int .i64 x.f1], [.int .i64 x.f2, .int .u8 x.f3], rfl, rfl, ⟨[.int .i64 x.f2], [.int .u8 x.f3], rfl, rfl, rfl⟩⟩⟩
def rd_T53 (xs : List S53) (i : Int) : S53 := xs.getD i.toNat z53
theorem at_T53 {w : World} {A : Option Addr} {n : Nat} {xs : List S53} (h : Kd.C k53 w A n xs) (i : Int) (h0 : 0 ≤ i) (h1 : i < n) : ∃ ad , A = some ad ∧ w.cell? (ad.add (i.toNat * 4)) = some (.int .i64 (rd_T53 xs i).f0) ∧ w.cell? ⟨(ad.add (i.toNat * 4)).block, (ad.add (i.toNat * 4)).off + 1, none⟩ = some (.int .i64 (rd_T53 xs i).f1) ∧ w.cell? ⟨(ad.add (i.toNat * 4)).block, (ad.add (i.toNat * 4)).off + 2, none⟩ = some (.int .i64 (rd_T53 xs i).f2) ∧ w.cell? ⟨(ad.add (i.toNat * 4)).block, (ad.add (i.toNat * 4)).off + 3, none⟩ = some (.int .u8 (rd_T53 xs i).f3) := by
  obtain ⟨ad, c, e, _, hK, hc0⟩ := Kd.C_get h z53 i h0 h1; have hc : ∀ j u, c[j]? = some u → w.cell? (ad.add (i.toNat * 4 + j)) = some u := hc0
  obtain rfl := k53_open hK
  exact ⟨ad, e, hc 0 _ rfl, by rw [← add_field _ _ 1 (by omega)]; exact hc 1 _ rfl, by rw [← add_field _ _ 2 (by omega)]; exact hc 2 _ rfl, by rw [← add_field _ _ 3 (by omega)]; exact hc 3 _ rfl⟩
def rd_L7 (xs : List (List S63)) (i : Int) : (List S63) := xs.getD i.toNat ([] : List S63)
theorem at_L7 {w : World} {A : Option Addr} {n : Nat} {xs : List (List S63)} (h : Kd.C (Kd.slice 63 k63) w A n xs) (i : Int) (h0 : 0 ≤ i) (h1 : i < n) : ∃ ad A0 c0, A = some ad ∧ w.cell? (ad.add i.toNat) = some (.slice A0 (rd_L7 xs i).length c0) ∧ (rd_L7 xs i).length ≤ c0 ∧ k63.C w A0 (rd_L7 xs i).length (rd_L7 xs i) := by
  obtain ⟨ad, c, e, _, hK, hc0⟩ := Kd.C_get h ([] : List S63) i h0 h1; have hc : ∀ j u, c[j]? = some u → w.cell? (ad.add (i.toNat * 1 + j)) = some u := hc0
  obtain ⟨A0, c0, rfl, l0, g0⟩ := hK; exact ⟨ad, A0, c0, e, by have hq := hc 0 _ rfl; rwa [Nat.mul_one, Nat.add_zero] at hq, l0, g0⟩
structure S26 where
  f0 : Int
  f1 : Int
  f2 : Int
  f3 : Int
  f4 : Int
  f5 : Nat
def z26 : S26 := ⟨(0 : Int), (0 : Int), (0 : Int), (0 : Int), (0 : Int), (0 : Nat)⟩
def k26 : Kd S26 := Kd.iso (Kd.pair (Kd.int .u8) (Kd.pair (Kd.int .u8) (Kd.pair (Kd.int .u8) (Kd.pair (Kd.int .u16) (Kd.pair (Kd.int .u16) Kd.f64))))) (fun x : S26 => (x.f0, x.f1, x.f2, x.f3, x.f4, x.f5))
theorem k26_open {w : World} {x : S26} {cs : List Value} (h : k26.K w x cs) : cs = [.int .u8 x.f0, .int .u8 x.f1, .int .u8 x.f2, .int .u16 x.f3, .int .u16 x.f4, .float .f64 x.f5] := by
  obtain ⟨_, _, rfl, rfl, ⟨_, _, rfl, rfl, ⟨_, _, rfl, rfl, ⟨_, _, rfl, rfl, ⟨_, _, rfl, rfl, rfl⟩⟩⟩⟩⟩ := h; exact rfl
theorem k26_openM {w : World} {base : Nat} {ok : Nat → Prop} {x : S26} {cs : List Value} (h : k26.M w base ok x cs) : cs = [.int .u8 x.f0, .int .u8 x.f1, .int .u8 x.f2, .int .u16 x.f3, .int .u16 x.f4, .float .f64 x.f5] := by
  obtain ⟨_, _, rfl, rfl, ⟨_, _, rfl, rfl, ⟨_, _, rfl, rfl, ⟨_, _, rfl, rfl, ⟨_, _, rfl, rfl, rfl⟩⟩⟩⟩⟩ := h; exact rfl
theorem k26_mk (w : World) (x : S26)  : k26.K w x [.int .u8 x.f0, .int .u8 x.f1, .int .u8 x.f2, .int .u16 x.f3, .int .u16 x.f4, .float .f64 x.f5] := ⟨[.int .u8 x.f0], [.int .u8 x.f1, .int .u8 x.f2, .int .u16 x.f3, .int .u16 x.f4, .float .f64 x.f5], rfl, rfl, ⟨[.int .u8 x.f1], [.int .u8 x.f2, .int .u16 x.f3, .int .u16 x.f4, .float .f64 x.f5], rfl, rfl, ⟨[.int .u8 x.f2], [.int .u16 x.f3, .int .u16 x.f4, .float .f64 x.f5], rfl, rfl, ⟨[.int .u16 x.f3], [.int .u16 x.f4, .float .f64 x.f5], rfl, rfl, ⟨[.int .u16 x.f4], [.float .f64 x.f5], rfl, rfl, rfl⟩⟩⟩⟩⟩
theorem k26_mkM (w : World) (base : Nat) (ok : Nat → Prop) (x : S26)  : k26.M w base ok x [.int .u8 x.f0, .int .u8 x.f1, .int .u8 x.f2, .int .u16 x.f3, .int .u16 x.f4, .float .f64 x.f5] := ⟨[.int .u8 x.f0], [.int .u8 x.f1, .int .u8 x.f2, .int .u16 x.f3, .int .u16 x.f4, .float .f64 x.f5], rfl, rfl, ⟨[.int .u8 x.f1], [.int .u8 x.f2, .int .u16 x.f3, .int .u16 x.f4, .float .f64 x.f5], rfl, rfl, ⟨[.int .u8 x.f2], [.int .u16 x.f3, .int .u16 x.f4, .float .f64 x.f5], rfl, rfl, ⟨[.int .u16 x.f3], [.int .u16 x.f4, .float .f64 x.f5], rfl, rfl, ⟨[.int .u16 x.f4], [.float .f64 x.f5], rfl, rfl, rfl⟩⟩⟩⟩⟩
def rd_T26 (xs : List S26) (i : Int) : S26 := xs.getD i.toNat z26
theorem at_T26 {w : World} {A : Option Addr} {n : Nat} {xs : List S26} (h : Kd.C k26 w A n xs) (i : Int) (h0 : 0 ≤ i) (h1 : i < n) : ∃ ad , A = some ad ∧ w.cell? (ad.add (i.toNat * 6)) = some (.int .u8 (rd_T26 xs i).f0) ∧ w.cell? ⟨(ad.add (i.toNat * 6)).block, (ad.add (i.toNat * 6)).off + 1, none⟩ = some (.int .u8 (rd_T26 xs i).f1) ∧ w.cell? ⟨(ad.add (i.toNat * 6)).block, (ad.add (i.toNat * 6)).off + 2, none⟩ = some (.int .u8 (rd_T26 xs i).f2) ∧ w.cell? ⟨(ad.add (i.toNat * 6)).block, (ad.add (i.toNat * 6)).off + 3, none⟩ = some (.int .u16 (rd_T26 xs i).f3) ∧ w.cell? ⟨(ad.add (i.toNat * 6)).block, (ad.add (i.toNat * 6)).off + 4, none⟩ = some (.int .u16 (rd_T26 xs i).f4) ∧ w.cell? ⟨(ad.add (i.toNat * 6)).block, (ad.add (i.toNat * 6)).off + 5, none⟩ = some (.float .f64 (rd_T26 xs i).f5) := by
  obtain ⟨ad, c, e, _, hK, hc0⟩ := Kd.C_get h z26 i h0 h1; have hc : ∀ j u, c[j]? = some u → w.cell? (ad.add (i.toNat * 6 + j)) = some u := hc0
  obtain rfl := k26_open hK
  exact ⟨ad, e, hc 0 _ rfl, by rw [← add_field _ _ 1 (by omega)]; exact hc 1 _ rfl, by rw [← add_field _ _ 2 (by omega)]; exact hc 2 _ rfl, by rw [← add_field _ _ 3 (by omega)]; exact hc 3 _ rfl, by rw [← add_field _ _ 4 (by omega)]; exact hc 4 _ rfl, by rw [← add_field _ _ 5 (by omega)]; exact hc 5 _ rfl⟩
def rd_L11 (xs : List (List Int)) (i : Int) : (List Int) := xs.getD i.toNat ([] : List Int)
theorem at_L11 {w : World} {A : Option Addr} {n : Nat} {xs : List (List Int)} (h : Kd.C (Kd.slice 3 (Kd.int .i64)) w A n xs) (i : Int) (h0 : 0 ≤ i) (h1 : i < n) : ∃ ad A0 c0, A = some ad ∧ w.cell? (ad.add i.toNat) = some (.slice A0 (rd_L11 xs i).length c0) ∧ (rd_L11 xs i).length ≤ c0 ∧ (Kd.int .i64).C w A0 (rd_L11 xs i).length (rd_L11 xs i) := by
  obtain ⟨ad, c, e, _, hK, hc0⟩ := Kd.C_get h ([] : List Int) i h0 h1; have hc : ∀ j u, c[j]? = some u → w.cell? (ad.add (i.toNat * 1 + j)) = some u := hc0
  obtain ⟨A0, c0, rfl, l0, g0⟩ := hK; exact ⟨ad, A0, c0, e, by have hq := hc 0 _ rfl; rwa [Nat.mul_one, Nat.add_zero] at hq, l0, g0⟩
mutual
def h3_Para.j1 : Nat → List (S63) → List (S66) → Option ((List (S66)) × List Int)
  | 0, _, _ => none
  | k + 1, x0, x103000 => h3_Para.l1 k x0 0 x103000 ([] : List Int)
def h3_Para.l1 : Nat → List (S63) → Int → List (S66) → List Int → Option ((List (S66)) × List Int)
  | 0, _, _, _, _ => none
  | k + 1, x0, x8, x103000, x103001 => if x8 < (x103000.length : Int) then (if x8 > 0 then (if 0 ≤ (wrap64 (x8 - 1)) then (if (wrap64 (x8 - 1)) < (x0.length : Int) then (if x103001.length < 140737488355328 then (h3_Para.l1 k x0 (wrap64 (x8 + 1)) x103000 (x103001 ++ [Int.tmod ((rd_T63 x0 (wrap64 (x8 - 1))).f3) 4])) else (none)) else (none)) else (none)) else (if x103001.length < 140737488355328 then (h3_Para.l1 k x0 (wrap64 (x8 + 1)) x103000 (x103001 ++ [0])) else (none))) else (if x103001.length < 140737488355328 then (some (x103000, (x103001 ++ [2]))) else (none))
def h3_Para.l0 : Nat → List (S63) → Int → Int → List (S66) → Option ((List (S66)) × List Int)
  | 0, _, _, _, _ => none
  | k + 1, x0, x4, x5, x103000 => if x5 < (x0.length : Int) then (if x4 < 4000 then (if 0 ≤ x5 then (if x103000.length < 4398046511104 then (h3_Para.l0 k x0 (wrap64 (x4 + (wrap64 (1 + (wrap64 (Int.tmod ((rd_T63 x0 x5).f2) 4)))))) (wrap64 (x5 + 1)) (x103000 ++ [(⟨x4, wrap64 (1 + (wrap64 (Int.tmod ((rd_T63 x0 x5).f2) 4))), wrap64 (Int.tmod ((rd_T63 x0 x5).f0) 3), Int.tmod ((rd_T63 x0 x5).f1) 3⟩ : S66)])) else (none)) else (none)) else (h3_Para.j1 k x0 x103000)) else (h3_Para.j1 k x0 x103000)
end
def h3_Para.f (k : Nat) (l0 : List (S63)) : Option ((List (S66)) × List Int) := h3_Para.l0 k l0 0 0 ([] : List (S66))
theorem h3_Para.mono_l : ∀ k, (∀ y0 y1, LeO (h3_Para.j1 k y0 y1) (h3_Para.j1 (k + 1) y0 y1)) ∧ (∀ y0 y1 y2 y3, LeO (h3_Para.l1 k y0 y1 y2 y3) (h3_Para.l1 (k + 1) y0 y1 y2 y3)) ∧ (∀ y0 y1 y2 y3, LeO (h3_Para.l0 k y0 y1 y2 y3) (h3_Para.l0 (k + 1) y0 y1 y2 y3))
  | 0 => ⟨fun _ _ r h => by simp [h3_Para.j1] at h, fun _ _ _ _ r h => by simp [h3_Para.l1] at h, fun _ _ _ _ r h => by simp [h3_Para.l0] at h⟩
  | k + 1 => by
    obtain ⟨ih0, ih1, ih2⟩ := h3_Para.mono_l k; refine ⟨?_, ?_, ?_⟩
    · intro y0 y1
      unfold h3_Para.j1
      repeat' (with_reducible first | exact ih0 _ _ | exact ih1 _ _ _ _ | exact ih2 _ _ _ _ | exact LeO.refl _ | exact LeO.none _ | refine LeO.ite ?_ ?_ | refine LeO.bind ?_ (fun _ => ?_))
    · intro y0 y1 y2 y3
      unfold h3_Para.l1
      repeat' (with_reducible first | exact ih0 _ _ | exact ih1 _ _ _ _ | exact ih2 _ _ _ _ | exact LeO.refl _ | exact LeO.none _ | refine LeO.ite ?_ ?_ | refine LeO.bind ?_ (fun _ => ?_))
    · intro y0 y1 y2 y3
      unfold h3_Para.l0
      repeat' (with_reducible first | exact ih0 _ _ | exact ih1 _ _ _ _ | exact ih2 _ _ _ _ | exact LeO.refl _ | exact LeO.none _ | refine LeO.ite ?_ ?_ | refine LeO.bind ?_ (fun _ => ?_))
theorem h3_Para.mono : ∀ a0 k, LeO (h3_Para.f k a0) (h3_Para.f (k + 1) a0) := by
  intro a0 k
  obtain ⟨ih0, ih1, ih2⟩ := h3_Para.mono_l k; unfold h3_Para.f
  repeat' (with_reducible first | exact ih0 _ _ | exact ih1 _ _ _ _ | exact ih2 _ _ _ _ | exact LeO.refl _ | exact LeO.none _ | refine LeO.ite ?_ ?_ | refine LeO.bind ?_ (fun _ => ?_))
set_option maxHeartbeats 8000000 in
set_option maxRecDepth 100000 in
theorem h3_Para.calls (k : Nat) (A0 : Option Addr) (c0 : Nat) (l0 : List (S63)) (r1 : List (S66)) (r2 : List Int) (w : World) (hr0 : Kd.C k63 w A0 l0.length l0) (hc0 : l0.length ≤ c0) (h : h3_Para.f k l0 = some (r1, r2)) :
    Calls Try.prog 10 #[.slice A0 l0.length c0] w fun e w' => ∃ v0_ v1_ : Value, e = .returned (.agg #[v0_, v1_]) ∧ Kd.R k66 66 w' w.heap.size (fun _ => True) v0_ r1 ∧ Kd.R (Kd.int .u8) 51 w' w.heap.size (fun _ => True) v1_ r2 ∧ Below w.heap.size w w' := by
  have hu31 := Try.underlying31; have hu63 := Try.underlying63; have hu66 := Try.underlying66; have HR0 := zD.mk hr0; have HC0 := zD.mk hc0; clear hr0 hc0; have HB := zD.mk (Below.refl w.heap.size w); have H : (h3_Para.l0 k l0 0 0 ([] : List (S66))) = some (r1, r2) := h
  clear h; have HC2 := zD.mk H; clear H; go_enter Try.func10, Try.ntmps10
  go_upto_block 0 with (first | ((with_reducible refine gate_dst (N := 2) rfl ?_); refine box_event ?hg (N := 2) ?hd (cs := #[.slice none 0 0, .slice none 0 0]) (t := 31) ?hr ?_; (case hd => rfl); (case hg => rfl); (case hr => first | (go_simp; done) | (go_simp; rfl)); intro gb101 hg w3 hbox hb; have n0_ := zD.mk (zM (by repeat (first | (with_reducible first | exact HB.out | apply zJ | apply zH | apply zI) | exact HB.out)) hb); have n1_ := zD.mk (hbox); have n2_ := zD.mk ((by rw [hg]; exact (zO (by repeat (first | (with_reducible first | exact HB.out | apply zJ | apply zH | apply zI) | exact HB.out))) : w.heap.size ≤ gb101)); have n3_ := n2_; clear HB; have HB := n0_; have BK101 := n1_; have GW101 := n2_; have GE101 := n3_; clear n0_ n1_ n2_ n3_; clear hb hbox hg) | ((with_reducible refine gate_dst (N := 3) rfl ?_); refine box_event ?hg (N := 3) ?hd (cs := #[.slice none 0 0, .slice none 0 0]) (t := 31) ?hr ?_; (case hd => rfl); (case hg => rfl); (case hr => first | (go_simp; done) | (go_simp; rfl)); intro gb102 hg w4 hbox hb; have n0_ := zD.mk (zK (by (with_reducible repeat (first | refine zB ?_ _ | refine zC ?_ | refine zA ?_ _)); exact BK101.out) hb); have n1_ := zD.mk (zM (by repeat (first | (with_reducible first | exact HB.out | apply zJ | apply zH | apply zI | refine zF ?_ GE101.out) | exact HB.out)) hb); have n2_ := zD.mk (hbox); have n3_ := zD.mk ((by rw [hg]; exact (zO (by repeat (first | (with_reducible first | exact HB.out | apply zJ | apply zH | apply zI | refine zF ?_ GE101.out) | exact HB.out))) : w.heap.size ≤ gb102)); have n4_ := n3_; have n5_ := zD.mk ((by rw [hg]; exact Nat.ne_of_lt (blk_lt (by (with_reducible repeat (first | refine zB ?_ _ | refine zC ?_ | refine zA ?_ _)); exact BK101.out)) : gb101 ≠ gb102)); have n6_ := zD.mk n5_.out.symm; clear BK101; clear HB; have BK101 := n0_; have HB := n1_; have BK102 := n2_; have GW102 := n3_; have GE102 := n4_; have NB101_102 := n5_; have NB102_101 := n6_; clear n0_ n1_ n2_ n3_ n4_ n5_ n6_; clear hb hbox hg; have hnb5 := NB102_101.out; have hnc5 := NB101_102.out; have hcz6_0 : w4.cell? ⟨gb102, 0, none⟩ = some (.slice none 0 0) := (zE BK102.out 0).trans rfl; have hcz6_1 : w4.cell? ⟨gb102, 1, none⟩ = some (.slice none 0 0) := (zE BK102.out 1).trans rfl; have hfz6_0 := zG BK102.out 0; have hfz6_1 := zG BK102.out 1) | ((with_reducible refine gate_store (t := 31) (p := 3) rfl ?_); refine store_event (t := 31) (p := 3) (v := ?vo_w7) (w1 := ((w4.setCell ⟨gb102, 0, none⟩ (.slice none 0 0)).setCell ⟨gb102, 1, none⟩ (.slice none 0 0))) ?hg ?ho ?hn ?hr ?_; (case ho => rfl); (case hg => rfl); (case hn => rfl); (case hr => first | (go_simp; done) | (go_simp; rfl)); intro w7 hw; have n0_ : zD (w7.heap[gb101]? = some (.cells #[.slice none 0 0, .slice none 0 0] 31 (0, 0))) := ⟨(by rw [hw]; exact (by (with_reducible repeat (first | refine zB ?_ _ | refine zC ?_ | refine zA ?_ _)); refine zL ?_ NB101_102.out _; (with_reducible repeat (first | refine zB ?_ _ | refine zC ?_ | refine zA ?_ _)); refine zL ?_ NB101_102.out _; (with_reducible repeat (first | refine zB ?_ _ | refine zC ?_ | refine zA ?_ _)); exact BK101.out))⟩; have n1_ : zD (w7.heap[gb102]? = some (.cells #[.slice none 0 0, .slice none 0 0] 31 (0, 0))) := ⟨(by rw [hw]; exact (by (with_reducible repeat (first | refine zB ?_ _ | refine zC ?_ | refine zA ?_ _)); refine blk_put (cs := #[.slice none 0 0, .slice none 0 0]) ?_ 1 _ rfl; (with_reducible repeat (first | refine zB ?_ _ | refine zC ?_ | refine zA ?_ _)); refine blk_put (cs := #[.slice none 0 0, .slice none 0 0]) ?_ 0 _ rfl; (with_reducible repeat (first | refine zB ?_ _ | refine zC ?_ | refine zA ?_ _)); exact BK102.out))⟩; have n2_ : zD (Below w.heap.size w w7) := ⟨(by rw [hw]; exact (by repeat (first | (with_reducible first | exact HB.out | apply zJ | apply zH | apply zI | refine zF ?_ GE101.out | refine zF ?_ GE102.out) | exact HB.out)))⟩; clear hw; clear BK101; clear BK102; clear HB; have BK101 := n0_; have BK102 := n1_; have HB := n2_; clear n0_ n1_ n2_))
  (try simp only [Act.put, sA_, sB_, sC_])
  go_cut [] (fun wc => ∃ (kq : Nat) (x103000_1 : List (S66)) (u103000 : Value), zD (h3_Para.j1 kq l0 x103000_1 = some (r1, r2)) ∧ zD (kq ≤ k) ∧ zD (Kd.R k66 66 wc w.heap.size (fun _ => True) u103000 x103000_1) ∧ zD (wc.heap[gb101]? = some (.cells #[(.slice none 0 0), (.slice none 0 0)] 31 (0, 0))) ∧ zD (wc.heap[gb102]? = some (.cells #[u103000, (.slice none 0 0)] 31 (0, 0))) ∧ zD (Below w.heap.size w wc))
  case first =>
    have H := HC2.out; clear HC2; have H' := zD.mk H
    clear H; go_wp2
    go_loopg [4, 5] k (fun kq v4 v5 w' => ∃ (x4_1 : Int) (x5_1 : Int) (x103000_1 : List (S66)) (u103000 : Value), v4 = .int .i64 x4_1 ∧ v5 = .int .i64 x5_1 ∧ zD (h3_Para.l0 kq l0 x4_1 x5_1 x103000_1 = some (r1, r2)) ∧ zD (kq ≤ k) ∧ zD (Kd.R k66 66 w' w.heap.size (fun _ => True) u103000 x103000_1) ∧ zD (w'.heap[gb101]? = some (.cells #[(.slice none 0 0), (.slice none 0 0)] 31 (0, 0))) ∧ zD (w'.heap[gb102]? = some (.cells #[u103000, (.slice none 0 0)] 31 (0, 0))) ∧ zD (Below w.heap.size w w'))
    case atStart => exact ⟨(0), (0), (([] : List (S66))), (.slice none 0 0), (by first | rfl | (simp; done) | (simp [*]; done)), (by first | rfl | (simp; done) | (simp [*]; done)), H', ⟨Nat.le_refl _⟩, ⟨by first | exact Kd.R_nil _ _ _ _ _ | exact Kd.N_nil _ _ _ _ _ | exact Kd.V_nil _ _ _ _ _ | exact Kd.Q_nil _ _ _ _ _ | exact Kd.S_nil _ _ _ _ _⟩, ⟨by (with_reducible repeat (first | refine zB ?_ _ | refine zC ?_ | refine zA ?_ _)); exact BK101.out⟩, ⟨by (with_reducible repeat (first | refine zB ?_ _ | refine zC ?_ | refine zA ?_ _)); exact BK102.out⟩, ⟨by repeat (first | (with_reducible first | exact HB.out | apply zJ | apply zH | apply zI | refine zF ?_ GE101.out | refine zF ?_ GE102.out) | exact HB.out)⟩⟩
    clear H'; obtain ⟨x4_1, x5_1, x103000_1, u103000, rfl, rfl, HA, HK1, HO_103000, BK101, BK102, HB⟩ := hrel; cases gk with
    | zero => exact absurd HA.out (by simp [h3_Para.l0])
    | succ k1 =>
      have H := HA.out; clear HA; simp only [h3_Para.l0] at H; by_cases c8 : x5_1 < (l0.length : Int)
      rotate_left
      · rw [if_neg c8] at H
        have c8b0 : decide (x5_1 < (l0.length : Int)) = false := decide_eq_false c8
        clear c8; (first | rw [c8b0] | (simp only [i64_w, i32_w]; rw [c8b0]) | skip)
        have H' := zD.mk H
        clear H; go_wp2
        go_meet
        case rel => exact ⟨_, (x103000_1), (u103000), H', ⟨by have := HK1.out; first | omega | exact Nat.le_refl _⟩, ⟨by (with_reducible repeat (first | apply Kd.zP | apply Kd.zQ | apply Kd.zR)); exact HO_103000.out⟩, ⟨by (with_reducible repeat (first | refine zB ?_ _ | refine zC ?_ | refine zA ?_ _)); exact BK101.out⟩, ⟨by (with_reducible repeat (first | refine zB ?_ _ | refine zC ?_ | refine zA ?_ _)); exact BK102.out⟩, ⟨by repeat (first | (with_reducible first | exact HB.out | apply zJ | apply zH | apply zI | refine zF ?_ GE101.out | refine zF ?_ GE102.out) | exact HB.out)⟩⟩
      rw [if_pos c8] at H; have c8b0 : decide (x5_1 < (l0.length : Int)) = true := decide_eq_true c8
      clear c8; (first | rw [c8b0] | (simp only [i64_w, i32_w]; rw [c8b0]) | skip)
      by_cases c9 : x4_1 < 4000
      rotate_left
      · rw [if_neg c9] at H
        have c9b0 : decide (x4_1 < 4000) = false := decide_eq_false c9
        clear c9; have H' := zD.mk H
        clear H; go_wp2
        go_meet
        case rel => exact ⟨_, (x103000_1), (u103000), H', ⟨by have := HK1.out; first | omega | exact Nat.le_refl _⟩, ⟨by (with_reducible repeat (first | apply Kd.zP | apply Kd.zQ | apply Kd.zR)); exact HO_103000.out⟩, ⟨by (with_reducible repeat (first | refine zB ?_ _ | refine zC ?_ | refine zA ?_ _)); exact BK101.out⟩, ⟨by (with_reducible repeat (first | refine zB ?_ _ | refine zC ?_ | refine zA ?_ _)); exact BK102.out⟩, ⟨by repeat (first | (with_reducible first | exact HB.out | apply zJ | apply zH | apply zI | refine zF ?_ GE101.out | refine zF ?_ GE102.out) | exact HB.out)⟩⟩
      rw [if_pos c9] at H; have c9b0 : decide (x4_1 < 4000) = true := decide_eq_true c9
      clear c9; by_cases c10 : 0 ≤ x5_1
      rotate_left
      · rw [if_neg c10] at H
        exact absurd H (by simp)
      rw [if_pos c10] at H; have c10b0 : decide (0 ≤ x5_1) = true := decide_eq_true c10
      clear c10; by_cases c11 : x103000_1.length < 4398046511104
      rotate_left
      · rw [if_neg c11] at H
        exact absurd H (by simp)
      rw [if_pos c11] at H; have LMc11 := zD.mk c11; clear c11; obtain ⟨y106, hy106⟩ : ∃ y_ : List (S66), y_ = (x103000_1 ++ [(⟨x4_1, wrap64 (1 + (wrap64 (Int.tmod ((rd_T63 l0 x5_1).f2) 4))), wrap64 (Int.tmod ((rd_T63 l0 x5_1).f0) 3), Int.tmod ((rd_T63 l0 x5_1).f1) 3⟩ : S66)]) := ⟨_, rfl⟩; replace H : (h3_Para.l0 k1 l0 (wrap64 (x4_1 + (wrap64 (1 + (wrap64 (Int.tmod ((rd_T63 l0 x5_1).f2) 4)))))) (wrap64 (x5_1 + 1)) y106) = some (r1, r2) := by first | (rw [hy106]; with_reducible exact H) | (have H2_ := (Option.bind_some _ _).symm.trans H; rw [hy106]; with_reducible exact H2_) | (have H2_ := (Option.bind_some _ _).symm.trans H; with_reducible exact H2_) | with_reducible exact H | (rw [hy106]; exact H) | exact H
      have Ny106 := zD.mk hy106; clear hy106; have H' := zD.mk H
      clear H; have p103 : 0 ≤ (x5_1 : Int) := of_decide_eq_true (by first | (with_reducible assumption) | assumption)
      have q103 : x5_1 < (l0.length : Int) := of_decide_eq_true (by first | (with_reducible assumption) | assumption)
      obtain ⟨ad103, e103, hx103_0, hx103_1, hx103_2, hx103_3⟩ := at_T63 HR0.out x5_1 p103 q103; cases e103
      replace hx103_0 := (HB.out.cell (World.block_lt_of_cell? w _ hx103_0)).trans hx103_0; replace hx103_1 := (HB.out.cell (World.block_lt_of_cell? w _ hx103_1)).trans hx103_1; replace hx103_2 := (HB.out.cell (World.block_lt_of_cell? w _ hx103_2)).trans hx103_2; replace hx103_3 := (HB.out.cell (World.block_lt_of_cell? w _ hx103_3)).trans hx103_3; replace p103 := eq_true p103; replace q103 := eq_true q103; go_wp2_with (first | ((with_reducible refine gate_dst (N := 6) rfl ?_); refine box_event ?hg (N := 6) ?hd (cs := #[.int .u8 0, .int .u8 0, .int .u8 0, .int .u8 0]) (t := 63) ?hr ?_; (case hd => rfl); (case hg => rfl); (case hr => first | (go_simp; done) | (go_simp; rfl)); intro gb104 hg w12 hbox hb; have n0_ := zD.mk (Kd.zX (by (with_reducible repeat (first | apply Kd.zP | apply Kd.zQ | apply Kd.zR)); exact HO_103000.out) hb); have n1_ := zD.mk (zK (by (with_reducible repeat (first | refine zB ?_ _ | refine zC ?_ | refine zA ?_ _)); exact BK101.out) hb); have n2_ := zD.mk (zK (by (with_reducible repeat (first | refine zB ?_ _ | refine zC ?_ | refine zA ?_ _)); exact BK102.out) hb); have n3_ := zD.mk (zM (by repeat (first | (with_reducible first | exact HB.out | apply zJ | apply zH | apply zI | refine zF ?_ GE101.out | refine zF ?_ GE102.out) | exact HB.out)) hb); have n4_ := zD.mk (hbox); have n5_ := zD.mk ((by rw [hg]; exact (zO (by repeat (first | (with_reducible first | exact HB.out | apply zJ | apply zH | apply zI | refine zF ?_ GE101.out | refine zF ?_ GE102.out) | exact HB.out))) : w.heap.size ≤ gb104)); have n6_ := n5_; have n7_ := zD.mk ((by rw [hg]; exact Nat.ne_of_lt (blk_lt (by (with_reducible repeat (first | refine zB ?_ _ | refine zC ?_ | refine zA ?_ _)); exact BK101.out)) : gb101 ≠ gb104)); have n8_ := zD.mk n7_.out.symm; have n9_ := zD.mk ((by rw [hg]; exact Nat.ne_of_lt (blk_lt (by (with_reducible repeat (first | refine zB ?_ _ | refine zC ?_ | refine zA ?_ _)); exact BK102.out)) : gb102 ≠ gb104)); have n10_ := zD.mk n9_.out.symm; clear HO_103000; clear BK101; clear BK102; clear HB; have HO_103000 := n0_; have BK101 := n1_; have BK102 := n2_; have HB := n3_; have BK104 := n4_; have GW104 := n5_; have GE104 := n6_; have NB101_104 := n7_; have NB104_101 := n8_; have NB102_104 := n9_; have NB104_102 := n10_; clear n0_ n1_ n2_ n3_ n4_ n5_ n6_ n7_ n8_ n9_ n10_; clear hb hbox hg; have hnb13 := NB104_101.out; have hnc13 := NB101_104.out; have hnb14 := NB104_102.out; have hnc14 := NB102_104.out; have hcz15_0 : w12.cell? ⟨gb104, 0, none⟩ = some (.int .u8 0) := (zE BK104.out 0).trans rfl; have hcz15_1 : w12.cell? ⟨gb104, 1, none⟩ = some (.int .u8 0) := (zE BK104.out 1).trans rfl; have hcz15_2 : w12.cell? ⟨gb104, 2, none⟩ = some (.int .u8 0) := (zE BK104.out 2).trans rfl; have hcz15_3 : w12.cell? ⟨gb104, 3, none⟩ = some (.int .u8 0) := (zE BK104.out 3).trans rfl; have hfz15_0 := zG BK104.out 0; have hfz15_1 := zG BK104.out 1; have hfz15_2 := zG BK104.out 2; have hfz15_3 := zG BK104.out 3) | ((with_reducible refine gate_store (t := 63) (p := 6) rfl ?_); refine store_event (t := 63) (p := 6) (v := ?vo_w16) (w1 := ((((w12.setCell ⟨gb104, 0, none⟩ (.int .u8 ((rd_T63 l0 x5_1).f0))).setCell ⟨gb104, 1, none⟩ (.int .u8 ((rd_T63 l0 x5_1).f1))).setCell ⟨gb104, 2, none⟩ (.int .u8 ((rd_T63 l0 x5_1).f2))).setCell ⟨gb104, 3, none⟩ (.int .u8 ((rd_T63 l0 x5_1).f3)))) ?hg ?ho ?hn ?hr ?_; (case ho => rfl); (case hg => rfl); (case hn => rfl); (case hr => first | (go_simp; done) | (go_simp; rfl)); intro w16 hw; have n0_ : zD (Kd.R k66 66 w16 w.heap.size (fun _ => True) u103000 x103000_1) := ⟨(by rw [hw]; exact (by (with_reducible repeat (first | apply Kd.zP | apply Kd.zQ | apply Kd.zR)); exact Kd.zAb (Kd.zY (p := ⟨gb104, 3, none⟩) (Kd.zY (p := ⟨gb104, 2, none⟩) (Kd.zY (p := ⟨gb104, 1, none⟩) (Kd.zY (p := ⟨gb104, 0, none⟩) (Kd.zAc HO_103000.out BK104.out (by decide)) (fun _ hk => hk.2) (.int .u8 ((rd_T63 l0 x5_1).f0))) (fun _ hk => hk.2) (.int .u8 ((rd_T63 l0 x5_1).f1))) (fun _ hk => hk.2) (.int .u8 ((rd_T63 l0 x5_1).f2))) (fun _ hk => hk.2) (.int .u8 ((rd_T63 l0 x5_1).f3))) (fun _ hk => trivial)))⟩; have n1_ : zD (w16.heap[gb101]? = some (.cells #[.slice none 0 0, .slice none 0 0] 31 (0, 0))) := ⟨(by rw [hw]; exact (by (with_reducible repeat (first | refine zB ?_ _ | refine zC ?_ | refine zA ?_ _)); refine zL ?_ NB101_104.out _; (with_reducible repeat (first | refine zB ?_ _ | refine zC ?_ | refine zA ?_ _)); refine zL ?_ NB101_104.out _; (with_reducible repeat (first | refine zB ?_ _ | refine zC ?_ | refine zA ?_ _)); refine zL ?_ NB101_104.out _; (with_reducible repeat (first | refine zB ?_ _ | refine zC ?_ | refine zA ?_ _)); refine zL ?_ NB101_104.out _; (with_reducible repeat (first | refine zB ?_ _ | refine zC ?_ | refine zA ?_ _)); exact BK101.out))⟩; have n2_ : zD (w16.heap[gb102]? = some (.cells #[u103000, .slice none 0 0] 31 (0, 0))) := ⟨(by rw [hw]; exact (by (with_reducible repeat (first | refine zB ?_ _ | refine zC ?_ | refine zA ?_ _)); refine zL ?_ NB102_104.out _; (with_reducible repeat (first | refine zB ?_ _ | refine zC ?_ | refine zA ?_ _)); refine zL ?_ NB102_104.out _; (with_reducible repeat (first | refine zB ?_ _ | refine zC ?_ | refine zA ?_ _)); refine zL ?_ NB102_104.out _; (with_reducible repeat (first | refine zB ?_ _ | refine zC ?_ | refine zA ?_ _)); refine zL ?_ NB102_104.out _; (with_reducible repeat (first | refine zB ?_ _ | refine zC ?_ | refine zA ?_ _)); exact BK102.out))⟩; have n3_ : zD (w16.heap[gb104]? = some (.cells #[.int .u8 ((rd_T63 l0 x5_1).f0), .int .u8 ((rd_T63 l0 x5_1).f1), .int .u8 ((rd_T63 l0 x5_1).f2), .int .u8 ((rd_T63 l0 x5_1).f3)] 63 (0, 0))) := ⟨(by rw [hw]; exact (by (with_reducible repeat (first | refine zB ?_ _ | refine zC ?_ | refine zA ?_ _)); refine blk_put (cs := #[.int .u8 ((rd_T63 l0 x5_1).f0), .int .u8 ((rd_T63 l0 x5_1).f1), .int .u8 ((rd_T63 l0 x5_1).f2), .int .u8 0]) ?_ 3 _ rfl; (with_reducible repeat (first | refine zB ?_ _ | refine zC ?_ | refine zA ?_ _)); refine blk_put (cs := #[.int .u8 ((rd_T63 l0 x5_1).f0), .int .u8 ((rd_T63 l0 x5_1).f1), .int .u8 0, .int .u8 0]) ?_ 2 _ rfl; (with_reducible repeat (first | refine zB ?_ _ | refine zC ?_ | refine zA ?_ _)); refine blk_put (cs := #[.int .u8 ((rd_T63 l0 x5_1).f0), .int .u8 0, .int .u8 0, .int .u8 0]) ?_ 1 _ rfl; (with_reducible repeat (first | refine zB ?_ _ | refine zC ?_ | refine zA ?_ _)); refine blk_put (cs := #[.int .u8 0, .int .u8 0, .int .u8 0, .int .u8 0]) ?_ 0 _ rfl; (with_reducible repeat (first | refine zB ?_ _ | refine zC ?_ | refine zA ?_ _)); exact BK104.out))⟩; have n4_ : zD (Below w.heap.size w w16) := ⟨(by rw [hw]; exact (by repeat (first | (with_reducible first | exact HB.out | apply zJ | apply zH | apply zI | refine zF ?_ GE101.out | refine zF ?_ GE102.out | refine zF ?_ GE104.out) | exact HB.out)))⟩; clear hw; clear HO_103000; clear BK101; clear BK102; clear BK104; clear HB; have HO_103000 := n0_; have BK101 := n1_; have BK102 := n2_; have BK104 := n3_; have HB := n4_; clear n0_ n1_ n2_ n3_ n4_; have hcz17_0 : w16.cell? ⟨gb104, 0, none⟩ = some (.int .u8 ((rd_T63 l0 x5_1).f0)) := (zE BK104.out 0).trans rfl; have hcz17_1 : w16.cell? ⟨gb104, 1, none⟩ = some (.int .u8 ((rd_T63 l0 x5_1).f1)) := (zE BK104.out 1).trans rfl; have hcz17_2 : w16.cell? ⟨gb104, 2, none⟩ = some (.int .u8 ((rd_T63 l0 x5_1).f2)) := (zE BK104.out 2).trans rfl; have hcz17_3 : w16.cell? ⟨gb104, 3, none⟩ = some (.int .u8 ((rd_T63 l0 x5_1).f3)) := (zE BK104.out 3).trans rfl; have hfz17_0 := zG BK104.out 0; have hfz17_1 := zG BK104.out 1; have hfz17_2 := zG BK104.out 2; have hfz17_3 := zG BK104.out 3) | ((with_reducible refine gate_dst (N := 7) rfl ?_); refine box_event ?hg (N := 7) ?hd (cs := #[.int .i64 0, .int .i64 0, .int .i64 0, .int .u8 0]) (t := 66) ?hr ?_; (case hd => rfl); (case hg => rfl); (case hr => first | (go_simp; done) | (go_simp; rfl)); intro gb105 hg w18 hbox hb; have n0_ := zD.mk (Kd.zX (Kd.R_elderB (by (with_reducible repeat (first | apply Kd.zP | apply Kd.zQ | apply Kd.zR)); exact HO_103000.out) gb105 (Nat.le_of_eq hg.symm)) hb); have n1_ := zD.mk (zK (by (with_reducible repeat (first | refine zB ?_ _ | refine zC ?_ | refine zA ?_ _)); exact BK101.out) hb); have n2_ := zD.mk (zK (by (with_reducible repeat (first | refine zB ?_ _ | refine zC ?_ | refine zA ?_ _)); exact BK102.out) hb); have n3_ := zD.mk (zK (by (with_reducible repeat (first | refine zB ?_ _ | refine zC ?_ | refine zA ?_ _)); exact BK104.out) hb); have n4_ := zD.mk (zM (by repeat (first | (with_reducible first | exact HB.out | apply zJ | apply zH | apply zI | refine zF ?_ GE101.out | refine zF ?_ GE102.out | refine zF ?_ GE104.out) | exact HB.out)) hb); have n5_ := zD.mk (hbox); have n6_ := zD.mk ((by rw [hg]; exact (zO (by repeat (first | (with_reducible first | exact HB.out | apply zJ | apply zH | apply zI | refine zF ?_ GE101.out | refine zF ?_ GE102.out | refine zF ?_ GE104.out) | exact HB.out))) : w.heap.size ≤ gb105)); have n7_ := n6_; have n8_ := zD.mk ((by rw [hg]; exact Nat.ne_of_lt (blk_lt (by (with_reducible repeat (first | refine zB ?_ _ | refine zC ?_ | refine zA ?_ _)); exact BK101.out)) : gb101 ≠ gb105)); have n9_ := zD.mk n8_.out.symm; have n10_ := zD.mk ((by rw [hg]; exact Nat.ne_of_lt (blk_lt (by (with_reducible repeat (first | refine zB ?_ _ | refine zC ?_ | refine zA ?_ _)); exact BK102.out)) : gb102 ≠ gb105)); have n11_ := zD.mk n10_.out.symm; have n12_ := zD.mk ((by rw [hg]; exact Nat.ne_of_lt (blk_lt (by (with_reducible repeat (first | refine zB ?_ _ | refine zC ?_ | refine zA ?_ _)); exact BK104.out)) : gb104 ≠ gb105)); have n13_ := zD.mk n12_.out.symm; clear HO_103000; clear BK101; clear BK102; clear BK104; clear HB; have HO_103000 := n0_; have BK101 := n1_; have BK102 := n2_; have BK104 := n3_; have HB := n4_; have BK105 := n5_; have GW105 := n6_; have GE105 := n7_; have NB101_105 := n8_; have NB105_101 := n9_; have NB102_105 := n10_; have NB105_102 := n11_; have NB104_105 := n12_; have NB105_104 := n13_; clear n0_ n1_ n2_ n3_ n4_ n5_ n6_ n7_ n8_ n9_ n10_ n11_ n12_ n13_; clear hb hbox hg; have hnb19 := NB105_101.out; have hnc19 := NB101_105.out; have hnb20 := NB105_102.out; have hnc20 := NB102_105.out; have hnb21 := NB105_104.out; have hnc21 := NB104_105.out; have hcz22_0 : w18.cell? ⟨gb105, 0, none⟩ = some (.int .i64 0) := (zE BK105.out 0).trans rfl; have hcz22_1 : w18.cell? ⟨gb105, 1, none⟩ = some (.int .i64 0) := (zE BK105.out 1).trans rfl; have hcz22_2 : w18.cell? ⟨gb105, 2, none⟩ = some (.int .i64 0) := (zE BK105.out 2).trans rfl; have hcz22_3 : w18.cell? ⟨gb105, 3, none⟩ = some (.int .u8 0) := (zE BK105.out 3).trans rfl; have hfz22_0 := zG BK105.out 0; have hfz22_1 := zG BK105.out 1; have hfz22_2 := zG BK105.out 2; have hfz22_3 := zG BK105.out 3) | ((with_reducible refine gate_store (t := 66) (p := 7) rfl ?_); refine store_event (t := 66) (p := 7) (v := ?vo_w23) (w1 := ((((w18.setCell ⟨gb105, 0, none⟩ (.int .i64 x4_1)).setCell ⟨gb105, 1, none⟩ (.int .i64 (wrap64 (1 + (wrap64 (Int.tmod ((rd_T63 l0 x5_1).f2) 4)))))).setCell ⟨gb105, 2, none⟩ (.int .i64 (wrap64 (Int.tmod ((rd_T63 l0 x5_1).f0) 3)))).setCell ⟨gb105, 3, none⟩ (.int .u8 (Int.tmod ((rd_T63 l0 x5_1).f1) 3)))) ?hg ?ho ?hn ?hr ?_; (case ho => rfl); (case hg => rfl); (case hn => rfl); (case hr => first | (go_simp; done) | (go_simp; rfl)); intro w23 hw; have n0_ : zD (Kd.R k66 66 w23 w.heap.size (fun k_ => k_ ≠ gb105) u103000 x103000_1) := ⟨(by rw [hw]; exact (by (with_reducible repeat (first | apply Kd.zP | apply Kd.zQ | apply Kd.zR)); exact Kd.zAb (Kd.zY (p := ⟨gb105, 3, none⟩) (Kd.zY (p := ⟨gb105, 2, none⟩) (Kd.zY (p := ⟨gb105, 1, none⟩) (Kd.zY (p := ⟨gb105, 0, none⟩) (Kd.zAb HO_103000.out (fun k_ hk => (⟨hk, hk.2⟩ : _ ∧ k_ ≠ gb105))) (fun _ hk => hk.2) (.int .i64 x4_1)) (fun _ hk => hk.2) (.int .i64 (wrap64 (1 + (wrap64 (Int.tmod ((rd_T63 l0 x5_1).f2) 4)))))) (fun _ hk => hk.2) (.int .i64 (wrap64 (Int.tmod ((rd_T63 l0 x5_1).f0) 3)))) (fun _ hk => hk.2) (.int .u8 (Int.tmod ((rd_T63 l0 x5_1).f1) 3))) (fun _ hk => hk.1.2)))⟩; have n1_ : zD (w23.heap[gb101]? = some (.cells #[.slice none 0 0, .slice none 0 0] 31 (0, 0))) := ⟨(by rw [hw]; exact (by (with_reducible repeat (first | refine zB ?_ _ | refine zC ?_ | refine zA ?_ _)); refine zL ?_ NB101_105.out _; (with_reducible repeat (first | refine zB ?_ _ | refine zC ?_ | refine zA ?_ _)); refine zL ?_ NB101_105.out _; (with_reducible repeat (first | refine zB ?_ _ | refine zC ?_ | refine zA ?_ _)); refine zL ?_ NB101_105.out _; (with_reducible repeat (first | refine zB ?_ _ | refine zC ?_ | refine zA ?_ _)); refine zL ?_ NB101_105.out _; (with_reducible repeat (first | refine zB ?_ _ | refine zC ?_ | refine zA ?_ _)); exact BK101.out))⟩; have n2_ : zD (w23.heap[gb102]? = some (.cells #[u103000, .slice none 0 0] 31 (0, 0))) := ⟨(by rw [hw]; exact (by (with_reducible repeat (first | refine zB ?_ _ | refine zC ?_ | refine zA ?_ _)); refine zL ?_ NB102_105.out _; (with_reducible repeat (first | refine zB ?_ _ | refine zC ?_ | refine zA ?_ _)); refine zL ?_ NB102_105.out _; (with_reducible repeat (first | refine zB ?_ _ | refine zC ?_ | refine zA ?_ _)); refine zL ?_ NB102_105.out _; (with_reducible repeat (first | refine zB ?_ _ | refine zC ?_ | refine zA ?_ _)); refine zL ?_ NB102_105.out _; (with_reducible repeat (first | refine zB ?_ _ | refine zC ?_ | refine zA ?_ _)); exact BK102.out))⟩; have n3_ : zD (w23.heap[gb104]? = some (.cells #[.int .u8 ((rd_T63 l0 x5_1).f0), .int .u8 ((rd_T63 l0 x5_1).f1), .int .u8 ((rd_T63 l0 x5_1).f2), .int .u8 ((rd_T63 l0 x5_1).f3)] 63 (0, 0))) := ⟨(by rw [hw]; exact (by (with_reducible repeat (first | refine zB ?_ _ | refine zC ?_ | refine zA ?_ _)); refine zL ?_ NB104_105.out _; (with_reducible repeat (first | refine zB ?_ _ | refine zC ?_ | refine zA ?_ _)); refine zL ?_ NB104_105.out _; (with_reducible repeat (first | refine zB ?_ _ | refine zC ?_ | refine zA ?_ _)); refine zL ?_ NB104_105.out _; (with_reducible repeat (first | refine zB ?_ _ | refine zC ?_ | refine zA ?_ _)); refine zL ?_ NB104_105.out _; (with_reducible repeat (first | refine zB ?_ _ | refine zC ?_ | refine zA ?_ _)); exact BK104.out))⟩; have n4_ : zD (w23.heap[gb105]? = some (.cells #[.int .i64 x4_1, .int .i64 (wrap64 (1 + (wrap64 (Int.tmod ((rd_T63 l0 x5_1).f2) 4)))), .int .i64 (wrap64 (Int.tmod ((rd_T63 l0 x5_1).f0) 3)), .int .u8 (Int.tmod ((rd_T63 l0 x5_1).f1) 3)] 66 (0, 0))) := ⟨(by rw [hw]; exact (by (with_reducible repeat (first | refine zB ?_ _ | refine zC ?_ | refine zA ?_ _)); refine blk_put (cs := #[.int .i64 x4_1, .int .i64 (wrap64 (1 + (wrap64 (Int.tmod ((rd_T63 l0 x5_1).f2) 4)))), .int .i64 (wrap64 (Int.tmod ((rd_T63 l0 x5_1).f0) 3)), .int .u8 0]) ?_ 3 _ rfl; (with_reducible repeat (first | refine zB ?_ _ | refine zC ?_ | refine zA ?_ _)); refine blk_put (cs := #[.int .i64 x4_1, .int .i64 (wrap64 (1 + (wrap64 (Int.tmod ((rd_T63 l0 x5_1).f2) 4)))), .int .i64 0, .int .u8 0]) ?_ 2 _ rfl; (with_reducible repeat (first | refine zB ?_ _ | refine zC ?_ | refine zA ?_ _)); refine blk_put (cs := #[.int .i64 x4_1, .int .i64 0, .int .i64 0, .int .u8 0]) ?_ 1 _ rfl; (with_reducible repeat (first | refine zB ?_ _ | refine zC ?_ | refine zA ?_ _)); refine blk_put (cs := #[.int .i64 0, .int .i64 0, .int .i64 0, .int .u8 0]) ?_ 0 _ rfl; (with_reducible repeat (first | refine zB ?_ _ | refine zC ?_ | refine zA ?_ _)); exact BK105.out))⟩; have n5_ : zD (Below w.heap.size w w23) := ⟨(by rw [hw]; exact (by repeat (first | (with_reducible first | exact HB.out | apply zJ | apply zH | apply zI | refine zF ?_ GE101.out | refine zF ?_ GE102.out | refine zF ?_ GE104.out | refine zF ?_ GE105.out) | exact HB.out)))⟩; clear hw; clear HO_103000; clear BK101; clear BK102; clear BK104; clear BK105; clear HB; have HO_103000 := n0_; have BK101 := n1_; have BK102 := n2_; have BK104 := n3_; have BK105 := n4_; have HB := n5_; clear n0_ n1_ n2_ n3_ n4_ n5_; have hcz24_0 : w23.cell? ⟨gb105, 0, none⟩ = some (.int .i64 x4_1) := (zE BK105.out 0).trans rfl; have hcz24_1 : w23.cell? ⟨gb105, 1, none⟩ = some (.int .i64 (wrap64 (1 + (wrap64 (Int.tmod ((rd_T63 l0 x5_1).f2) 4))))) := (zE BK105.out 1).trans rfl; have hcz24_2 : w23.cell? ⟨gb105, 2, none⟩ = some (.int .i64 (wrap64 (Int.tmod ((rd_T63 l0 x5_1).f0) 3))) := (zE BK105.out 2).trans rfl; have hcz24_3 : w23.cell? ⟨gb105, 3, none⟩ = some (.int .u8 (Int.tmod ((rd_T63 l0 x5_1).f1) 3)) := (zE BK105.out 3).trans rfl; have hfz24_0 := zG BK105.out 0; have hfz24_1 := zG BK105.out 1; have hfz24_2 := zG BK105.out 2; have hfz24_3 := zG BK105.out 3; have hnb25 := NB102_101.out; have hnc25 := NB101_102.out; have hcz26_0 : w23.cell? ⟨gb102, 0, none⟩ = some (u103000) := (zE BK102.out 0).trans rfl; have hcz26_1 : w23.cell? ⟨gb102, 1, none⟩ = some (.slice none 0 0) := (zE BK102.out 1).trans rfl; have hfz26_0 := zG BK102.out 0; have hfz26_1 := zG BK102.out 1) | ((with_reducible refine gate_builtin (b := .append) (xs := #[.tmp 44, .tmp 46]) rfl ?_); at_builtin; refine Kd.R_append k66 (w0 := w) w.heap.size rfl (.tmp 44) (.tmp 46) 28 66 (.agg #[(.int .i64 0), (.int .i64 0), (.int .i64 0), (.int .u8 0)]) 32 rfl Try.underlying28 info66 rfl (by decide) (by omega) u103000 x103000_1 (⟨x4_1, wrap64 (1 + (wrap64 (Int.tmod ((rd_T63 l0 x5_1).f2) 4))), wrap64 (Int.tmod ((rd_T63 l0 x5_1).f0) 3), Int.tmod ((rd_T63 l0 x5_1).f1) 3⟩ : S66) [.int .i64 x4_1, .int .i64 (wrap64 (1 + (wrap64 (Int.tmod ((rd_T63 l0 x5_1).f2) 4)))), .int .i64 (wrap64 (Int.tmod ((rd_T63 l0 x5_1).f0) 3)), .int .u8 (Int.tmod ((rd_T63 l0 x5_1).f1) 3)] (fun k_ => k_ ≠ gb105) (fun _ => False) rfl rfl ?aP (fun _ hk => hk.elim) ?aF ?aO ?aB ?aS ?aL ?_; (case aP => exact k66_mkM _ _ _ (⟨x4_1, wrap64 (1 + (wrap64 (Int.tmod ((rd_T63 l0 x5_1).f2) 4))), wrap64 (Int.tmod ((rd_T63 l0 x5_1).f0) 3), Int.tmod ((rd_T63 l0 x5_1).f1) 3⟩ : S66)); (case aB => exact (by repeat (first | (with_reducible first | exact HB.out | apply zJ | apply zH | apply zI | refine zF ?_ GE101.out | refine zF ?_ GE102.out | refine zF ?_ GE104.out | refine zF ?_ GE105.out) | exact HB.out))); (case aF => exact (fun k_ hk => Kd.freshB (g := gb105) (o := .cells #[.int .i64 x4_1, .int .i64 (wrap64 (1 + (wrap64 (Int.tmod ((rd_T63 l0 x5_1).f2) 4)))), .int .i64 (wrap64 (Int.tmod ((rd_T63 l0 x5_1).f0) 3)), .int .u8 (Int.tmod ((rd_T63 l0 x5_1).f1) 3)] 66 (0, 0)) (by (with_reducible repeat (first | refine zB ?_ _ | refine zC ?_ | refine zA ?_ _)); exact BK105.out) k_ hk)); (case aO => exact (by (with_reducible repeat (first | apply Kd.zP | apply Kd.zQ | apply Kd.zR)); exact HO_103000.out)); (case aS => exact (zO (by repeat (first | (with_reducible first | exact HB.out | apply zJ | apply zH | apply zI | refine zF ?_ GE101.out | refine zF ?_ GE102.out | refine zF ?_ GE104.out | refine zF ?_ GE105.out) | exact HB.out)))); (case aL => have := LMc11.out; omega); intro v107 w27 ho hb hg hat; rw [← Ny106.out] at ho; replace BK101 := zD.mk (blk_grown (g := gb101) (o := .cells #[.slice none 0 0, .slice none 0 0] 31 (0, 0)) (by (with_reducible repeat (first | refine zB ?_ _ | refine zC ?_ | refine zA ?_ _)); exact BK101.out) hg (Kd.R_ne HO_103000.out BK101.out (by decide))); replace BK102 := zD.mk (blk_grown (g := gb102) (o := .cells #[u103000, .slice none 0 0] 31 (0, 0)) (by (with_reducible repeat (first | refine zB ?_ _ | refine zC ?_ | refine zA ?_ _)); exact BK102.out) hg (Kd.R_ne HO_103000.out BK102.out (by decide))); replace BK104 := zD.mk (blk_grown (g := gb104) (o := .cells #[.int .u8 ((rd_T63 l0 x5_1).f0), .int .u8 ((rd_T63 l0 x5_1).f1), .int .u8 ((rd_T63 l0 x5_1).f2), .int .u8 ((rd_T63 l0 x5_1).f3)] 63 (0, 0)) (by (with_reducible repeat (first | refine zB ?_ _ | refine zC ?_ | refine zA ?_ _)); exact BK104.out) hg (Kd.R_ne HO_103000.out BK104.out (by decide))); replace BK105 := zD.mk (blk_grown (g := gb105) (o := .cells #[.int .i64 x4_1, .int .i64 (wrap64 (1 + (wrap64 (Int.tmod ((rd_T63 l0 x5_1).f2) 4)))), .int .i64 (wrap64 (Int.tmod ((rd_T63 l0 x5_1).f0) 3)), .int .u8 (Int.tmod ((rd_T63 l0 x5_1).f1) 3)] 66 (0, 0)) (by (with_reducible repeat (first | refine zB ?_ _ | refine zC ?_ | refine zA ?_ _)); exact BK105.out) hg (Kd.R_away HO_103000.out (fun _ hk => hk))); replace HB := zD.mk (hb); have HO108 := zD.mk (ho); clear HO_103000; clear ho hb hg hat; obtain ⟨Ao28, co28, eo28⟩ := Kd.zZ HO108.out; subst eo28; have hcz29_0 : w27.cell? ⟨gb102, 0, none⟩ = some (u103000) := (zE BK102.out 0).trans rfl; have hcz29_1 : w27.cell? ⟨gb102, 1, none⟩ = some (.slice none 0 0) := (zE BK102.out 1).trans rfl; have hfz29_0 := zG BK102.out 0; have hfz29_1 := zG BK102.out 1))
      go_roundg k1
      case measure => have := HK1.out; omega
      case rel => exact ⟨(wrap64 (x4_1 + (wrap64 (1 + (wrap64 (Int.tmod ((rd_T63 l0 x5_1).f2) 4)))))), (wrap64 (x5_1 + 1)), (y106), (.slice Ao28 y106.length co28), (by first | rfl | (simp; done) | (simp [*]; done)), (by first | rfl | (simp; done) | (simp [*]; done)), H', ⟨by have := HK1.out; omega⟩, ⟨by (with_reducible repeat (first | apply Kd.zP | apply Kd.zQ | apply Kd.zR)); exact Kd.zAb (Kd.zY (p := ⟨gb102, 0, none⟩) (Kd.zAc HO108.out BK102.out (by decide)) (fun _ hk => hk.2) (.slice Ao28 y106.length co28)) (fun _ hk => trivial)⟩, ⟨by (with_reducible repeat (first | refine zB ?_ _ | refine zC ?_ | refine zA ?_ _)); refine zL ?_ NB101_102.out _; (with_reducible repeat (first | refine zB ?_ _ | refine zC ?_ | refine zA ?_ _)); exact BK101.out⟩, ⟨by (with_reducible repeat (first | refine zB ?_ _ | refine zC ?_ | refine zA ?_ _)); refine blk_put (cs := #[u103000, .slice none 0 0]) ?_ 0 _ rfl; (with_reducible repeat (first | refine zB ?_ _ | refine zC ?_ | refine zA ?_ _)); exact BK102.out⟩, ⟨by repeat (first | (with_reducible first | exact HB.out | apply zJ | apply zH | apply zI | refine zF ?_ GE101.out | refine zF ?_ GE102.out | refine zF ?_ GE104.out | refine zF ?_ GE105.out) | exact HB.out)⟩⟩
  clear HC2; obtain ⟨kq, x103000_1, u103000, HA, HJ1, HO_103000, BK101, BK102, HB⟩ := hcut; cases kq with
  | zero => exact absurd HA.out (by simp [h3_Para.j1])
  | succ kj1 =>
    have H := HA.out; clear HA; simp only [h3_Para.j1] at H; have H' := zD.mk H
    clear H; go_wp2
    go_loopg [8] kj1 (fun kq v8 w' => ∃ (x8_2 : Int) (x103001_2 : List Int) (u103001 : Value), v8 = .int .i64 x8_2 ∧ zD (h3_Para.l1 kq l0 x8_2 x103000_1 x103001_2 = some (r1, r2)) ∧ zD (kq ≤ kj1) ∧ zD (Kd.R k66 66 w' w.heap.size (fun _ => True) u103000 x103000_1) ∧ zD (Kd.R (Kd.int .u8) 51 w' w.heap.size (fun _ => True) u103001 x103001_2) ∧ zD (w'.heap[gb101]? = some (.cells #[(.slice none 0 0), (.slice none 0 0)] 31 (0, 0))) ∧ zD (w'.heap[gb102]? = some (.cells #[u103000, u103001] 31 (0, 0))) ∧ zD (Below w.heap.size w w'))
    case atStart => exact ⟨(0), (([] : List Int)), (.slice none 0 0), (by first | rfl | (simp; done) | (simp [*]; done)), H', ⟨Nat.le_refl _⟩, ⟨by (with_reducible repeat (first | apply Kd.zP | apply Kd.zQ | apply Kd.zR)); exact HO_103000.out⟩, ⟨by first | exact Kd.R_nil _ _ _ _ _ | exact Kd.N_nil _ _ _ _ _ | exact Kd.V_nil _ _ _ _ _ | exact Kd.Q_nil _ _ _ _ _ | exact Kd.S_nil _ _ _ _ _⟩, ⟨by (with_reducible repeat (first | refine zB ?_ _ | refine zC ?_ | refine zA ?_ _)); exact BK101.out⟩, ⟨by (with_reducible repeat (first | refine zB ?_ _ | refine zC ?_ | refine zA ?_ _)); exact BK102.out⟩, ⟨by repeat (first | (with_reducible first | exact HB.out | apply zJ | apply zH | apply zI | refine zF ?_ GE101.out | refine zF ?_ GE102.out) | exact HB.out)⟩⟩
    clear H'; obtain ⟨x8_2, x103001_2, u103001, rfl, HA, HK2, HO_103000, HO_103001, BK101, BK102, HB⟩ := hrel; cases gk with
    | zero => exact absurd HA.out (by simp [h3_Para.l1])
    | succ k2 =>
      have H := HA.out; clear HA; simp only [h3_Para.l1] at H; by_cases c30 : x8_2 < (x103000_1.length : Int)
      rotate_left
      · rw [if_neg c30] at H
        have c30b0 : decide (x8_2 < (x103000_1.length : Int)) = false := decide_eq_false c30
        clear c30; by_cases c49 : x103001_2.length < 140737488355328
        rotate_left
        · rw [if_neg c49] at H
          exact absurd H (by simp)
        rw [if_pos c49] at H; have LMc49 := zD.mk c49; clear c49; obtain ⟨y116, hy116⟩ : ∃ y_ : List Int, y_ = (x103001_2 ++ [2]) := ⟨_, rfl⟩; replace H : (some (x103000_1, y116)) = some (r1, r2) := by first | (rw [hy116]; with_reducible exact H) | (have H2_ := (Option.bind_some _ _).symm.trans H; rw [hy116]; with_reducible exact H2_) | (have H2_ := (Option.bind_some _ _).symm.trans H; with_reducible exact H2_) | with_reducible exact H | (rw [hy116]; exact H) | exact H
        have Ny116 := zD.mk hy116; clear hy116; simp only [Option.some.injEq, Prod.mk.injEq] at H; obtain ⟨rfl, rfl⟩ := H; have hnb50 := NB102_101.out; have hnc50 := NB101_102.out; have hcz51_0 : wr.cell? ⟨gb102, 0, none⟩ = some (u103000) := (zE BK102.out 0).trans rfl
        have hcz51_1 : wr.cell? ⟨gb102, 1, none⟩ = some (u103001) := (zE BK102.out 1).trans rfl
        have hfz51_0 := zG BK102.out 0; have hfz51_1 := zG BK102.out 1; obtain ⟨Ao52, co52, eo52⟩ := Kd.zZ HO_103000.out; subst eo52; go_wp2_with (first | ((with_reducible refine gate_builtin (b := .append) (xs := #[.tmp 72, .tmp 73]) rfl ?_); at_builtin; refine Kd.R_append (Kd.int .u8) (w0 := w) w.heap.size rfl (.tmp 72) (.tmp 73) 29 51 (.int .u8 0) 1 rfl Try.underlying29 info51 rfl (by decide) (by omega) u103001 x103001_2 2 [.int .u8 2] (fun _ => True) (fun _ => False) rfl rfl ?aP (fun _ hk => hk.elim) ?aF ?aO ?aB ?aS ?aL ?_; (case aP => exact rfl); (case aB => exact (by repeat (first | (with_reducible first | exact HB.out | apply zJ | apply zH | apply zI | refine zF ?_ GE101.out | refine zF ?_ GE102.out) | exact HB.out))); (case aF => exact (fun _ _ => trivial)); (case aO => exact (by (with_reducible repeat (first | apply Kd.zP | apply Kd.zQ | apply Kd.zR)); exact HO_103001.out)); (case aS => exact (zO (by repeat (first | (with_reducible first | exact HB.out | apply zJ | apply zH | apply zI | refine zF ?_ GE101.out | refine zF ?_ GE102.out) | exact HB.out)))); (case aL => have := LMc49.out; omega); intro v117 w53 ho hb hg hat; rw [← Ny116.out] at ho; replace HO_103000 := zD.mk (Kd.R_over' (by (with_reducible repeat (first | apply Kd.zP | apply Kd.zQ | apply Kd.zR)); exact HO_103000.out) (Kd.R_typed (by (with_reducible repeat (first | apply Kd.zP | apply Kd.zQ | apply Kd.zR)); exact HO_103001.out)) (by decide) hg); replace BK101 := zD.mk (blk_grown (g := gb101) (o := .cells #[.slice none 0 0, .slice none 0 0] 31 (0, 0)) (by (with_reducible repeat (first | refine zB ?_ _ | refine zC ?_ | refine zA ?_ _)); exact BK101.out) hg (Kd.R_ne HO_103001.out BK101.out (by decide))); replace BK102 := zD.mk (blk_grown (g := gb102) (o := .cells #[.slice Ao52 x103000_1.length co52, u103001] 31 (0, 0)) (by (with_reducible repeat (first | refine zB ?_ _ | refine zC ?_ | refine zA ?_ _)); exact BK102.out) hg (Kd.R_ne HO_103001.out BK102.out (by decide))); replace HB := zD.mk (hb); have HO118 := zD.mk (ho); clear HO_103001; clear ho hb hg hat; obtain ⟨Ao54, co54, eo54⟩ := Kd.zZ HO118.out; subst eo54; have hcz55_0 : w53.cell? ⟨gb102, 0, none⟩ = some (.slice Ao52 x103000_1.length co52) := (zE BK102.out 0).trans rfl; have hcz55_1 : w53.cell? ⟨gb102, 1, none⟩ = some (u103001) := (zE BK102.out 1).trans rfl; have hfz55_0 := zG BK102.out 0; have hfz55_1 := zG BK102.out 1; have hcz56_0 : w53.cell? ⟨gb101, 0, none⟩ = some (.slice none 0 0) := (zE BK101.out 0).trans rfl; have hcz56_1 : w53.cell? ⟨gb101, 1, none⟩ = some (.slice none 0 0) := (zE BK101.out 1).trans rfl; have hfz56_0 := zG BK101.out 0; have hfz56_1 := zG BK101.out 1) | ((with_reducible refine gate_store (t := 31) (p := 2) rfl ?_); refine store_event (t := 31) (p := 2) (v := ?vo_w57) (w1 := (((w53.setCell ⟨gb102, 1, none⟩ (.slice Ao54 y116.length co54)).setCell ⟨gb101, 0, none⟩ (.slice Ao52 x103000_1.length co52)).setCell ⟨gb101, 1, none⟩ (.slice Ao54 y116.length co54))) ?hg ?ho ?hn ?hr ?_; (case ho => rfl); (case hg => rfl); (case hn => rfl); (case hr => first | (go_simp; done) | (go_simp; rfl)); intro w57 hw; have n0_ : zD (Kd.R k66 66 w57 w.heap.size (fun _ => True) (.slice Ao52 x103000_1.length co52) x103000_1) := ⟨(by rw [hw]; exact (by (with_reducible repeat (first | apply Kd.zP | apply Kd.zQ | apply Kd.zR)); exact Kd.zAb (Kd.zY (p := ⟨gb101, 1, none⟩) (Kd.zY (p := ⟨gb101, 0, none⟩) (Kd.zY (p := ⟨gb102, 1, none⟩) (Kd.zAc (Kd.zAc HO_103000.out BK102.out (by decide)) BK101.out (by decide)) (fun _ hk => hk.1.2) (.slice Ao54 y116.length co54)) (fun _ hk => hk.2) (.slice Ao52 x103000_1.length co52)) (fun _ hk => hk.2) (.slice Ao54 y116.length co54)) (fun _ hk => trivial)))⟩; have n1_ : zD (Kd.R (Kd.int .u8) 51 w57 w.heap.size (fun _ => True) (.slice Ao54 y116.length co54) y116) := ⟨(by rw [hw]; exact (by (with_reducible repeat (first | apply Kd.zP | apply Kd.zQ | apply Kd.zR)); exact Kd.zAb (Kd.zY (p := ⟨gb101, 1, none⟩) (Kd.zY (p := ⟨gb101, 0, none⟩) (Kd.zY (p := ⟨gb102, 1, none⟩) (Kd.zAc (Kd.zAc HO118.out BK102.out (by decide)) BK101.out (by decide)) (fun _ hk => hk.1.2) (.slice Ao54 y116.length co54)) (fun _ hk => hk.2) (.slice Ao52 x103000_1.length co52)) (fun _ hk => hk.2) (.slice Ao54 y116.length co54)) (fun _ hk => trivial)))⟩; have n2_ : zD (w57.heap[gb101]? = some (.cells #[.slice Ao52 x103000_1.length co52, .slice Ao54 y116.length co54] 31 (0, 0))) := ⟨(by rw [hw]; exact (by (with_reducible repeat (first | refine zB ?_ _ | refine zC ?_ | refine zA ?_ _)); refine blk_put (cs := #[.slice Ao52 x103000_1.length co52, .slice none 0 0]) ?_ 1 _ rfl; (with_reducible repeat (first | refine zB ?_ _ | refine zC ?_ | refine zA ?_ _)); refine blk_put (cs := #[.slice none 0 0, .slice none 0 0]) ?_ 0 _ rfl; (with_reducible repeat (first | refine zB ?_ _ | refine zC ?_ | refine zA ?_ _)); refine zL ?_ NB101_102.out _; (with_reducible repeat (first | refine zB ?_ _ | refine zC ?_ | refine zA ?_ _)); exact BK101.out))⟩; have n3_ : zD (w57.heap[gb102]? = some (.cells #[.slice Ao52 x103000_1.length co52, .slice Ao54 y116.length co54] 31 (0, 0))) := ⟨(by rw [hw]; exact (by (with_reducible repeat (first | refine zB ?_ _ | refine zC ?_ | refine zA ?_ _)); refine zL ?_ NB102_101.out _; (with_reducible repeat (first | refine zB ?_ _ | refine zC ?_ | refine zA ?_ _)); refine zL ?_ NB102_101.out _; (with_reducible repeat (first | refine zB ?_ _ | refine zC ?_ | refine zA ?_ _)); refine blk_put (cs := #[.slice Ao52 x103000_1.length co52, u103001]) ?_ 1 _ rfl; (with_reducible repeat (first | refine zB ?_ _ | refine zC ?_ | refine zA ?_ _)); exact BK102.out))⟩; have n4_ : zD (Below w.heap.size w w57) := ⟨(by rw [hw]; exact (by repeat (first | (with_reducible first | exact HB.out | apply zJ | apply zH | apply zI | refine zF ?_ GE101.out | refine zF ?_ GE102.out) | exact HB.out)))⟩; clear hw; clear HO_103000; clear HO118; clear BK101; clear BK102; clear HB; have HO_103000 := n0_; have HO118 := n1_; have BK101 := n2_; have BK102 := n3_; have HB := n4_; clear n0_ n1_ n2_ n3_ n4_))
        refine bodyPost_ret (results_cell_row rfl _ _ gb101 31 #[.slice Ao52 x103000_1.length co52, .slice Ao54 y116.length co54] (0, 0) _ rfl (by (with_reducible repeat (first | refine zB ?_ _ | refine zC ?_ | refine zA ?_ _)); exact BK101.out) Try.underlying31 rfl (by kernel_rfl)) rfl ?_
        exact ⟨_, _, by first | rfl | (simp [errW_none, errW_some] <;> rfl) | (simp [*, errW_none, errW_some] <;> rfl), by (with_reducible repeat (first | apply Kd.zP | apply Kd.zQ | apply Kd.zR)); exact HO_103000.out, by (with_reducible repeat (first | apply Kd.zP | apply Kd.zQ | apply Kd.zR)); exact HO118.out, by repeat (first | (with_reducible first | exact HB.out | apply zJ | apply zH | apply zI | refine zF ?_ GE101.out | refine zF ?_ GE102.out) | exact HB.out)⟩
      rw [if_pos c30] at H; have c30b0 : decide (x8_2 < (x103000_1.length : Int)) = true := decide_eq_true c30
      clear c30; by_cases c31 : x8_2 > 0
      rotate_left
      · rw [if_neg c31] at H
        have c31b0 : decide (0 < x8_2) = false := decide_eq_false c31
        clear c31; by_cases c42 : x103001_2.length < 140737488355328
        rotate_left
        · rw [if_neg c42] at H
          exact absurd H (by simp)
        rw [if_pos c42] at H; have LMc42 := zD.mk c42; clear c42; obtain ⟨y113, hy113⟩ : ∃ y_ : List Int, y_ = (x103001_2 ++ [0]) := ⟨_, rfl⟩; replace H : (h3_Para.l1 k2 l0 (wrap64 (x8_2 + 1)) x103000_1 y113) = some (r1, r2) := by first | (rw [hy113]; with_reducible exact H) | (have H2_ := (Option.bind_some _ _).symm.trans H; rw [hy113]; with_reducible exact H2_) | (have H2_ := (Option.bind_some _ _).symm.trans H; with_reducible exact H2_) | with_reducible exact H | (rw [hy113]; exact H) | exact H
        have Ny113 := zD.mk hy113; clear hy113; have H' := zD.mk H
        clear H; have hnb43 := NB102_101.out; have hnc43 := NB101_102.out; have hcz44_0 : wr.cell? ⟨gb102, 0, none⟩ = some (u103000) := (zE BK102.out 0).trans rfl
        have hcz44_1 : wr.cell? ⟨gb102, 1, none⟩ = some (u103001) := (zE BK102.out 1).trans rfl
        have hfz44_0 := zG BK102.out 0; have hfz44_1 := zG BK102.out 1; obtain ⟨Ao45, co45, eo45⟩ := Kd.zZ HO_103000.out; subst eo45; go_wp2_with (first | ((with_reducible refine gate_builtin (b := .append) (xs := #[.tmp 66, .tmp 68]) rfl ?_); at_builtin; refine Kd.R_append (Kd.int .u8) (w0 := w) w.heap.size rfl (.tmp 66) (.tmp 68) 29 51 (.int .u8 0) 1 rfl Try.underlying29 info51 rfl (by decide) (by omega) u103001 x103001_2 0 [.int .u8 0] (fun _ => True) (fun _ => False) rfl rfl ?aP (fun _ hk => hk.elim) ?aF ?aO ?aB ?aS ?aL ?_; (case aP => exact rfl); (case aB => exact (by repeat (first | (with_reducible first | exact HB.out | apply zJ | apply zH | apply zI | refine zF ?_ GE101.out | refine zF ?_ GE102.out) | exact HB.out))); (case aF => exact (fun _ _ => trivial)); (case aO => exact (by (with_reducible repeat (first | apply Kd.zP | apply Kd.zQ | apply Kd.zR)); exact HO_103001.out)); (case aS => exact (zO (by repeat (first | (with_reducible first | exact HB.out | apply zJ | apply zH | apply zI | refine zF ?_ GE101.out | refine zF ?_ GE102.out) | exact HB.out)))); (case aL => have := LMc42.out; omega); intro v114 w46 ho hb hg hat; rw [← Ny113.out] at ho; replace HO_103000 := zD.mk (Kd.R_over' (by (with_reducible repeat (first | apply Kd.zP | apply Kd.zQ | apply Kd.zR)); exact HO_103000.out) (Kd.R_typed (by (with_reducible repeat (first | apply Kd.zP | apply Kd.zQ | apply Kd.zR)); exact HO_103001.out)) (by decide) hg); replace BK101 := zD.mk (blk_grown (g := gb101) (o := .cells #[.slice none 0 0, .slice none 0 0] 31 (0, 0)) (by (with_reducible repeat (first | refine zB ?_ _ | refine zC ?_ | refine zA ?_ _)); exact BK101.out) hg (Kd.R_ne HO_103001.out BK101.out (by decide))); replace BK102 := zD.mk (blk_grown (g := gb102) (o := .cells #[.slice Ao45 x103000_1.length co45, u103001] 31 (0, 0)) (by (with_reducible repeat (first | refine zB ?_ _ | refine zC ?_ | refine zA ?_ _)); exact BK102.out) hg (Kd.R_ne HO_103001.out BK102.out (by decide))); replace HB := zD.mk (hb); have HO115 := zD.mk (ho); clear HO_103001; clear ho hb hg hat; obtain ⟨Ao47, co47, eo47⟩ := Kd.zZ HO115.out; subst eo47; have hcz48_0 : w46.cell? ⟨gb102, 0, none⟩ = some (.slice Ao45 x103000_1.length co45) := (zE BK102.out 0).trans rfl; have hcz48_1 : w46.cell? ⟨gb102, 1, none⟩ = some (u103001) := (zE BK102.out 1).trans rfl; have hfz48_0 := zG BK102.out 0; have hfz48_1 := zG BK102.out 1))
        go_roundg k2
        case measure => have := HJ1.out; have := HK2.out; omega
        case rel => exact ⟨(wrap64 (x8_2 + 1)), (y113), (.slice Ao47 y113.length co47), (by first | rfl | (simp; done) | (simp [*]; done)), H', ⟨by have := HJ1.out; have := HK2.out; omega⟩, ⟨by (with_reducible repeat (first | apply Kd.zP | apply Kd.zQ | apply Kd.zR)); exact Kd.zAb (Kd.zY (p := ⟨gb102, 1, none⟩) (Kd.zAc HO_103000.out BK102.out (by decide)) (fun _ hk => hk.2) (.slice Ao47 y113.length co47)) (fun _ hk => trivial)⟩, ⟨by (with_reducible repeat (first | apply Kd.zP | apply Kd.zQ | apply Kd.zR)); exact Kd.zAb (Kd.zY (p := ⟨gb102, 1, none⟩) (Kd.zAc HO115.out BK102.out (by decide)) (fun _ hk => hk.2) (.slice Ao47 y113.length co47)) (fun _ hk => trivial)⟩, ⟨by (with_reducible repeat (first | refine zB ?_ _ | refine zC ?_ | refine zA ?_ _)); refine zL ?_ NB101_102.out _; (with_reducible repeat (first | refine zB ?_ _ | refine zC ?_ | refine zA ?_ _)); exact BK101.out⟩, ⟨by (with_reducible repeat (first | refine zB ?_ _ | refine zC ?_ | refine zA ?_ _)); refine blk_put (cs := #[.slice Ao45 x103000_1.length co45, u103001]) ?_ 1 _ rfl; (with_reducible repeat (first | refine zB ?_ _ | refine zC ?_ | refine zA ?_ _)); exact BK102.out⟩, ⟨by repeat (first | (with_reducible first | exact HB.out | apply zJ | apply zH | apply zI | refine zF ?_ GE101.out | refine zF ?_ GE102.out) | exact HB.out)⟩⟩
      rw [if_pos c31] at H; have c31b0 : decide (0 < x8_2) = true := decide_eq_true c31
      clear c31; obtain ⟨ji32, hji32⟩ : ∃ j_ : Int, (wrap64 (x8_2 - 1)) = j_ := ⟨_, rfl⟩; replace H : (if 0 ≤ (ji32) then (if (ji32) < (l0.length : Int) then (if x103001_2.length < 140737488355328 then (h3_Para.l1 k2 l0 (wrap64 (x8_2 + 1)) x103000_1 (x103001_2 ++ [Int.tmod ((rd_T63 l0 (ji32)).f3) 4])) else (none)) else (none)) else (none)) = some (r1, r2) := by first | (rw [hji32] at H; exact H) | (simp only [hji32] at H ⊢; exact H)
      have hji32w : (IntKind.i64.wrap (x8_2 - 1)) = ji32 := (i64_w _).trans hji32
      by_cases c33 : 0 ≤ (ji32)
      rotate_left
      · rw [if_neg c33] at H
        exact absurd H (by simp)
      rw [if_pos c33] at H; have c33b0 : decide (0 ≤ (ji32)) = true := decide_eq_true c33
      clear c33; by_cases c34 : (ji32) < (l0.length : Int)
      rotate_left
      · rw [if_neg c34] at H
        exact absurd H (by simp)
      rw [if_pos c34] at H; have c34b0 : decide ((ji32) < (l0.length : Int)) = true := decide_eq_true c34
      clear c34; by_cases c35 : x103001_2.length < 140737488355328
      rotate_left
      · rw [if_neg c35] at H
        exact absurd H (by simp)
      rw [if_pos c35] at H; have LMc35 := zD.mk c35; clear c35; obtain ⟨y110, hy110⟩ : ∃ y_ : List Int, y_ = (x103001_2 ++ [Int.tmod ((rd_T63 l0 (ji32)).f3) 4]) := ⟨_, rfl⟩; replace H : (h3_Para.l1 k2 l0 (wrap64 (x8_2 + 1)) x103000_1 y110) = some (r1, r2) := by first | (rw [hy110]; with_reducible exact H) | (have H2_ := (Option.bind_some _ _).symm.trans H; rw [hy110]; with_reducible exact H2_) | (have H2_ := (Option.bind_some _ _).symm.trans H; with_reducible exact H2_) | with_reducible exact H | (rw [hy110]; exact H) | exact H
      have Ny110 := zD.mk hy110; clear hy110; have H' := zD.mk H
      clear H; have hnb36 := NB102_101.out; have hnc36 := NB101_102.out; have hcz37_0 : wr.cell? ⟨gb102, 0, none⟩ = some (u103000) := (zE BK102.out 0).trans rfl
      have hcz37_1 : wr.cell? ⟨gb102, 1, none⟩ = some (u103001) := (zE BK102.out 1).trans rfl
      have hfz37_0 := zG BK102.out 0; have hfz37_1 := zG BK102.out 1; obtain ⟨Ao38, co38, eo38⟩ := Kd.zZ HO_103000.out; subst eo38; have p109 : 0 ≤ ((ji32) : Int) := of_decide_eq_true (by first | (with_reducible assumption) | assumption)
      have q109 : (ji32) < (l0.length : Int) := of_decide_eq_true (by first | (with_reducible assumption) | assumption)
      obtain ⟨ad109, e109, hx109_0, hx109_1, hx109_2, hx109_3⟩ := at_T63 HR0.out (ji32) p109 q109; cases e109
      replace hx109_0 := (HB.out.cell (World.block_lt_of_cell? w _ hx109_0)).trans hx109_0; replace hx109_1 := (HB.out.cell (World.block_lt_of_cell? w _ hx109_1)).trans hx109_1; replace hx109_2 := (HB.out.cell (World.block_lt_of_cell? w _ hx109_2)).trans hx109_2; replace hx109_3 := (HB.out.cell (World.block_lt_of_cell? w _ hx109_3)).trans hx109_3; replace p109 := eq_true p109; replace q109 := eq_true q109; go_wp2_with (first | ((with_reducible refine gate_builtin (b := .append) (xs := #[.tmp 66, .tmp 68]) rfl ?_); at_builtin; refine Kd.R_append (Kd.int .u8) (w0 := w) w.heap.size rfl (.tmp 66) (.tmp 68) 29 51 (.int .u8 0) 1 rfl Try.underlying29 info51 rfl (by decide) (by omega) u103001 x103001_2 (Int.tmod ((rd_T63 l0 (ji32)).f3) 4) [.int .u8 (Int.tmod ((rd_T63 l0 (ji32)).f3) 4)] (fun _ => True) (fun _ => False) rfl rfl ?aP (fun _ hk => hk.elim) ?aF ?aO ?aB ?aS ?aL ?_; (case aP => exact rfl); (case aB => exact (by repeat (first | (with_reducible first | exact HB.out | apply zJ | apply zH | apply zI | refine zF ?_ GE101.out | refine zF ?_ GE102.out) | exact HB.out))); (case aF => exact (fun _ _ => trivial)); (case aO => exact (by (with_reducible repeat (first | apply Kd.zP | apply Kd.zQ | apply Kd.zR)); exact HO_103001.out)); (case aS => exact (zO (by repeat (first | (with_reducible first | exact HB.out | apply zJ | apply zH | apply zI | refine zF ?_ GE101.out | refine zF ?_ GE102.out) | exact HB.out)))); (case aL => have := LMc35.out; omega); intro v111 w39 ho hb hg hat; rw [← Ny110.out] at ho; replace HO_103000 := zD.mk (Kd.R_over' (by (with_reducible repeat (first | apply Kd.zP | apply Kd.zQ | apply Kd.zR)); exact HO_103000.out) (Kd.R_typed (by (with_reducible repeat (first | apply Kd.zP | apply Kd.zQ | apply Kd.zR)); exact HO_103001.out)) (by decide) hg); replace BK101 := zD.mk (blk_grown (g := gb101) (o := .cells #[.slice none 0 0, .slice none 0 0] 31 (0, 0)) (by (with_reducible repeat (first | refine zB ?_ _ | refine zC ?_ | refine zA ?_ _)); exact BK101.out) hg (Kd.R_ne HO_103001.out BK101.out (by decide))); replace BK102 := zD.mk (blk_grown (g := gb102) (o := .cells #[.slice Ao38 x103000_1.length co38, u103001] 31 (0, 0)) (by (with_reducible repeat (first | refine zB ?_ _ | refine zC ?_ | refine zA ?_ _)); exact BK102.out) hg (Kd.R_ne HO_103001.out BK102.out (by decide))); replace HB := zD.mk (hb); have HO112 := zD.mk (ho); clear HO_103001; clear ho hb hg hat; obtain ⟨Ao40, co40, eo40⟩ := Kd.zZ HO112.out; subst eo40; have hcz41_0 : w39.cell? ⟨gb102, 0, none⟩ = some (.slice Ao38 x103000_1.length co38) := (zE BK102.out 0).trans rfl; have hcz41_1 : w39.cell? ⟨gb102, 1, none⟩ = some (u103001) := (zE BK102.out 1).trans rfl; have hfz41_0 := zG BK102.out 0; have hfz41_1 := zG BK102.out 1))
      go_roundg k2
      case measure => have := HJ1.out; have := HK2.out; omega
      case rel => exact ⟨(wrap64 (x8_2 + 1)), (y110), (.slice Ao40 y110.length co40), (by first | rfl | (simp; done) | (simp [*]; done)), H', ⟨by have := HJ1.out; have := HK2.out; omega⟩, ⟨by (with_reducible repeat (first | apply Kd.zP | apply Kd.zQ | apply Kd.zR)); exact Kd.zAb (Kd.zY (p := ⟨gb102, 1, none⟩) (Kd.zAc HO_103000.out BK102.out (by decide)) (fun _ hk => hk.2) (.slice Ao40 y110.length co40)) (fun _ hk => trivial)⟩, ⟨by (with_reducible repeat (first | apply Kd.zP | apply Kd.zQ | apply Kd.zR)); exact Kd.zAb (Kd.zY (p := ⟨gb102, 1, none⟩) (Kd.zAc HO112.out BK102.out (by decide)) (fun _ hk => hk.2) (.slice Ao40 y110.length co40)) (fun _ hk => trivial)⟩, ⟨by (with_reducible repeat (first | refine zB ?_ _ | refine zC ?_ | refine zA ?_ _)); refine zL ?_ NB101_102.out _; (with_reducible repeat (first | refine zB ?_ _ | refine zC ?_ | refine zA ?_ _)); exact BK101.out⟩, ⟨by (with_reducible repeat (first | refine zB ?_ _ | refine zC ?_ | refine zA ?_ _)); refine blk_put (cs := #[.slice Ao38 x103000_1.length co38, u103001]) ?_ 1 _ rfl; (with_reducible repeat (first | refine zB ?_ _ | refine zC ?_ | refine zA ?_ _)); exact BK102.out⟩, ⟨by repeat (first | (with_reducible first | exact HB.out | apply zJ | apply zH | apply zI | refine zF ?_ GE101.out | refine zF ?_ GE102.out) | exact HB.out)⟩⟩
def items_Parts.l0 : Nat → List Int → List Int → Int → Int → Option (List Int)
  | 0, _, _, _, _ => none
  | k + 1, x3, x7, x8, x9 => if x9 < x8 then (if 0 ≤ x9 then (if x9 < (x7.length : Int) then (if (rd x7 x9) = 2 then (if x3.length < 17592186044416 then (items_Parts.l0 k (x3 ++ [x9]) x7 x8 (wrap64 (x9 + 1))) else (none)) else (items_Parts.l0 k x3 x7 x8 (wrap64 (x9 + 1)))) else (none)) else (none)) else (some x3)
def items_Parts.f (k : Nat) (l0_0 : List (S66)) (l0_1 : List Int) : Option (List Int) := items_Parts.l0 k ([] : List Int) l0_1 (l0_1.length : Int) 0
theorem items_Parts.mono_l : ∀ k, (∀ y0 y1 y2 y3, LeO (items_Parts.l0 k y0 y1 y2 y3) (items_Parts.l0 (k + 1) y0 y1 y2 y3))
  | 0 => fun _ _ _ _ r h => by simp [items_Parts.l0] at h
  | k + 1 => by
    have ih0 := items_Parts.mono_l k
    · intro y0 y1 y2 y3
      unfold items_Parts.l0
      repeat' (with_reducible first | exact ih0 _ _ _ _ | exact LeO.refl _ | exact LeO.none _ | refine LeO.ite ?_ ?_ | refine LeO.bind ?_ (fun _ => ?_))
theorem items_Parts.mono : ∀ a0 a1 k, LeO (items_Parts.f k a0 a1) (items_Parts.f (k + 1) a0 a1) := by
  intro a0 a1 k
  have ih0 := items_Parts.mono_l k; unfold items_Parts.f
  repeat' (with_reducible first | exact ih0 _ _ _ _ | exact LeO.refl _ | exact LeO.none _ | refine LeO.ite ?_ ?_ | refine LeO.bind ?_ (fun _ => ?_))
set_option maxHeartbeats 8000000 in
set_option maxRecDepth 100000 in
theorem items_Parts.calls (k : Nat) (A0_0 : Option Addr) (c0_0 : Nat) (l0_0 : List (S66)) (A0_1 : Option Addr) (c0_1 : Nat) (l0_1 : List Int) (r : List Int) (w : World) (hr0_0 : Kd.C k66 w A0_0 l0_0.length l0_0) (hc0_0 : l0_0.length ≤ c0_0) (hr0_1 : Kd.C (Kd.int .u8) w A0_1 l0_1.length l0_1) (hc0_1 : l0_1.length ≤ c0_1) (h : items_Parts.f k l0_0 l0_1 = some r) :
    Calls Try.prog 18 #[.agg #[.slice A0_0 l0_0.length c0_0, .slice A0_1 l0_1.length c0_1]] w fun e w' => ∃ v0_ : Value, e = .returned (v0_) ∧ Kd.R (Kd.int .i64) 3 w' w.heap.size (fun _ => True) v0_ r ∧ Below w.heap.size w w' := by
  have hu31 := Try.underlying31; have HR0_0 := zD.mk hr0_0; have HC0_0 := zD.mk hc0_0; clear hr0_0 hc0_0; have HR0_1 := zD.mk hr0_1; have HC0_1 := zD.mk hc0_1; clear hr0_1 hc0_1; have HB := zD.mk (Below.refl w.heap.size w); have H : (items_Parts.l0 k ([] : List Int) l0_1 (l0_1.length : Int) 0) = some r := h
  clear h; have H' := zD.mk H
  clear H; go_enter Try.func18, Try.ntmps18
  go_wp2_with (first | ((with_reducible refine gate_dst (N := 1) rfl ?_); refine box_event ?hg (N := 1) ?hd (cs := #[.slice A0_0 l0_0.length c0_0, .slice A0_1 l0_1.length c0_1]) (t := 31) ?hr ?_; (case hd => rfl); (case hg => rfl); (case hr => first | (go_simp; done) | (go_simp; rfl)); intro gb119 hg w2 hbox hb; have n0_ := zD.mk (zM (by repeat (first | (with_reducible first | exact HB.out | apply zJ | apply zH | apply zI) | exact HB.out)) hb); have n1_ := zD.mk (hbox); have n2_ := zD.mk ((by rw [hg]; exact (zO (by repeat (first | (with_reducible first | exact HB.out | apply zJ | apply zH | apply zI) | exact HB.out))) : w.heap.size ≤ gb119)); have n3_ := n2_; clear HB; have HB := n0_; have BK119 := n1_; have GW119 := n2_; have GE119 := n3_; clear n0_ n1_ n2_ n3_; clear hb hbox hg; have hcz3_0 : w2.cell? ⟨gb119, 0, none⟩ = some (.slice A0_0 l0_0.length c0_0) := (zE BK119.out 0).trans rfl; have hcz3_1 : w2.cell? ⟨gb119, 1, none⟩ = some (.slice A0_1 l0_1.length c0_1) := (zE BK119.out 1).trans rfl; have hfz3_0 := zG BK119.out 0; have hfz3_1 := zG BK119.out 1))
  go_loopg [3, 9] k (fun kq v3 v9 w' => ∃ (x3_1 : List Int) (x9_1 : Int), v9 = .int .i64 x9_1 ∧ zD (items_Parts.l0 kq x3_1 l0_1 (l0_1.length : Int) x9_1 = some r) ∧ zD (kq ≤ k) ∧ zD (Kd.R (Kd.int .i64) 3 w' w.heap.size (fun _ => True) v3 x3_1) ∧ zD (w'.heap[gb119]? = some (.cells #[(.slice A0_0 l0_0.length c0_0), (.slice A0_1 l0_1.length c0_1)] 31 (0, 0))) ∧ zD (Below w.heap.size w w'))
  case atStart => exact ⟨(([] : List Int)), (0), (by first | rfl | (simp; done) | (simp [*]; done)), H', ⟨Nat.le_refl _⟩, ⟨by first | exact Kd.R_nil _ _ _ _ _ | exact Kd.N_nil _ _ _ _ _ | exact Kd.V_nil _ _ _ _ _ | exact Kd.Q_nil _ _ _ _ _ | exact Kd.S_nil _ _ _ _ _⟩, ⟨by (with_reducible repeat (first | refine zB ?_ _ | refine zC ?_ | refine zA ?_ _)); exact BK119.out⟩, ⟨by repeat (first | (with_reducible first | exact HB.out | apply zJ | apply zH | apply zI | refine zF ?_ GE119.out) | exact HB.out)⟩⟩
  clear H'; obtain ⟨x3_1, x9_1, rfl, HA, HK1, HO_3, BK119, HB⟩ := hrel; cases gk with
  | zero => exact absurd HA.out (by simp [items_Parts.l0])
  | succ k1 =>
    have H := HA.out; clear HA; simp only [items_Parts.l0] at H; by_cases c4 : x9_1 < (l0_1.length : Int)
    rotate_left
    · rw [if_neg c4] at H
      have c4b0 : decide (x9_1 < (l0_1.length : Int)) = false := decide_eq_false c4
      clear c4; obtain rfl := Option.some.inj H
      go_wp2
      go_ret
      exact ⟨_, by first | rfl | (simp [errW_none, errW_some] <;> rfl) | (simp [*, errW_none, errW_some] <;> rfl), by (with_reducible repeat (first | apply Kd.zP | apply Kd.zQ | apply Kd.zR)); exact HO_3.out, by repeat (first | (with_reducible first | exact HB.out | apply zJ | apply zH | apply zI | refine zF ?_ GE119.out) | exact HB.out)⟩
    rw [if_pos c4] at H; have c4b0 : decide (x9_1 < (l0_1.length : Int)) = true := decide_eq_true c4
    clear c4; by_cases c5 : 0 ≤ x9_1
    rotate_left
    · rw [if_neg c5] at H
      exact absurd H (by simp)
    rw [if_pos c5] at H; have c5b0 : decide (0 ≤ x9_1) = true := decide_eq_true c5
    clear c5; by_cases c6 : x9_1 < (l0_1.length : Int)
    rotate_left
    · rw [if_neg c6] at H
      exact absurd H (by simp)
    rw [if_pos c6] at H; have c6b0 : decide (x9_1 < (l0_1.length : Int)) = true := decide_eq_true c6
    clear c6; by_cases c7 : (rd l0_1 x9_1) = 2
    rotate_left
    · rw [if_neg c7] at H
      have c7b0 : ((rd l0_1 x9_1) == 2) = false := beq_eq_false_iff_ne.mpr c7
      have c7b1 : ((rd l0_1 x9_1) != 2) = true := bne_iff_ne.mpr c7
      have H' := zD.mk H
      clear H; have p120 : 0 ≤ (x9_1 : Int) := of_decide_eq_true (by first | (with_reducible assumption) | assumption)
      have q120 : x9_1 < (l0_1.length : Int) := of_decide_eq_true (by first | (with_reducible assumption) | assumption)
      obtain ⟨ad120, e120, hx120_0⟩ := Kd.at_int HR0_1.out x9_1 p120 q120; cases e120
      replace hx120_0 := (HB.out.cell (World.block_lt_of_cell? w _ hx120_0)).trans hx120_0; replace p120 := eq_true p120; replace q120 := eq_true q120; go_wp2
      go_roundg k1
      case measure => have := HK1.out; omega
      case rel => exact ⟨(x3_1), (wrap64 (x9_1 + 1)), (by first | rfl | (simp; done) | (simp [*]; done)), H', ⟨by have := HK1.out; omega⟩, ⟨by (with_reducible repeat (first | apply Kd.zP | apply Kd.zQ | apply Kd.zR)); exact HO_3.out⟩, ⟨by (with_reducible repeat (first | refine zB ?_ _ | refine zC ?_ | refine zA ?_ _)); exact BK119.out⟩, ⟨by repeat (first | (with_reducible first | exact HB.out | apply zJ | apply zH | apply zI | refine zF ?_ GE119.out) | exact HB.out)⟩⟩
    rw [if_pos c7] at H; have c7b0 : ((rd l0_1 x9_1) == 2) = true := beq_iff_eq.mpr c7
    have c7b1 : ((rd l0_1 x9_1) != 2) = false := bne_eq_false_iff_eq.mpr c7
    clear c7; by_cases c8 : x3_1.length < 17592186044416
    rotate_left
    · rw [if_neg c8] at H
      exact absurd H (by simp)
    rw [if_pos c8] at H; have LMc8 := zD.mk c8; clear c8; obtain ⟨y121, hy121⟩ : ∃ y_ : List Int, y_ = (x3_1 ++ [x9_1]) := ⟨_, rfl⟩; replace H : (items_Parts.l0 k1 y121 l0_1 (l0_1.length : Int) (wrap64 (x9_1 + 1))) = some r := by first | (rw [hy121]; with_reducible exact H) | (have H2_ := (Option.bind_some _ _).symm.trans H; rw [hy121]; with_reducible exact H2_) | (have H2_ := (Option.bind_some _ _).symm.trans H; with_reducible exact H2_) | with_reducible exact H | (rw [hy121]; exact H) | exact H
    have Ny121 := zD.mk hy121; clear hy121; have H' := zD.mk H
    clear H; have p120 : 0 ≤ (x9_1 : Int) := of_decide_eq_true (by first | (with_reducible assumption) | assumption)
    have q120 : x9_1 < (l0_1.length : Int) := of_decide_eq_true (by first | (with_reducible assumption) | assumption)
    obtain ⟨ad120, e120, hx120_0⟩ := Kd.at_int HR0_1.out x9_1 p120 q120; cases e120
    replace hx120_0 := (HB.out.cell (World.block_lt_of_cell? w _ hx120_0)).trans hx120_0; replace p120 := eq_true p120; replace q120 := eq_true q120; go_wp2_with (first | ((with_reducible refine gate_builtin (b := .append) (xs := #[.tmp 16, .tmp 18]) rfl ?_); at_builtin; refine Kd.R_append (Kd.int .i64) (w0 := w) w.heap.size rfl (.tmp 16) (.tmp 18) 47 3 (.int .i64 0) 8 rfl Try.underlying47 info3 rfl (by decide) (by omega) u3 x3_1 x9_1 [.int .i64 x9_1] (fun _ => True) (fun _ => False) rfl rfl ?aP (fun _ hk => hk.elim) ?aF ?aO ?aB ?aS ?aL ?_; (case aP => exact rfl); (case aB => exact (by repeat (first | (with_reducible first | exact HB.out | apply zJ | apply zH | apply zI | refine zF ?_ GE119.out) | exact HB.out))); (case aF => exact (fun _ _ => trivial)); (case aO => exact (by (with_reducible repeat (first | apply Kd.zP | apply Kd.zQ | apply Kd.zR)); exact HO_3.out)); (case aS => exact (zO (by repeat (first | (with_reducible first | exact HB.out | apply zJ | apply zH | apply zI | refine zF ?_ GE119.out) | exact HB.out)))); (case aL => have := LMc8.out; omega); intro v122 w9 ho hb hg hat; rw [← Ny121.out] at ho; replace BK119 := zD.mk (blk_grown (g := gb119) (o := .cells #[.slice A0_0 l0_0.length c0_0, .slice (some ad120) l0_1.length c0_1] 31 (0, 0)) (by (with_reducible repeat (first | refine zB ?_ _ | refine zC ?_ | refine zA ?_ _)); exact BK119.out) hg (Kd.R_ne HO_3.out BK119.out (by decide))); replace HB := zD.mk (hb); have HO123 := zD.mk (ho); clear HO_3; clear ho hb hg hat))
    go_roundg k1
    case measure => have := HK1.out; omega
    case rel => exact ⟨(y121), (wrap64 (x9_1 + 1)), (by first | rfl | (simp; done) | (simp [*]; done)), H', ⟨by have := HK1.out; omega⟩, ⟨by (with_reducible repeat (first | apply Kd.zP | apply Kd.zQ | apply Kd.zR)); exact HO123.out⟩, ⟨by (with_reducible repeat (first | refine zB ?_ _ | refine zC ?_ | refine zA ?_ _)); exact BK119.out⟩, ⟨by repeat (first | (with_reducible first | exact HB.out | apply zJ | apply zH | apply zI | refine zF ?_ GE119.out) | exact HB.out)⟩⟩
def span_empty.f (a0_0 : Int) (a0_1 : Int) (a0_2 : Int) (a0_3 : Int) : Option (Bool) := if a0_3 = 1 then (some true) else (if a0_3 = 0 then (some (a0_2 == 0)) else (some false))
set_option maxHeartbeats 8000000 in
set_option maxRecDepth 100000 in
theorem span_empty.calls (a0_0 : Int) (a0_1 : Int) (a0_2 : Int) (a0_3 : Int) (r : Bool) (w : World) (h : span_empty.f a0_0 a0_1 a0_2 a0_3 = some r) :
    Calls Try.prog 49 #[.agg #[.int .i64 a0_0, .int .i64 a0_1, .int .i64 a0_2, .int .u8 a0_3]] w fun e w' => e = .returned (.bool r) ∧ Below w.heap.size w w' := by
  have hu66 := Try.underlying66; have HB := zD.mk (Below.refl w.heap.size w); have H : (if a0_3 = 1 then (some true) else (if a0_3 = 0 then (some (a0_2 == 0)) else (some false))) = some r := h
  clear h; by_cases c2 : a0_3 = 1
  · rw [if_pos c2] at H
    have c2b0 : (a0_3 == 1) = true := beq_iff_eq.mpr c2
    have c2b1 : (a0_3 != 1) = false := bne_eq_false_iff_eq.mpr c2
    clear c2; obtain rfl := Option.some.inj H
    go_enter Try.func49, Try.ntmps49
    go_wp2_with (first | ((with_reducible refine gate_dst (N := 1) rfl ?_); refine box_event ?hg (N := 1) ?hd (cs := #[.int .i64 a0_0, .int .i64 a0_1, .int .i64 a0_2, .int .u8 a0_3]) (t := 66) ?hr ?_; (case hd => rfl); (case hg => rfl); (case hr => first | (go_simp; done) | (go_simp; rfl)); intro gb124 hg w3 hbox hb; have n0_ := zD.mk (zM (by repeat (first | (with_reducible first | exact HB.out | apply zJ | apply zH | apply zI) | exact HB.out)) hb); have n1_ := zD.mk (hbox); have n2_ := zD.mk ((by rw [hg]; exact (zO (by repeat (first | (with_reducible first | exact HB.out | apply zJ | apply zH | apply zI) | exact HB.out))) : w.heap.size ≤ gb124)); have n3_ := n2_; clear HB; have HB := n0_; have BK124 := n1_; have GW124 := n2_; have GE124 := n3_; clear n0_ n1_ n2_ n3_; clear hb hbox hg; have hcz4_0 : w3.cell? ⟨gb124, 0, none⟩ = some (.int .i64 a0_0) := (zE BK124.out 0).trans rfl; have hcz4_1 : w3.cell? ⟨gb124, 1, none⟩ = some (.int .i64 a0_1) := (zE BK124.out 1).trans rfl; have hcz4_2 : w3.cell? ⟨gb124, 2, none⟩ = some (.int .i64 a0_2) := (zE BK124.out 2).trans rfl; have hcz4_3 : w3.cell? ⟨gb124, 3, none⟩ = some (.int .u8 a0_3) := (zE BK124.out 3).trans rfl; have hfz4_0 := zG BK124.out 0; have hfz4_1 := zG BK124.out 1; have hfz4_2 := zG BK124.out 2; have hfz4_3 := zG BK124.out 3))
    go_ret
    exact ⟨by first | rfl | (simp [errW_none, errW_some] <;> rfl) | (simp [*, errW_none, errW_some] <;> rfl), by repeat (first | (with_reducible first | exact HB.out | apply zJ | apply zH | apply zI | refine zF ?_ GE124.out) | exact HB.out)⟩
  rw [if_neg c2] at H; have c2b0 : (a0_3 == 1) = false := beq_eq_false_iff_ne.mpr c2
  have c2b1 : (a0_3 != 1) = true := bne_iff_ne.mpr c2
  by_cases c5 : a0_3 = 0
  · rw [if_pos c5] at H
    have c5b0 : (a0_3 == 0) = true := beq_iff_eq.mpr c5
    have c5b1 : (a0_3 != 0) = false := bne_eq_false_iff_eq.mpr c5
    clear c5; obtain rfl := Option.some.inj H
    go_enter Try.func49, Try.ntmps49
    go_wp2_with (first | ((with_reducible refine gate_dst (N := 1) rfl ?_); refine box_event ?hg (N := 1) ?hd (cs := #[.int .i64 a0_0, .int .i64 a0_1, .int .i64 a0_2, .int .u8 a0_3]) (t := 66) ?hr ?_; (case hd => rfl); (case hg => rfl); (case hr => first | (go_simp; done) | (go_simp; rfl)); intro gb124 hg w6 hbox hb; have n0_ := zD.mk (zM (by repeat (first | (with_reducible first | exact HB.out | apply zJ | apply zH | apply zI) | exact HB.out)) hb); have n1_ := zD.mk (hbox); have n2_ := zD.mk ((by rw [hg]; exact (zO (by repeat (first | (with_reducible first | exact HB.out | apply zJ | apply zH | apply zI) | exact HB.out))) : w.heap.size ≤ gb124)); have n3_ := n2_; clear HB; have HB := n0_; have BK124 := n1_; have GW124 := n2_; have GE124 := n3_; clear n0_ n1_ n2_ n3_; clear hb hbox hg; have hcz7_0 : w6.cell? ⟨gb124, 0, none⟩ = some (.int .i64 a0_0) := (zE BK124.out 0).trans rfl; have hcz7_1 : w6.cell? ⟨gb124, 1, none⟩ = some (.int .i64 a0_1) := (zE BK124.out 1).trans rfl; have hcz7_2 : w6.cell? ⟨gb124, 2, none⟩ = some (.int .i64 a0_2) := (zE BK124.out 2).trans rfl; have hcz7_3 : w6.cell? ⟨gb124, 3, none⟩ = some (.int .u8 a0_3) := (zE BK124.out 3).trans rfl; have hfz7_0 := zG BK124.out 0; have hfz7_1 := zG BK124.out 1; have hfz7_2 := zG BK124.out 2; have hfz7_3 := zG BK124.out 3))
    go_ret
    exact ⟨by first | rfl | (simp [errW_none, errW_some] <;> rfl) | (simp [*, errW_none, errW_some] <;> rfl), by repeat (first | (with_reducible first | exact HB.out | apply zJ | apply zH | apply zI | refine zF ?_ GE124.out) | exact HB.out)⟩
  rw [if_neg c5] at H; have c5b0 : (a0_3 == 0) = false := beq_eq_false_iff_ne.mpr c5
  have c5b1 : (a0_3 != 0) = true := bne_iff_ne.mpr c5
  obtain rfl := Option.some.inj H
  go_enter Try.func49, Try.ntmps49
  go_wp2_with (first | ((with_reducible refine gate_dst (N := 1) rfl ?_); refine box_event ?hg (N := 1) ?hd (cs := #[.int .i64 a0_0, .int .i64 a0_1, .int .i64 a0_2, .int .u8 a0_3]) (t := 66) ?hr ?_; (case hd => rfl); (case hg => rfl); (case hr => first | (go_simp; done) | (go_simp; rfl)); intro gb124 hg w8 hbox hb; have n0_ := zD.mk (zM (by repeat (first | (with_reducible first | exact HB.out | apply zJ | apply zH | apply zI) | exact HB.out)) hb); have n1_ := zD.mk (hbox); have n2_ := zD.mk ((by rw [hg]; exact (zO (by repeat (first | (with_reducible first | exact HB.out | apply zJ | apply zH | apply zI) | exact HB.out))) : w.heap.size ≤ gb124)); have n3_ := n2_; clear HB; have HB := n0_; have BK124 := n1_; have GW124 := n2_; have GE124 := n3_; clear n0_ n1_ n2_ n3_; clear hb hbox hg; have hcz9_0 : w8.cell? ⟨gb124, 0, none⟩ = some (.int .i64 a0_0) := (zE BK124.out 0).trans rfl; have hcz9_1 : w8.cell? ⟨gb124, 1, none⟩ = some (.int .i64 a0_1) := (zE BK124.out 1).trans rfl; have hcz9_2 : w8.cell? ⟨gb124, 2, none⟩ = some (.int .i64 a0_2) := (zE BK124.out 2).trans rfl; have hcz9_3 : w8.cell? ⟨gb124, 3, none⟩ = some (.int .u8 a0_3) := (zE BK124.out 3).trans rfl; have hfz9_0 := zG BK124.out 0; have hfz9_1 := zG BK124.out 1; have hfz9_2 := zG BK124.out 2; have hfz9_3 := zG BK124.out 3))
  go_ret
  exact ⟨by first | rfl | (simp [errW_none, errW_some] <;> rfl) | (simp [*, errW_none, errW_some] <;> rfl), by repeat (first | (with_reducible first | exact HB.out | apply zJ | apply zH | apply zI | refine zF ?_ GE124.out) | exact HB.out)⟩
def span_Trim.l0 : Nat → Int → Int → List (S66) → List Int → Option (Int)
  | 0, _, _, _, _ => none
  | k + 1, x1, x2, x126000, x126001 => if x2 > x1 then (if 0 ≤ (wrap64 (x2 - 1)) then (if (wrap64 (x2 - 1)) < (x126000.length : Int) then ((span_empty.f ((rd_T66 x126000 (wrap64 (x2 - 1))).f0) ((rd_T66 x126000 (wrap64 (x2 - 1))).f1) ((rd_T66 x126000 (wrap64 (x2 - 1))).f2) ((rd_T66 x126000 (wrap64 (x2 - 1))).f3)).bind fun t127 => (if t127 = true then (span_Trim.l0 k x1 (wrap64 (x2 - 1)) x126000 x126001) else (some x2))) else (none)) else (none)) else (some x2)
def span_Trim.f (k : Nat) (l0_0 : List (S66)) (l0_1 : List Int) (a1 : Int) (a2 : Int) : Option (Int) := span_Trim.l0 k a1 a2 l0_0 l0_1
theorem span_Trim.mono_l : ∀ k, (∀ y0 y1 y2 y3, LeO (span_Trim.l0 k y0 y1 y2 y3) (span_Trim.l0 (k + 1) y0 y1 y2 y3))
  | 0 => fun _ _ _ _ r h => by simp [span_Trim.l0] at h
  | k + 1 => by
    have ih0 := span_Trim.mono_l k
    · intro y0 y1 y2 y3
      unfold span_Trim.l0
      repeat' (with_reducible first | exact ih0 _ _ _ _ | exact LeO.refl _ | exact LeO.none _ | refine LeO.ite ?_ ?_ | refine LeO.bind ?_ (fun _ => ?_))
theorem span_Trim.mono : ∀ a0 a1 a2 a3 k, LeO (span_Trim.f k a0 a1 a2 a3) (span_Trim.f (k + 1) a0 a1 a2 a3) := by
  intro a0 a1 a2 a3 k
  have ih0 := span_Trim.mono_l k; unfold span_Trim.f
  repeat' (with_reducible first | exact ih0 _ _ _ _ | exact LeO.refl _ | exact LeO.none _ | refine LeO.ite ?_ ?_ | refine LeO.bind ?_ (fun _ => ?_))
set_option maxHeartbeats 8000000 in
set_option maxRecDepth 100000 in
theorem span_Trim.calls (k : Nat) (A0_0 : Option Addr) (c0_0 : Nat) (l0_0 : List (S66)) (A0_1 : Option Addr) (c0_1 : Nat) (l0_1 : List Int) (a1 : Int) (a2 : Int) (r : Int) (w : World) (hr0_0 : Kd.C k66 w A0_0 l0_0.length l0_0) (hc0_0 : l0_0.length ≤ c0_0) (hr0_1 : Kd.C (Kd.int .u8) w A0_1 l0_1.length l0_1) (hc0_1 : l0_1.length ≤ c0_1) (h : span_Trim.f k l0_0 l0_1 a1 a2 = some r) :
    Calls Try.prog 39 #[.agg #[.slice A0_0 l0_0.length c0_0, .slice A0_1 l0_1.length c0_1], .int .i64 a1, .int .i64 a2] w fun e w' => e = .returned (.int .i64 r) ∧ Below w.heap.size w w' := by
  have hu31 := Try.underlying31; have hu66 := Try.underlying66; have HR0_0 := zD.mk hr0_0; have HC0_0 := zD.mk hc0_0; clear hr0_0 hc0_0; have HR0_1 := zD.mk hr0_1; have HC0_1 := zD.mk hc0_1; clear hr0_1 hc0_1; have HB := zD.mk (Below.refl w.heap.size w); have H : (span_Trim.l0 k a1 a2 l0_0 l0_1) = some r := h
  clear h; have H' := zD.mk H
  clear H; go_enter Try.func39, Try.ntmps39
  go_wp2_with (first | ((with_reducible refine gate_dst (N := 3) rfl ?_); refine box_event ?hg (N := 3) ?hd (cs := #[.slice A0_0 l0_0.length c0_0, .slice A0_1 l0_1.length c0_1]) (t := 31) ?hr ?_; (case hd => rfl); (case hg => rfl); (case hr => first | (go_simp; done) | (go_simp; rfl)); intro gb125 hg w4 hbox hb; have n0_ := zD.mk (zM (by repeat (first | (with_reducible first | exact HB.out | apply zJ | apply zH | apply zI) | exact HB.out)) hb); have n1_ := zD.mk (hbox); have n2_ := zD.mk ((by rw [hg]; exact (zO (by repeat (first | (with_reducible first | exact HB.out | apply zJ | apply zH | apply zI) | exact HB.out))) : w.heap.size ≤ gb125)); have n3_ := n2_; clear HB; have HB := n0_; have BK125 := n1_; have GW125 := n2_; have GE125 := n3_; clear n0_ n1_ n2_ n3_; clear hb hbox hg))
  go_loopg [2] k (fun kq v2 w' => ∃ (x2_1 : Int), v2 = .int .i64 x2_1 ∧ zD (span_Trim.l0 kq a1 x2_1 l0_0 l0_1 = some r) ∧ zD (kq ≤ k) ∧ zD (w'.heap[gb125]? = some (.cells #[(.slice A0_0 l0_0.length c0_0), (.slice A0_1 l0_1.length c0_1)] 31 (0, 0))) ∧ zD (Below w.heap.size w w'))
  case atStart => exact ⟨(a2), (by first | rfl | (simp; done) | (simp [*]; done)), H', ⟨Nat.le_refl _⟩, ⟨by (with_reducible repeat (first | refine zB ?_ _ | refine zC ?_ | refine zA ?_ _)); exact BK125.out⟩, ⟨by repeat (first | (with_reducible first | exact HB.out | apply zJ | apply zH | apply zI | refine zF ?_ GE125.out) | exact HB.out)⟩⟩
  clear H'; obtain ⟨x2_1, rfl, HA, HK1, BK125, HB⟩ := hrel; cases gk with
  | zero => exact absurd HA.out (by simp [span_Trim.l0])
  | succ k1 =>
    have H := HA.out; clear HA; simp only [span_Trim.l0] at H; by_cases c5 : x2_1 > a1
    rotate_left
    · rw [if_neg c5] at H
      have c5b0 : decide (a1 < x2_1) = false := decide_eq_false c5
      clear c5; obtain rfl := Option.some.inj H
      go_wp2
      go_ret
      exact ⟨by first | rfl | (simp [errW_none, errW_some] <;> rfl) | (simp [*, errW_none, errW_some] <;> rfl), by repeat (first | (with_reducible first | exact HB.out | apply zJ | apply zH | apply zI | refine zF ?_ GE125.out) | exact HB.out)⟩
    rw [if_pos c5] at H; have c5b0 : decide (a1 < x2_1) = true := decide_eq_true c5
    clear c5; obtain ⟨ji6, hji6⟩ : ∃ j_ : Int, (wrap64 (x2_1 - 1)) = j_ := ⟨_, rfl⟩; replace H : (if 0 ≤ (ji6) then (if (ji6) < (l0_0.length : Int) then ((span_empty.f ((rd_T66 l0_0 (ji6)).f0) ((rd_T66 l0_0 (ji6)).f1) ((rd_T66 l0_0 (ji6)).f2) ((rd_T66 l0_0 (ji6)).f3)).bind fun t127 => (if t127 = true then (span_Trim.l0 k1 a1 ji6 l0_0 l0_1) else (some x2_1))) else (none)) else (none)) = some r := by first | (rw [hji6] at H; exact H) | (simp only [hji6] at H ⊢; exact H)
    have hji6w : (IntKind.i64.wrap (x2_1 - 1)) = ji6 := (i64_w _).trans hji6
    by_cases c7 : 0 ≤ (ji6)
    rotate_left
    · rw [if_neg c7] at H
      exact absurd H (by simp)
    rw [if_pos c7] at H; have c7b0 : decide (0 ≤ (ji6)) = true := decide_eq_true c7
    clear c7; by_cases c8 : (ji6) < (l0_0.length : Int)
    rotate_left
    · rw [if_neg c8] at H
      exact absurd H (by simp)
    rw [if_pos c8] at H; have c8b0 : decide ((ji6) < (l0_0.length : Int)) = true := decide_eq_true c8
    clear c8; replace H := Option.bind_eq_some_iff.mp H; obtain ⟨t127, A90, H⟩ := H; replace H : (if t127 = true then (span_Trim.l0 k1 a1 ji6 l0_0 l0_1) else (some x2_1)) = some r := H; have A9 := zD.mk A90; clear A90; by_cases c10 : t127 = true
    rotate_left
    · replace c10 := Bool.eq_false_iff.mpr c10
      subst c10; have H1 : (some x2_1) = some r := by rw [if_neg (show ¬ (false = true) by decide)] at H; exact H
      clear H; have H := H1; clear H1; obtain rfl := Option.some.inj H
      have hcz13_0 : wr.cell? ⟨gb125, 0, none⟩ = some (.slice A0_0 l0_0.length c0_0) := (zE BK125.out 0).trans rfl
      have hcz13_1 : wr.cell? ⟨gb125, 1, none⟩ = some (.slice A0_1 l0_1.length c0_1) := (zE BK125.out 1).trans rfl
      have hfz13_0 := zG BK125.out 0; have hfz13_1 := zG BK125.out 1; have p126 : 0 ≤ ((ji6) : Int) := of_decide_eq_true (by first | (with_reducible assumption) | assumption)
      have q126 : (ji6) < (l0_0.length : Int) := of_decide_eq_true (by first | (with_reducible assumption) | assumption)
      obtain ⟨ad126, e126, hx126_0, hx126_1, hx126_2, hx126_3⟩ := at_T66 HR0_0.out (ji6) p126 q126; cases e126
      replace hx126_0 := (HB.out.cell (World.block_lt_of_cell? w _ hx126_0)).trans hx126_0; replace hx126_1 := (HB.out.cell (World.block_lt_of_cell? w _ hx126_1)).trans hx126_1; replace hx126_2 := (HB.out.cell (World.block_lt_of_cell? w _ hx126_2)).trans hx126_2; replace hx126_3 := (HB.out.cell (World.block_lt_of_cell? w _ hx126_3)).trans hx126_3; replace p126 := eq_true p126; replace q126 := eq_true q126; go_wp2_with (first | (go_at_call 49; (with_reducible refine (span_empty.calls ((rd_T66 l0_0 (ji6)).f0) ((rd_T66 l0_0 (ji6)).f1) ((rd_T66 l0_0 (ji6)).f2) ((rd_T66 l0_0 (ji6)).f3) false _ A9.out).mono ?_); rintro e w14 ⟨rfl, hb⟩; replace BK125 := zD.mk (zK (by (with_reducible repeat (first | refine zB ?_ _ | refine zC ?_ | refine zA ?_ _)); exact BK125.out) hb); replace HB := zD.mk (zM (by repeat (first | (with_reducible first | exact HB.out | apply zJ | apply zH | apply zI | refine zF ?_ GE125.out) | exact HB.out)) hb); (try clear hb); (try clear hb2); (try clear hk); (try clear hi)))
      go_ret
      exact ⟨by first | rfl | (simp [errW_none, errW_some] <;> rfl) | (simp only [← hji6]; first | rfl | (simp [errW_none, errW_some] <;> rfl)) | (simp [*, errW_none, errW_some] <;> rfl), by repeat (first | (with_reducible first | exact HB.out | apply zJ | apply zH | apply zI | refine zF ?_ GE125.out) | exact HB.out)⟩
    subst c10; have H1 : (span_Trim.l0 k1 a1 ji6 l0_0 l0_1) = some r := by rw [if_pos rfl] at H; exact H
    clear H; have H := H1; clear H1; have H' := zD.mk H
    clear H; have hcz11_0 : wr.cell? ⟨gb125, 0, none⟩ = some (.slice A0_0 l0_0.length c0_0) := (zE BK125.out 0).trans rfl
    have hcz11_1 : wr.cell? ⟨gb125, 1, none⟩ = some (.slice A0_1 l0_1.length c0_1) := (zE BK125.out 1).trans rfl
    have hfz11_0 := zG BK125.out 0; have hfz11_1 := zG BK125.out 1; have p126 : 0 ≤ ((ji6) : Int) := of_decide_eq_true (by first | (with_reducible assumption) | assumption)
    have q126 : (ji6) < (l0_0.length : Int) := of_decide_eq_true (by first | (with_reducible assumption) | assumption)
    obtain ⟨ad126, e126, hx126_0, hx126_1, hx126_2, hx126_3⟩ := at_T66 HR0_0.out (ji6) p126 q126; cases e126
    replace hx126_0 := (HB.out.cell (World.block_lt_of_cell? w _ hx126_0)).trans hx126_0; replace hx126_1 := (HB.out.cell (World.block_lt_of_cell? w _ hx126_1)).trans hx126_1; replace hx126_2 := (HB.out.cell (World.block_lt_of_cell? w _ hx126_2)).trans hx126_2; replace hx126_3 := (HB.out.cell (World.block_lt_of_cell? w _ hx126_3)).trans hx126_3; replace p126 := eq_true p126; replace q126 := eq_true q126; go_wp2_with (first | (go_at_call 49; (with_reducible refine (span_empty.calls ((rd_T66 l0_0 (ji6)).f0) ((rd_T66 l0_0 (ji6)).f1) ((rd_T66 l0_0 (ji6)).f2) ((rd_T66 l0_0 (ji6)).f3) true _ A9.out).mono ?_); rintro e w12 ⟨rfl, hb⟩; replace BK125 := zD.mk (zK (by (with_reducible repeat (first | refine zB ?_ _ | refine zC ?_ | refine zA ?_ _)); exact BK125.out) hb); replace HB := zD.mk (zM (by repeat (first | (with_reducible first | exact HB.out | apply zJ | apply zH | apply zI | refine zF ?_ GE125.out) | exact HB.out)) hb); (try clear hb); (try clear hb2); (try clear hk); (try clear hi)))
    go_roundg k1
    case measure => have := HK1.out; omega
    case rel => exact ⟨(ji6), (by first | rfl | (simp; done) | (simp only [← hji6] <;> (first | rfl | simp)) | (simp [*]; done)), H', ⟨by have := HK1.out; omega⟩, ⟨by (with_reducible repeat (first | refine zB ?_ _ | refine zC ?_ | refine zA ?_ _)); exact BK125.out⟩, ⟨by repeat (first | (with_reducible first | exact HB.out | apply zJ | apply zH | apply zI | refine zF ?_ GE125.out) | exact HB.out)⟩⟩
def span_Next.f (a0_0 : Int) (a0_1 : Int) (a0_2 : Int) (a0_3 : Int) (a1 : Int) (a2 : Int) : Option (Int) := if a0_3 = 2 then (if a2 = 0 then (none) else (some (wrap64 ((wrap64 (a1 + a2)) - (Int.tmod a1 a2))))) else (some (wrap64 (a1 + a0_2)))
set_option maxHeartbeats 8000000 in
set_option maxRecDepth 100000 in
theorem span_Next.calls (a0_0 : Int) (a0_1 : Int) (a0_2 : Int) (a0_3 : Int) (a1 : Int) (a2 : Int) (r : Int) (w : World) (h : span_Next.f a0_0 a0_1 a0_2 a0_3 a1 a2 = some r) :
    Calls Try.prog 38 #[.agg #[.int .i64 a0_0, .int .i64 a0_1, .int .i64 a0_2, .int .u8 a0_3], .int .i64 a1, .int .i64 a2] w fun e w' => e = .returned (.int .i64 r) ∧ Below w.heap.size w w' := by
  have hu66 := Try.underlying66; have HB := zD.mk (Below.refl w.heap.size w); have H : (if a0_3 = 2 then (if a2 = 0 then (none) else (some (wrap64 ((wrap64 (a1 + a2)) - (Int.tmod a1 a2))))) else (some (wrap64 (a1 + a0_2)))) = some r := h
  clear h; by_cases c4 : a0_3 = 2
  rotate_left
  · rw [if_neg c4] at H
    have c4b0 : (a0_3 == 2) = false := beq_eq_false_iff_ne.mpr c4
    have c4b1 : (a0_3 != 2) = true := bne_iff_ne.mpr c4
    obtain rfl := Option.some.inj H
    go_enter Try.func38, Try.ntmps38
    go_wp2_with (first | ((with_reducible refine gate_dst (N := 3) rfl ?_); refine box_event ?hg (N := 3) ?hd (cs := #[.int .i64 a0_0, .int .i64 a0_1, .int .i64 a0_2, .int .u8 a0_3]) (t := 66) ?hr ?_; (case hd => rfl); (case hg => rfl); (case hr => first | (go_simp; done) | (go_simp; rfl)); intro gb128 hg w8 hbox hb; have n0_ := zD.mk (zM (by repeat (first | (with_reducible first | exact HB.out | apply zJ | apply zH | apply zI) | exact HB.out)) hb); have n1_ := zD.mk (hbox); have n2_ := zD.mk ((by rw [hg]; exact (zO (by repeat (first | (with_reducible first | exact HB.out | apply zJ | apply zH | apply zI) | exact HB.out))) : w.heap.size ≤ gb128)); have n3_ := n2_; clear HB; have HB := n0_; have BK128 := n1_; have GW128 := n2_; have GE128 := n3_; clear n0_ n1_ n2_ n3_; clear hb hbox hg; have hcz9_0 : w8.cell? ⟨gb128, 0, none⟩ = some (.int .i64 a0_0) := (zE BK128.out 0).trans rfl; have hcz9_1 : w8.cell? ⟨gb128, 1, none⟩ = some (.int .i64 a0_1) := (zE BK128.out 1).trans rfl; have hcz9_2 : w8.cell? ⟨gb128, 2, none⟩ = some (.int .i64 a0_2) := (zE BK128.out 2).trans rfl; have hcz9_3 : w8.cell? ⟨gb128, 3, none⟩ = some (.int .u8 a0_3) := (zE BK128.out 3).trans rfl; have hfz9_0 := zG BK128.out 0; have hfz9_1 := zG BK128.out 1; have hfz9_2 := zG BK128.out 2; have hfz9_3 := zG BK128.out 3))
    go_ret
    exact ⟨by first | rfl | (simp [errW_none, errW_some] <;> rfl) | (simp [*, errW_none, errW_some] <;> rfl), by repeat (first | (with_reducible first | exact HB.out | apply zJ | apply zH | apply zI | refine zF ?_ GE128.out) | exact HB.out)⟩
  rw [if_pos c4] at H; have c4b0 : (a0_3 == 2) = true := beq_iff_eq.mpr c4
  have c4b1 : (a0_3 != 2) = false := bne_eq_false_iff_eq.mpr c4
  clear c4; by_cases c5 : a2 = 0
  · rw [if_pos c5] at H
    exact absurd H (by simp)
  rw [if_neg c5] at H; have c5b0 : (a2 == 0) = false := beq_eq_false_iff_ne.mpr c5
  have c5b1 : (a2 != 0) = true := bne_iff_ne.mpr c5
  obtain rfl := Option.some.inj H
  go_enter Try.func38, Try.ntmps38
  go_wp2_with (first | ((with_reducible refine gate_dst (N := 3) rfl ?_); refine box_event ?hg (N := 3) ?hd (cs := #[.int .i64 a0_0, .int .i64 a0_1, .int .i64 a0_2, .int .u8 a0_3]) (t := 66) ?hr ?_; (case hd => rfl); (case hg => rfl); (case hr => first | (go_simp; done) | (go_simp; rfl)); intro gb128 hg w6 hbox hb; have n0_ := zD.mk (zM (by repeat (first | (with_reducible first | exact HB.out | apply zJ | apply zH | apply zI) | exact HB.out)) hb); have n1_ := zD.mk (hbox); have n2_ := zD.mk ((by rw [hg]; exact (zO (by repeat (first | (with_reducible first | exact HB.out | apply zJ | apply zH | apply zI) | exact HB.out))) : w.heap.size ≤ gb128)); have n3_ := n2_; clear HB; have HB := n0_; have BK128 := n1_; have GW128 := n2_; have GE128 := n3_; clear n0_ n1_ n2_ n3_; clear hb hbox hg; have hcz7_0 : w6.cell? ⟨gb128, 0, none⟩ = some (.int .i64 a0_0) := (zE BK128.out 0).trans rfl; have hcz7_1 : w6.cell? ⟨gb128, 1, none⟩ = some (.int .i64 a0_1) := (zE BK128.out 1).trans rfl; have hcz7_2 : w6.cell? ⟨gb128, 2, none⟩ = some (.int .i64 a0_2) := (zE BK128.out 2).trans rfl; have hcz7_3 : w6.cell? ⟨gb128, 3, none⟩ = some (.int .u8 a0_3) := (zE BK128.out 3).trans rfl; have hfz7_0 := zG BK128.out 0; have hfz7_1 := zG BK128.out 1; have hfz7_2 := zG BK128.out 2; have hfz7_3 := zG BK128.out 3))
  go_ret
  exact ⟨by first | rfl | (simp [errW_none, errW_some] <;> rfl) | (simp [*, errW_none, errW_some] <;> rfl), by repeat (first | (with_reducible first | exact HB.out | apply zJ | apply zH | apply zI | refine zF ?_ GE128.out) | exact HB.out)⟩
def span_Columns.l0 : Nat → Int → Int → List Int → Int → List (S66) → List Int → Option (List Int)
  | 0, _, _, _, _, _, _ => none
  | k + 1, x2, x3, x9, x10, x130000, x130001 => if x10 < x2 then (if 0 ≤ x10 then (if x10 < (x130000.length : Int) then (if 0 ≤ (wrap64 ((x9.length : Int) - 1)) then (if (wrap64 ((x9.length : Int) - 1)) < (x9.length : Int) then ((span_Next.f ((rd_T66 x130000 x10).f0) ((rd_T66 x130000 x10).f1) ((rd_T66 x130000 x10).f2) ((rd_T66 x130000 x10).f3) (rd x9 (wrap64 ((x9.length : Int) - 1))) x3).bind fun t135 => (if x9.length < 17592186044416 then (span_Columns.l0 k x2 x3 (x9 ++ [t135]) (wrap64 (x10 + 1)) x130000 x130001) else (none))) else (none)) else (none)) else (none)) else (none)) else (some x9)
def span_Columns.f (k : Nat) (l0_0 : List (S66)) (l0_1 : List Int) (a1 : Int) (a2 : Int) (a3 : Int) : Option (List Int) := span_Columns.l0 k a2 a3 (([0] : List Int)) a1 l0_0 l0_1
theorem span_Columns.mono_l : ∀ k, (∀ y0 y1 y2 y3 y4 y5, LeO (span_Columns.l0 k y0 y1 y2 y3 y4 y5) (span_Columns.l0 (k + 1) y0 y1 y2 y3 y4 y5))
  | 0 => fun _ _ _ _ _ _ r h => by simp [span_Columns.l0] at h
  | k + 1 => by
    have ih0 := span_Columns.mono_l k
    · intro y0 y1 y2 y3 y4 y5
      unfold span_Columns.l0
      repeat' (with_reducible first | exact ih0 _ _ _ _ _ _ | exact LeO.refl _ | exact LeO.none _ | refine LeO.ite ?_ ?_ | refine LeO.bind ?_ (fun _ => ?_))
theorem span_Columns.mono : ∀ a0 a1 a2 a3 a4 k, LeO (span_Columns.f k a0 a1 a2 a3 a4) (span_Columns.f (k + 1) a0 a1 a2 a3 a4) := by
  intro a0 a1 a2 a3 a4 k
  have ih0 := span_Columns.mono_l k; unfold span_Columns.f
  repeat' (with_reducible first | exact ih0 _ _ _ _ _ _ | exact LeO.refl _ | exact LeO.none _ | refine LeO.ite ?_ ?_ | refine LeO.bind ?_ (fun _ => ?_))
def span_Columns.T5 : Bool × List (List Nat × List Nat) := (true, [([], []), ([], []), ([1], [1]), ([], []), ([2, 3], [2, 3]), ([4], [4]), ([], []), ([], []), ([7], [7]), ([8], [8]), ([6, 9], [6, 9]), ([10], [10]), ([], []), ([5, 11, 12], [5, 11, 12]), ([13], [13]), ([0, 14, 13], [0, 14]), ([15, 15, 0, 1, 2, 3, 4, 5, 6, 7, 8, 9, 10, 11, 12, 13, 14, 15], [0, 6, 7, 15])])
def span_Columns.B5 : List Nat := [0, 0, 2, 0, 14, 30, 0, 0, 128, 384, 960, 1984, 0, 8190, 16382, 32767, 65535]
theorem span_Columns.tab5 : rtab .any (opsOf Try.f53 5) = span_Columns.T5 := by kernel_rfl
theorem span_Columns.bits5 : waitsOk span_Columns.T5.2 span_Columns.B5 = true := by kernel_rfl
set_option maxHeartbeats 8000000 in
set_option maxRecDepth 100000 in
theorem span_Columns.calls (k : Nat) (A0_0 : Option Addr) (c0_0 : Nat) (l0_0 : List (S66)) (A0_1 : Option Addr) (c0_1 : Nat) (l0_1 : List Int) (a1 : Int) (a2 : Int) (a3 : Int) (r : List Int) (w : World) (hr0_0 : Kd.C k66 w A0_0 l0_0.length l0_0) (hc0_0 : l0_0.length ≤ c0_0) (hr0_1 : Kd.C (Kd.int .u8) w A0_1 l0_1.length l0_1) (hc0_1 : l0_1.length ≤ c0_1) (h : span_Columns.f k l0_0 l0_1 a1 a2 a3 = some r) :
    Calls Try.prog 53 #[.agg #[.slice A0_0 l0_0.length c0_0, .slice A0_1 l0_1.length c0_1], .int .i64 a1, .int .i64 a2, .int .i64 a3] w fun e w' => ∃ v0_ : Value, e = .returned (v0_) ∧ Kd.R (Kd.int .i64) 3 w' w.heap.size (fun _ => True) v0_ r ∧ Below w.heap.size w w' := by
  have hu31 := Try.underlying31; have hu66 := Try.underlying66; have HR0_0 := zD.mk hr0_0; have HC0_0 := zD.mk hc0_0; clear hr0_0 hc0_0; have HR0_1 := zD.mk hr0_1; have HC0_1 := zD.mk hc0_1; clear hr0_1 hc0_1; have HB := zD.mk (Below.refl w.heap.size w); have H : (span_Columns.l0 k a2 a3 (([0] : List Int)) a1 l0_0 l0_1) = some r := h
  clear h; obtain ⟨y130, hy130⟩ : ∃ y_ : List Int, y_ = (([0] : List Int)) := ⟨_, rfl⟩; replace H : (span_Columns.l0 k a2 a3 y130 a1 l0_0 l0_1) = some r := by first | (rw [hy130]; with_reducible exact H) | (have H2_ := (Option.bind_some _ _).symm.trans H; rw [hy130]; with_reducible exact H2_) | (have H2_ := (Option.bind_some _ _).symm.trans H; with_reducible exact H2_) | with_reducible exact H | (rw [hy130]; exact H) | exact H
  have Ny130 := zD.mk hy130; clear hy130; have H' := zD.mk H
  clear H; go_enter Try.func53, Try.ntmps53
  go_wp2_with (first | ((with_reducible refine gate_dst (N := 4) rfl ?_); refine box_event ?hg (N := 4) ?hd (cs := #[.slice A0_0 l0_0.length c0_0, .slice A0_1 l0_1.length c0_1]) (t := 31) ?hr ?_; (case hd => rfl); (case hg => rfl); (case hr => first | (go_simp; done) | (go_simp; rfl)); intro gb129 hg w5 hbox hb; have n0_ := zD.mk (zM (by repeat (first | (with_reducible first | exact HB.out | apply zJ | apply zH | apply zI) | exact HB.out)) hb); have n1_ := zD.mk (hbox); have n2_ := zD.mk ((by rw [hg]; exact (zO (by repeat (first | (with_reducible first | exact HB.out | apply zJ | apply zH | apply zI) | exact HB.out))) : w.heap.size ≤ gb129)); have n3_ := n2_; clear HB; have HB := n0_; have BK129 := n1_; have GW129 := n2_; have GE129 := n3_; clear n0_ n1_ n2_ n3_; clear hb hbox hg) | ((with_reducible refine gate_dst (N := 11) rfl ?_); refine Kd.R_lit (Kd.int .i64) _ 3 ?hg (N := 11) ?hd (xs := ([0] : List Int)) (inner := [.int .i64 0]) (ok := fun _ => True) (okp := fun _ => True) ?hr ?hp (fun _ hk => hk) trivial (Below.refl _ _) (Nat.le_refl _) (by simp) ?_; (case hd => rfl); (case hg => rfl); (case hr => first | (go_simp; done) | (go_simp; rfl)); (case hp => exact (Reps.one (show Kd.M (Kd.int .i64) _ _ _ 0 [.int .i64 0] from rfl) (Reps.none _ _))); intro v131 w6 ho7 hb hg_ hnew_; clear hg_ hnew_; (first | rw [← Ny130.out] at ho7 | (simp only [Int.reduceToNat] at ho7; rw [← Ny130.out] at ho7)); have HO132 := zD.mk (Kd.zAa ho7 (zO (by repeat (first | (with_reducible first | exact HB.out | apply zJ | apply zH | apply zI | refine zF ?_ GE129.out) | exact HB.out)))); replace BK129 := zD.mk (zK (by (with_reducible repeat (first | refine zB ?_ _ | refine zC ?_ | refine zA ?_ _)); exact BK129.out) hb); replace HB := zD.mk (zM (by repeat (first | (with_reducible first | exact HB.out | apply zJ | apply zH | apply zI | refine zF ?_ GE129.out) | exact HB.out)) hb); clear hb ho7))
  go_loopg [9, 10] k (fun kq v9 v10 w' => ∃ (x9_1 : List Int) (x10_1 : Int), v10 = .int .i64 x10_1 ∧ zD (span_Columns.l0 kq a2 a3 x9_1 x10_1 l0_0 l0_1 = some r) ∧ zD (kq ≤ k) ∧ zD (Kd.R (Kd.int .i64) 3 w' w.heap.size (fun _ => True) v9 x9_1) ∧ zD (w'.heap[gb129]? = some (.cells #[(.slice A0_0 l0_0.length c0_0), (.slice A0_1 l0_1.length c0_1)] 31 (0, 0))) ∧ zD (Below w.heap.size w w'))
  case atStart => exact ⟨(y130), (a1), (by first | rfl | (simp; done) | (simp [*]; done)), H', ⟨Nat.le_refl _⟩, ⟨by (with_reducible repeat (first | apply Kd.zP | apply Kd.zQ | apply Kd.zR)); exact HO132.out⟩, ⟨by (with_reducible repeat (first | refine zB ?_ _ | refine zC ?_ | refine zA ?_ _)); exact BK129.out⟩, ⟨by repeat (first | (with_reducible first | exact HB.out | apply zJ | apply zH | apply zI | refine zF ?_ GE129.out) | exact HB.out)⟩⟩
  clear H'; obtain ⟨x9_1, x10_1, rfl, HA, HK1, HO_9, BK129, HB⟩ := hrel; cases gk with
  | zero => exact absurd HA.out (by simp [span_Columns.l0])
  | succ k1 =>
    have H := HA.out; clear HA; simp only [span_Columns.l0] at H; by_cases c8 : x10_1 < a2
    rotate_left
    · rw [if_neg c8] at H
      have c8b0 : decide (x10_1 < a2) = false := decide_eq_false c8
      clear c8; obtain rfl := Option.some.inj H
      go_wp2
      go_ret
      exact ⟨_, by first | rfl | (simp [errW_none, errW_some] <;> rfl) | (simp [*, errW_none, errW_some] <;> rfl), by (with_reducible repeat (first | apply Kd.zP | apply Kd.zQ | apply Kd.zR)); exact HO_9.out, by repeat (first | (with_reducible first | exact HB.out | apply zJ | apply zH | apply zI | refine zF ?_ GE129.out) | exact HB.out)⟩
    rw [if_pos c8] at H; have c8b0 : decide (x10_1 < a2) = true := decide_eq_true c8
    clear c8; by_cases c9 : 0 ≤ x10_1
    rotate_left
    · rw [if_neg c9] at H
      exact absurd H (by simp)
    rw [if_pos c9] at H; have c9b0 : decide (0 ≤ x10_1) = true := decide_eq_true c9
    clear c9; by_cases c10 : x10_1 < (l0_0.length : Int)
    rotate_left
    · rw [if_neg c10] at H
      exact absurd H (by simp)
    rw [if_pos c10] at H; have c10b0 : decide (x10_1 < (l0_0.length : Int)) = true := decide_eq_true c10
    clear c10; obtain ⟨ji11, hji11⟩ : ∃ j_ : Int, (wrap64 ((x9_1.length : Int) - 1)) = j_ := ⟨_, rfl⟩; replace H : (if 0 ≤ (ji11) then (if (ji11) < (x9_1.length : Int) then ((span_Next.f ((rd_T66 l0_0 x10_1).f0) ((rd_T66 l0_0 x10_1).f1) ((rd_T66 l0_0 x10_1).f2) ((rd_T66 l0_0 x10_1).f3) (rd x9_1 (ji11)) a3).bind fun t135 => (if x9_1.length < 17592186044416 then (span_Columns.l0 k1 a2 a3 (x9_1 ++ [t135]) (wrap64 (x10_1 + 1)) l0_0 l0_1) else (none))) else (none)) else (none)) = some r := by first | (rw [hji11] at H; exact H) | (simp only [hji11] at H ⊢; exact H)
    have hji11w : (IntKind.i64.wrap ((x9_1.length : Int) - 1)) = ji11 := (i64_w _).trans hji11
    by_cases c12 : 0 ≤ (ji11)
    rotate_left
    · rw [if_neg c12] at H
      exact absurd H (by simp)
    rw [if_pos c12] at H; have c12b0 : decide (0 ≤ (ji11)) = true := decide_eq_true c12
    clear c12; by_cases c13 : (ji11) < (x9_1.length : Int)
    rotate_left
    · rw [if_neg c13] at H
      exact absurd H (by simp)
    rw [if_pos c13] at H; have c13b0 : decide ((ji11) < (x9_1.length : Int)) = true := decide_eq_true c13
    clear c13; replace H := Option.bind_eq_some_iff.mp H; obtain ⟨t135, A140, H⟩ := H; replace H : (if x9_1.length < 17592186044416 then (span_Columns.l0 k1 a2 a3 (x9_1 ++ [t135]) (wrap64 (x10_1 + 1)) l0_0 l0_1) else (none)) = some r := H; have A14 := zD.mk A140; clear A140; by_cases c15 : x9_1.length < 17592186044416
    rotate_left
    · rw [if_neg c15] at H
      exact absurd H (by simp)
    rw [if_pos c15] at H; have LMc15 := zD.mk c15; clear c15; obtain ⟨y136, hy136⟩ : ∃ y_ : List Int, y_ = (x9_1 ++ [t135]) := ⟨_, rfl⟩; replace H : (span_Columns.l0 k1 a2 a3 y136 (wrap64 (x10_1 + 1)) l0_0 l0_1) = some r := by first | (rw [hy136]; with_reducible exact H) | (have H2_ := (Option.bind_some _ _).symm.trans H; rw [hy136]; with_reducible exact H2_) | (have H2_ := (Option.bind_some _ _).symm.trans H; with_reducible exact H2_) | with_reducible exact H | (rw [hy136]; exact H) | exact H
    have Ny136 := zD.mk hy136; clear hy136; have H' := zD.mk H
    clear H; try go_wp2
    replace HO_9 := zD.mk (Kd.zR HO_9.out); replace BK129 := zD.mk (zC BK129.out); replace HB := zD.mk (zI HB.out); have p133 : 0 ≤ (x10_1 : Int) := of_decide_eq_true (by first | (with_reducible assumption) | assumption)
    have q133 : x10_1 < (l0_0.length : Int) := of_decide_eq_true (by first | (with_reducible assumption) | assumption)
    obtain ⟨ad133, e133, hx133_0, hx133_1, hx133_2, hx133_3⟩ := at_T66 HR0_0.out x10_1 p133 q133; have hw133_3 := hx133_3; have hw133_2 := hx133_2; have hw133_1 := hx133_1; have hw133_0 := hx133_0; cases e133
    replace hx133_0 := (HB.out.cell (World.block_lt_of_cell? w _ hx133_0)).trans hx133_0; replace hx133_1 := (HB.out.cell (World.block_lt_of_cell? w _ hx133_1)).trans hx133_1; replace hx133_2 := (HB.out.cell (World.block_lt_of_cell? w _ hx133_2)).trans hx133_2; replace hx133_3 := (HB.out.cell (World.block_lt_of_cell? w _ hx133_3)).trans hx133_3; replace p133 := eq_true p133; replace q133 := eq_true q133; obtain ⟨Ao17, co17, eo17⟩ := Kd.zZ HO_9.out; (first | subst eo17 | (injection eo17 with f1_ f2_ f3_; have f4_ := f1_.symm; have f5_ := f3_.symm; clear f1_ f2_ f3_; subst f4_; subst f5_))
    have p134 : 0 ≤ ((ji11) : Int) := of_decide_eq_true (by first | (with_reducible assumption) | assumption)
    have q134 : (ji11) < (x9_1.length : Int) := of_decide_eq_true (by first | (with_reducible assumption) | assumption)
    obtain ⟨ad134, e134, hx134_0⟩ := Kd.at_int (Kd.zW HO_9.out).2.2 (ji11) p134 q134; cases e134
    replace p134 := eq_true p134; replace q134 := eq_true q134; refine start_ (n := 17) (S := fun w' => w'.cell? ⟨gb129, 0, none⟩ = some (.slice (some ad133) l0_0.length c0_0) ∧ w'.cell? ⟨gb129, 1, none⟩ = some (.slice A0_1 l0_1.length c0_1) ∧ w'.cell? (ad133.add ((x10_1).toNat * 4)) = some (.int .i64 ((rd_T66 l0_0 x10_1).f0)) ∧ w'.cell? ⟨(ad133.add ((x10_1).toNat * 4)).block, (ad133.add ((x10_1).toNat * 4)).off + 1, none⟩ = some (.int .i64 ((rd_T66 l0_0 x10_1).f1)) ∧ w'.cell? ⟨(ad133.add ((x10_1).toNat * 4)).block, (ad133.add ((x10_1).toNat * 4)).off + 2, none⟩ = some (.int .i64 ((rd_T66 l0_0 x10_1).f2)) ∧ w'.cell? ⟨(ad133.add ((x10_1).toNat * 4)).block, (ad133.add ((x10_1).toNat * 4)).off + 3, none⟩ = some (.int .u8 ((rd_T66 l0_0 x10_1).f3)) ∧ w'.cell? (ad134.add ((ji11)).toNat) = some (.int .i64 (rd x9_1 (ji11)))) (ds := [14, 15]) #[false, false, false, false, false, false, false, false, false, false, false, false, false, false, false, false, false] (by kernel_rfl) rfl rfl ⟨(zE BK129.out 0).trans rfl, (zE BK129.out 1).trans rfl, ((HB.out.cell (World.block_lt_of_cell? w _ hw133_0)).trans hw133_0), ((HB.out.cell (World.block_lt_of_cell? w _ hw133_1)).trans hw133_1), ((HB.out.cell (World.block_lt_of_cell? w _ hw133_2)).trans hw133_2), ((HB.out.cell (World.block_lt_of_cell? w _ hw133_3)).trans hw133_3), hx134_0⟩ (fun hHeld => ?_); refine with_tabW span_Columns.tab5 span_Columns.bits5 (fun HT_ HW_ => ?_)
    generalize wr.drew = w16 at HO_9 BK129 HB hx133_0 hx133_1 hx133_2 hx133_3 hx134_0 hHeld ⊢
    refine pure_ (i := 0) (N := some 18) (v := ?_) (a' := ?_) (tf_ 1 17) rfl rfl (any_of HT_.out (by kernel_rfl)) (fun _ _ _ h => h) (Or.inl ⟨by rfl, ?_⟩) ?_ ?_
    rotate_left
    · intro w'
      go_simp
      with_reducible rfl
    rotate_left
    · simp only [Act.put, sA_, sB_, sC_, i64_w, i32_w]
      rfl
    refine pure_ (i := 1) (N := some 19) (v := ?_) (a' := ?_) (tf_ 2 17) rfl rfl (any_of HT_.out (by kernel_rfl)) (fun _ _ _ h => h) (Or.inl ⟨by rfl, ?_⟩) ?_ ?_
    rotate_left
    · intro w'
      go_simp
      with_reducible rfl
    rotate_left
    · simp only [Act.put, sA_, sB_, sC_, i64_w, i32_w]
      rfl
    refine pure_ (i := 3) (N := some 21) (v := ?_) (a' := ?_) (tb_ 11 17) rfl rfl (any_of HT_.out (by kernel_rfl)) (fun _ _ _ h => h) (Or.inl ⟨by rfl, ?_⟩) ?_ ?_
    rotate_left
    · intro w'
      go_simp
      with_reducible rfl
    rotate_left
    · simp only [Act.put, sA_, sB_, sC_, i64_w, i32_w]
      rfl
    refine pure_ (i := 6) (N := some 24) (v := ?_) (a' := ?_) (tb_ 75 17) rfl rfl (any_of HT_.out (by kernel_rfl)) (fun _ _ _ h => h) (Or.inl ⟨by rfl, ?_⟩) ?_ ?_
    rotate_left
    · intro w'
      go_simp
      with_reducible rfl
    rotate_left
    · simp only [Act.put, sA_, sB_, sC_, i64_w, i32_w]
      rfl
    refine pure_ (i := 7) (N := some 25) (v := ?_) (a' := ?_) (tb_ 203 17) rfl rfl (any_of HT_.out (by kernel_rfl)) (fun _ _ _ h => h) (Or.inl ⟨by rfl, ?_⟩) ?_ ?_
    rotate_left
    · intro w'
      go_simp
      with_reducible rfl
    rotate_left
    · simp only [Act.put, sA_, sB_, sC_, i64_w, i32_w]
      rfl
    refine pure_ (i := 8) (N := some 26) (v := ?_) (a' := ?_) (tb_ 459 17) rfl rfl (any_of HT_.out (by kernel_rfl)) (fun _ _ _ h => h) (Or.inl ⟨by rfl, ?_⟩) ?_ ?_
    rotate_left
    · intro w'
      go_simp
      with_reducible rfl
    rotate_left
    · simp only [Act.put, sA_, sB_, sC_, i64_w, i32_w]
      rfl
    refine pure_ (i := 9) (N := some 27) (v := ?_) (a' := ?_) (tb_ 971 17) rfl rfl (any_of HT_.out (by kernel_rfl)) (fun _ _ _ h => h) (Or.inl ⟨by rfl, ?_⟩) ?_ ?_
    rotate_left
    · intro w'
      go_simp
      with_reducible rfl
    rotate_left
    · simp only [Act.put, sA_, sB_, sC_, i64_w, i32_w]
      rfl
    refine pure_ (i := 10) (N := some 28) (v := ?_) (a' := ?_) (tb_ 1995 17) rfl rfl (any_of HT_.out (by kernel_rfl)) (fun _ _ _ h => h) (Or.inl ⟨by rfl, ?_⟩) ?_ ?_
    rotate_left
    · intro w'
      go_simp
      with_reducible rfl
    rotate_left
    · simp only [Act.put, sA_, sB_, sC_, i64_w, i32_w]
      rfl
    refine pure_ (i := 12) (N := some 30) (v := ?_) (a' := ?_) (tb_ 6091 17) rfl rfl (any_of HT_.out (by kernel_rfl)) (fun _ _ _ h => h) (Or.inl ⟨by rfl, ?_⟩) ?_ ?_
    rotate_left
    · intro w'
      go_simp
      with_reducible rfl
    rotate_left
    · simp only [Act.put, sA_, sB_, sC_, i64_w, i32_w]
      rfl
    refine take_ (i := 2) (N := some 20) (v := ?_) (a' := ?_) (tb_ 6095 17) rfl rfl (take_ofW HT_.out HW_.out (by kernel_rfl)) (fun _ _ _ h => h) (Or.inl ⟨by rfl, ?_⟩) hHeld ?_ ?_
    rotate_left
    · rintro w' ⟨s0, s1, s2, s3, s4, s5, s6⟩
      go_simp
      with_reducible rfl
    rotate_left
    · simp only [Act.put, sA_, sB_, sC_, i64_w, i32_w]
      rfl
    refine pure_ (i := 4) (N := some 22) (v := ?_) (a' := ?_) (tb_ 6111 17) rfl rfl (any_of HT_.out (by kernel_rfl)) (fun _ _ _ h => h) (Or.inl ⟨by rfl, ?_⟩) ?_ ?_
    rotate_left
    · intro w'
      go_simp
      with_reducible rfl
    rotate_left
    · simp only [Act.put, sA_, sB_, sC_, i64_w, i32_w]
      rfl
    refine take_ (i := 5) (N := some 23) (v := ?_) (a' := ?_) (tb_ 6143 17) rfl rfl (take_ofW HT_.out HW_.out (by kernel_rfl)) (fun _ _ _ h => h) (Or.inl ⟨by rfl, ?_⟩) hHeld ?_ ?_
    rotate_left
    · rintro w' ⟨s0, s1, s2, s3, s4, s5, s6⟩
      go_simp
      with_reducible rfl
    rotate_left
    · simp only [Act.put, sA_, sB_, sC_, i64_w, i32_w]
      rfl
    refine take_ (i := 11) (N := some 29) (v := ?_) (a' := ?_) (tf_ 13 17) rfl rfl (take_ofW HT_.out HW_.out (by kernel_rfl)) (fun _ _ _ h => h) (Or.inl ⟨by rfl, ?_⟩) hHeld ?_ ?_
    rotate_left
    · rintro w' ⟨s0, s1, s2, s3, s4, s5, s6⟩
      go_simp
      with_reducible rfl
    rotate_left
    · simp only [Act.put, sA_, sB_, sC_, i64_w, i32_w]
      rfl
    refine one_ (i := 13) (N := some 31) (tb_ 16383 17) rfl rfl (one_of HT_.out (by kernel_rfl)) (by decide) (fun K hK => ?_)
    refine goes_ Try.func38 (by kernel_rfl) rfl #[.agg #[.int .i64 ((rd_T66 l0_0 x10_1).f0), .int .i64 ((rd_T66 l0_0 x10_1).f1), .int .i64 ((rd_T66 l0_0 x10_1).f2), .int .u8 ((rd_T66 l0_0 x10_1).f3)], .int .i64 (rd x9_1 (ji11)), .int .i64 a3] (by rfl) rfl rfl (by (try simp only [List.map_toArray, List.map_cons, List.map_nil]); first | done | (simp only [hji11]; rfl) | rfl | (simp only [List.length_drop, List.length_take]; rfl)) ?_
    with_reducible refine (span_Next.calls ((rd_T66 l0_0 x10_1).f0) ((rd_T66 l0_0 x10_1).f1) ((rd_T66 l0_0 x10_1).f2) ((rd_T66 l0_0 x10_1).f3) (rd x9_1 (ji11)) a3 t135 _ A14.out).mono ?_
    rintro e w18 ⟨rfl, hb⟩
    have HS6_ := (hb.cell (World.block_lt_of_cell? _ _ (hHeld.2.2.2.2.2.2))).trans (hHeld.2.2.2.2.2.2); refine ⟨_, rfl, ?_⟩
    replace HO_9 := zD.mk (Kd.zX (by (with_reducible repeat (first | apply Kd.zP | apply Kd.zQ | apply Kd.zR)); exact HO_9.out) hb)
    replace BK129 := zD.mk (zK (by (with_reducible repeat (first | refine zB ?_ _ | refine zC ?_ | refine zA ?_ _)); exact BK129.out) hb)
    replace HB := zD.mk (zM (by repeat (first | (with_reducible first | exact HB.out | apply zJ | apply zH | apply zI | refine zF ?_ GE129.out) | exact HB.out)) hb)
    (try clear hb)
    (try clear hb2)
    (try clear hk)
    (try clear hi)
    refine hK.out _ _ ⟨(zE BK129.out 0).trans rfl, (zE BK129.out 1).trans rfl, ((HB.out.cell (World.block_lt_of_cell? w _ hw133_0)).trans hw133_0), ((HB.out.cell (World.block_lt_of_cell? w _ hw133_1)).trans hw133_1), ((HB.out.cell (World.block_lt_of_cell? w _ hw133_2)).trans hw133_2), ((HB.out.cell (World.block_lt_of_cell? w _ hw133_3)).trans hw133_3), HS6_⟩ (fun hHeld => ?_)
    clear hK K; refine norm_ (a' := ?_) ?_ ?_
    rotate_left
    · show Act.put _ (some 31) _ = _
      simp only [Act.put, sA_, sB_, sC_, i64_w, i32_w]; rfl
    refine last_ (i := 14) (N := some 32) (tb_ 32767 17) rfl rfl (one_of HT_.out (by kernel_rfl)) (by decide) (fun K hK => ?_)
    refine value_ (w1 := ?_) (v := ?_) (by rfl) rfl ?_ ?_
    rotate_left 2
    · go_simp
      constructor
      · rfl
      rfl
    refine hK.out _ _ ?_
    clear hK K; refine norm_ (a' := ?_) ?_ ?_
    rotate_left
    · show Act.put _ (some 32) _ = _
      simp only [Act.put, sA_, sB_, sC_, i64_w, i32_w]; rfl
    refine last_ (i := 15) (N := some 33) (tb_ 65535 17) rfl rfl (one_of HT_.out (by kernel_rfl)) (by decide) (fun K hK => ?_)
    refine Kd.R_append_step (Kd.int .i64) (w0 := w) w.heap.size (by rfl) (.tmp 18) (.tmp 32) 47 3 (.int .i64 0) 8 rfl Try.underlying47 info3 rfl (by decide) (by omega) (.slice (some ad134) x9_1.length co17) x9_1 t135 [.int .i64 t135] (fun _ => True) (fun _ => False) rfl rfl ?aP (fun _ hk => hk.elim) ?aF ?aO ?aB ?aS ?aL ?_
    (case aP => exact rfl)
    (case aB => exact (by repeat (first | (with_reducible first | exact HB.out | apply zJ | apply zH | apply zI | refine zF ?_ GE129.out) | exact HB.out)))
    (case aF => exact (fun _ _ => trivial))
    (case aO => exact (by (with_reducible repeat (first | apply Kd.zP | apply Kd.zQ | apply Kd.zR)); exact HO_9.out))
    (case aS => exact (zO (by repeat (first | (with_reducible first | exact HB.out | apply zJ | apply zH | apply zI | refine zF ?_ GE129.out) | exact HB.out))))
    (case aL => have := LMc15.out; omega)
    intro v137 w19 ho hb hg hat
    rw [← Ny136.out] at ho; replace BK129 := zD.mk (blk_grown (g := gb129) (o := .cells #[.slice (some ad133) l0_0.length c0_0, .slice A0_1 l0_1.length c0_1] 31 (0, 0)) (by (with_reducible repeat (first | refine zB ?_ _ | refine zC ?_ | refine zA ?_ _)); exact BK129.out) hg (Kd.R_ne HO_9.out BK129.out (by decide)))
    replace HB := zD.mk (hb); have HO138 := zD.mk (ho); clear HO_9; clear ho hb hg hat; refine hK.out _ _ ?_
    clear hK K; refine norm_ (a' := ?_) ?_ ?_
    rotate_left
    · show Act.put _ (some 33) _ = _
      simp only [Act.put, sA_, sB_, sC_, i64_w, i32_w]; rfl
    refine pure_ (i := 16) (N := some 9) (v := ?_) (a' := ?_) (tb_ 131071 17) rfl rfl (any_of HT_.out (by kernel_rfl)) (fun _ _ _ h => h) (Or.inl ⟨by rfl, ?_⟩) ?_ ?_
    rotate_left
    · intro w'
      go_simp
      with_reducible rfl
    rotate_left
    · simp only [Act.put, sA_, sB_, sC_, i64_w, i32_w]
      rfl
    refine done_ (done_of HT_.out (by kernel_rfl)) ?_
    try go_wp2
    go_roundg k1
    case measure => have := HK1.out; omega
    case rel => exact ⟨(y136), (wrap64 (x10_1 + 1)), (by first | rfl | (simp; done) | (simp [*]; done)), H', ⟨by have := HK1.out; omega⟩, ⟨by (with_reducible repeat (first | apply Kd.zP | apply Kd.zQ | apply Kd.zR)); exact HO138.out⟩, ⟨by (with_reducible repeat (first | refine zB ?_ _ | refine zC ?_ | refine zA ?_ _)); exact BK129.out⟩, ⟨by repeat (first | (with_reducible first | exact HB.out | apply zJ | apply zH | apply zI | refine zF ?_ GE129.out) | exact HB.out)⟩⟩
def span_Cells.f (k : Nat) (l0_0 : List (S66)) (l0_1 : List Int) (a1 : Int) (a2 : Int) (a3 : Int) (a4 : Int) : Option (Int) := (span_Trim.f k l0_0 l0_1 a1 a2).bind fun t140 => ((span_Columns.f k l0_0 l0_1 a1 t140 a4).bind fun t141 => (if 0 ≤ (wrap64 ((t141.length : Int) - 1)) then (if (wrap64 ((t141.length : Int) - 1)) < (t141.length : Int) then (if a3 = 3 then (some (wrap64 ((rd t141 (wrap64 ((t141.length : Int) - 1))) + 1))) else (some (rd t141 (wrap64 ((t141.length : Int) - 1))))) else (none)) else (none)))
theorem span_Cells.mono : ∀ a0 a1 a2 a3 a4 a5 k, LeO (span_Cells.f k a0 a1 a2 a3 a4 a5) (span_Cells.f (k + 1) a0 a1 a2 a3 a4 a5) := by
  intro a0 a1 a2 a3 a4 a5 k
  unfold span_Cells.f
  repeat' (with_reducible first | exact span_Columns.mono _ _ _ _ _ _ | exact span_Trim.mono _ _ _ _ _ | exact LeO.refl _ | exact LeO.none _ | refine LeO.ite ?_ ?_ | refine LeO.bind ?_ (fun _ => ?_))
def span_Cells.T1 : Bool × List (List Nat × List Nat) := (true, [([], []), ([], []), ([], []), ([], []), ([], []), ([2, 3, 4], [2, 3, 4]), ([], []), ([0, 1, 5, 6, 5], [0, 1, 5, 6]), ([7, 7, 0, 1, 2, 3, 4, 5, 6, 7], [7])])
def span_Cells.B1 : List Nat := [0, 0, 0, 0, 0, 28, 0, 127, 255]
theorem span_Cells.tab1 : rtab .any (opsOf Try.f42 1) = span_Cells.T1 := by kernel_rfl
theorem span_Cells.bits1 : waitsOk span_Cells.T1.2 span_Cells.B1 = true := by kernel_rfl
set_option maxHeartbeats 8000000 in
set_option maxRecDepth 100000 in
theorem span_Cells.calls (k : Nat) (A0_0 : Option Addr) (c0_0 : Nat) (l0_0 : List (S66)) (A0_1 : Option Addr) (c0_1 : Nat) (l0_1 : List Int) (a1 : Int) (a2 : Int) (a3 : Int) (a4 : Int) (r : Int) (w : World) (hr0_0 : Kd.C k66 w A0_0 l0_0.length l0_0) (hc0_0 : l0_0.length ≤ c0_0) (hr0_1 : Kd.C (Kd.int .u8) w A0_1 l0_1.length l0_1) (hc0_1 : l0_1.length ≤ c0_1) (h : span_Cells.f k l0_0 l0_1 a1 a2 a3 a4 = some r) :
    Calls Try.prog 42 #[.agg #[.slice A0_0 l0_0.length c0_0, .slice A0_1 l0_1.length c0_1], .int .i64 a1, .int .i64 a2, .int .u8 a3, .int .i64 a4] w fun e w' => e = .returned (.int .i64 r) ∧ Below w.heap.size w w' := by
  have hu31 := Try.underlying31; have HR0_0 := zD.mk hr0_0; have HC0_0 := zD.mk hc0_0; clear hr0_0 hc0_0; have HR0_1 := zD.mk hr0_1; have HC0_1 := zD.mk hc0_1; clear hr0_1 hc0_1; have HB := zD.mk (Below.refl w.heap.size w); have H : ((span_Trim.f k l0_0 l0_1 a1 a2).bind fun t140 => ((span_Columns.f k l0_0 l0_1 a1 t140 a4).bind fun t141 => (if 0 ≤ (wrap64 ((t141.length : Int) - 1)) then (if (wrap64 ((t141.length : Int) - 1)) < (t141.length : Int) then (if a3 = 3 then (some (wrap64 ((rd t141 (wrap64 ((t141.length : Int) - 1))) + 1))) else (some (rd t141 (wrap64 ((t141.length : Int) - 1))))) else (none)) else (none)))) = some r := h
  clear h; replace H := Option.bind_eq_some_iff.mp H; obtain ⟨t140, A60, H⟩ := H; replace H : ((span_Columns.f k l0_0 l0_1 a1 t140 a4).bind fun t141 => (if 0 ≤ (wrap64 ((t141.length : Int) - 1)) then (if (wrap64 ((t141.length : Int) - 1)) < (t141.length : Int) then (if a3 = 3 then (some (wrap64 ((rd t141 (wrap64 ((t141.length : Int) - 1))) + 1))) else (some (rd t141 (wrap64 ((t141.length : Int) - 1))))) else (none)) else (none))) = some r := H
  have A6 := zD.mk A60; clear A60; replace H := Option.bind_eq_some_iff.mp H; obtain ⟨t141, A70, H⟩ := H; replace H : (if 0 ≤ (wrap64 ((t141.length : Int) - 1)) then (if (wrap64 ((t141.length : Int) - 1)) < (t141.length : Int) then (if a3 = 3 then (some (wrap64 ((rd t141 (wrap64 ((t141.length : Int) - 1))) + 1))) else (some (rd t141 (wrap64 ((t141.length : Int) - 1))))) else (none)) else (none)) = some r := H; have A7 := zD.mk A70; clear A70; obtain ⟨ji8, hji8⟩ : ∃ j_ : Int, (wrap64 ((t141.length : Int) - 1)) = j_ := ⟨_, rfl⟩; replace H : (if 0 ≤ (ji8) then (if (ji8) < (t141.length : Int) then (if a3 = 3 then (some (wrap64 ((rd t141 (ji8)) + 1))) else (some (rd t141 (ji8)))) else (none)) else (none)) = some r := by first | (rw [hji8] at H; exact H) | (simp only [hji8] at H ⊢; exact H)
  (try rw [hji8] at A6)
  (try rw [hji8] at A7)
  have hji8w : (IntKind.i64.wrap ((t141.length : Int) - 1)) = ji8 := (i64_w _).trans hji8
  by_cases c9 : 0 ≤ (ji8)
  rotate_left
  · rw [if_neg c9] at H
    exact absurd H (by simp)
  rw [if_pos c9] at H; have c9b0 : decide (0 ≤ (ji8)) = true := decide_eq_true c9
  clear c9; by_cases c10 : (ji8) < (t141.length : Int)
  rotate_left
  · rw [if_neg c10] at H
    exact absurd H (by simp)
  rw [if_pos c10] at H; have c10b0 : decide ((ji8) < (t141.length : Int)) = true := decide_eq_true c10
  clear c10; by_cases c11 : a3 = 3
  · rw [if_pos c11] at H
    have c11b0 : (a3 == 3) = true := beq_iff_eq.mpr c11
    have c11b1 : (a3 != 3) = false := bne_eq_false_iff_eq.mpr c11
    clear c11; obtain rfl := Option.some.inj H
    go_enter Try.func42, Try.ntmps42
    try go_wp2_with (first | ((with_reducible refine gate_dst (N := 5) rfl ?_); refine box_event ?hg (N := 5) ?hd (cs := #[.slice A0_0 l0_0.length c0_0, .slice A0_1 l0_1.length c0_1]) (t := 31) ?hr ?_; (case hd => rfl); (case hg => rfl); (case hr => first | (go_simp; done) | (go_simp; rfl)); intro gb139 hg w12 hbox hb; have n0_ := zD.mk (zM (by repeat (first | (with_reducible first | exact HB.out | apply zJ | apply zH | apply zI) | exact HB.out)) hb); have n1_ := zD.mk (hbox); have n2_ := zD.mk ((by rw [hg]; exact (zO (by repeat (first | (with_reducible first | exact HB.out | apply zJ | apply zH | apply zI) | exact HB.out))) : w.heap.size ≤ gb139)); have n3_ := n2_; clear HB; have HB := n0_; have BK139 := n1_; have GW139 := n2_; have GE139 := n3_; clear n0_ n1_ n2_ n3_; clear hb hbox hg))
    replace BK139 := zD.mk (zC BK139.out); replace HB := zD.mk (zI HB.out); refine start_ (n := 9) (S := fun w' => w'.cell? ⟨gb139, 0, none⟩ = some (.slice A0_0 l0_0.length c0_0) ∧ w'.cell? ⟨gb139, 1, none⟩ = some (.slice A0_1 l0_1.length c0_1)) (ds := []) #[false, false, false, false, false, false, false, false, false] (by kernel_rfl) rfl rfl ⟨(zE BK139.out 0).trans rfl, (zE BK139.out 1).trans rfl⟩ (fun hHeld => ?_); refine with_tabW span_Cells.tab1 span_Cells.bits1 (fun HT_ HW_ => ?_)
    generalize w12.drew = w13 at BK139 HB hHeld ⊢
    refine pure_ (i := 1) (N := some 14) (v := ?_) (a' := ?_) (tb_ 2 9) rfl rfl (any_of HT_.out (by kernel_rfl)) (fun _ _ _ h => h) (Or.inl ⟨by rfl, ?_⟩) ?_ ?_
    rotate_left
    · intro w'
      go_simp
      with_reducible rfl
    rotate_left
    · simp only [Act.put, sA_, sB_, sC_, i64_w, i32_w]
      rfl
    refine pure_ (i := 3) (N := some 16) (v := ?_) (a' := ?_) (tb_ 10 9) rfl rfl (any_of HT_.out (by kernel_rfl)) (fun _ _ _ h => h) (Or.inl ⟨by rfl, ?_⟩) ?_ ?_
    rotate_left
    · intro w'
      go_simp
      with_reducible rfl
    rotate_left
    · simp only [Act.put, sA_, sB_, sC_, i64_w, i32_w]
      rfl
    refine pure_ (i := 4) (N := some 17) (v := ?_) (a' := ?_) (tb_ 26 9) rfl rfl (any_of HT_.out (by kernel_rfl)) (fun _ _ _ h => h) (Or.inl ⟨by rfl, ?_⟩) ?_ ?_
    rotate_left
    · intro w'
      go_simp
      with_reducible rfl
    rotate_left
    · simp only [Act.put, sA_, sB_, sC_, i64_w, i32_w]
      rfl
    refine pure_ (i := 6) (N := some 19) (v := ?_) (a' := ?_) (tb_ 90 9) rfl rfl (any_of HT_.out (by kernel_rfl)) (fun _ _ _ h => h) (Or.inl ⟨by rfl, ?_⟩) ?_ ?_
    rotate_left
    · intro w'
      go_simp
      with_reducible rfl
    rotate_left
    · simp only [Act.put, sA_, sB_, sC_, i64_w, i32_w]
      rfl
    refine take_ (i := 0) (N := some 13) (v := ?_) (a' := ?_) (tb_ 91 9) rfl rfl (take_ofW HT_.out HW_.out (by kernel_rfl)) (fun _ _ _ h => h) (Or.inl ⟨by rfl, ?_⟩) hHeld ?_ ?_
    rotate_left
    · rintro w' ⟨s0, s1⟩
      go_simp
      with_reducible rfl
    rotate_left
    · simp only [Act.put, sA_, sB_, sC_, i64_w, i32_w]
      rfl
    refine take_ (i := 2) (N := some 15) (v := ?_) (a' := ?_) (tb_ 95 9) rfl rfl (take_ofW HT_.out HW_.out (by kernel_rfl)) (fun _ _ _ h => h) (Or.inl ⟨by rfl, ?_⟩) hHeld ?_ ?_
    rotate_left
    · rintro w' ⟨s0, s1⟩
      go_simp
      with_reducible rfl
    rotate_left
    · simp only [Act.put, sA_, sB_, sC_, i64_w, i32_w]
      rfl
    refine one_ (i := 5) (N := some 18) (tb_ 127 9) rfl rfl (one_of HT_.out (by kernel_rfl)) (by decide) (fun K hK => ?_)
    refine goes_ Try.func39 (by kernel_rfl) rfl #[.agg #[.slice A0_0 l0_0.length c0_0, .slice A0_1 l0_1.length c0_1], .int .i64 a1, .int .i64 a2] (by rfl) rfl rfl (by (try simp only [List.map_toArray, List.map_cons, List.map_nil]); first | done | rfl | (simp only [List.length_drop, List.length_take]; rfl)) ?_
    with_reducible refine (span_Trim.calls k _ _ l0_0 _ _ l0_1 a1 a2 t140 _ ?side1 ?side2 ?side3 ?side4 A6.out).mono ?_
    (case side1 => repeat (first | exact (Kd.zV HR0_0.out HB.out) | (with_reducible refine Kd.zS ?_ _) | (with_reducible refine Kd.zT ?_ _) | (with_reducible refine Kd.zU ?_)))
    (case side2 => exact HC0_0.out)
    (case side3 => repeat (first | exact (Kd.zV HR0_1.out HB.out) | (with_reducible refine Kd.zS ?_ _) | (with_reducible refine Kd.zT ?_ _) | (with_reducible refine Kd.zU ?_)))
    (case side4 => exact HC0_1.out)
    rintro e w14 ⟨rfl, hb⟩
    refine ⟨_, rfl, ?_⟩
    replace BK139 := zD.mk (zK (by (with_reducible repeat (first | refine zB ?_ _ | refine zC ?_ | refine zA ?_ _)); exact BK139.out) hb)
    replace HB := zD.mk (zM (by repeat (first | (with_reducible first | exact HB.out | apply zJ | apply zH | apply zI | refine zF ?_ GE139.out) | exact HB.out)) hb)
    (try clear hb)
    (try clear hb2)
    (try clear hk)
    (try clear hi)
    refine hK.out _ _ ⟨(zE BK139.out 0).trans rfl, (zE BK139.out 1).trans rfl⟩ (fun hHeld => ?_)
    clear hK K; refine norm_ (a' := ?_) ?_ ?_
    rotate_left
    · show Act.put _ (some 18) _ = _
      simp only [Act.put, sA_, sB_, sC_, i64_w, i32_w]; rfl
    refine one_ (i := 7) (N := some 20) (tb_ 255 9) rfl rfl (one_of HT_.out (by kernel_rfl)) (by decide) (fun K hK => ?_)
    refine goes_ Try.func53 (by kernel_rfl) rfl #[.agg #[.slice A0_0 l0_0.length c0_0, .slice A0_1 l0_1.length c0_1], .int .i64 a1, .int .i64 t140, .int .i64 a4] (by rfl) rfl rfl (by (try simp only [List.map_toArray, List.map_cons, List.map_nil]); first | done | rfl | (simp only [List.length_drop, List.length_take]; rfl)) ?_
    with_reducible refine (span_Columns.calls k _ _ l0_0 _ _ l0_1 a1 t140 a4 t141 _ ?side1 ?side2 ?side3 ?side4 A7.out).mono ?_
    (case side1 => repeat (first | exact (Kd.zV HR0_0.out HB.out) | (with_reducible refine Kd.zS ?_ _) | (with_reducible refine Kd.zT ?_ _) | (with_reducible refine Kd.zU ?_)))
    (case side2 => exact HC0_0.out)
    (case side3 => repeat (first | exact (Kd.zV HR0_1.out HB.out) | (with_reducible refine Kd.zS ?_ _) | (with_reducible refine Kd.zT ?_ _) | (with_reducible refine Kd.zU ?_)))
    (case side4 => exact HC0_1.out)
    rintro e w15 ⟨v142, rfl, ho0, hb⟩
    refine ⟨_, rfl, ?_⟩
    have HO143 := zD.mk (Kd.zAa ho0 (zO (by repeat (first | (with_reducible first | exact HB.out | apply zJ | apply zH | apply zI | refine zF ?_ GE139.out) | exact HB.out))))
    replace BK139 := zD.mk (zK (by (with_reducible repeat (first | refine zB ?_ _ | refine zC ?_ | refine zA ?_ _)); exact BK139.out) hb)
    replace HB := zD.mk (zM (by repeat (first | (with_reducible first | exact HB.out | apply zJ | apply zH | apply zI | refine zF ?_ GE139.out) | exact HB.out)) hb)
    (try clear hb)
    (try clear hb2)
    (try clear hk)
    (try clear hi)
    (try clear ho0)
    refine hK.out _ _ ⟨(zE BK139.out 0).trans rfl, (zE BK139.out 1).trans rfl⟩ (fun hHeld => ?_)
    clear hK K; refine norm_ (a' := ?_) ?_ ?_
    rotate_left
    · show Act.put _ (some 20) _ = _
      simp only [Act.put, sA_, sB_, sC_, i64_w, i32_w]; rfl
    refine pure_ (i := 8) (N := some 11) (v := ?_) (a' := ?_) (tb_ 511 9) rfl rfl (any_of HT_.out (by kernel_rfl)) (fun _ _ _ h => h) (Or.inl ⟨by rfl, ?_⟩) ?_ ?_
    rotate_left
    · intro w'
      go_simp
      with_reducible rfl
    rotate_left
    · simp only [Act.put, sA_, sB_, sC_, i64_w, i32_w]
      rfl
    refine done_ (done_of HT_.out (by kernel_rfl)) ?_
    obtain ⟨Ao16, co16, eo16⟩ := Kd.zZ HO143.out; subst eo16; have p144 : 0 ≤ ((ji8) : Int) := of_decide_eq_true (by first | (with_reducible assumption) | assumption)
    have q144 : (ji8) < (t141.length : Int) := of_decide_eq_true (by first | (with_reducible assumption) | assumption)
    obtain ⟨ad144, e144, hx144_0⟩ := Kd.at_int (Kd.zW HO143.out).2.2 (ji8) p144 q144; cases e144
    replace p144 := eq_true p144; replace q144 := eq_true q144; try go_wp2
    go_ret
    exact ⟨by first | rfl | (simp [errW_none, errW_some] <;> rfl) | (simp only [← hji8]; first | rfl | (simp [errW_none, errW_some] <;> rfl)) | (simp [*, errW_none, errW_some] <;> rfl), by repeat (first | (with_reducible first | exact HB.out | apply zJ | apply zH | apply zI | refine zF ?_ GE139.out) | exact HB.out)⟩
  rw [if_neg c11] at H; have c11b0 : (a3 == 3) = false := beq_eq_false_iff_ne.mpr c11
  have c11b1 : (a3 != 3) = true := bne_iff_ne.mpr c11
  obtain rfl := Option.some.inj H
  go_enter Try.func42, Try.ntmps42
  try go_wp2_with (first | ((with_reducible refine gate_dst (N := 5) rfl ?_); refine box_event ?hg (N := 5) ?hd (cs := #[.slice A0_0 l0_0.length c0_0, .slice A0_1 l0_1.length c0_1]) (t := 31) ?hr ?_; (case hd => rfl); (case hg => rfl); (case hr => first | (go_simp; done) | (go_simp; rfl)); intro gb139 hg w17 hbox hb; have n0_ := zD.mk (zM (by repeat (first | (with_reducible first | exact HB.out | apply zJ | apply zH | apply zI) | exact HB.out)) hb); have n1_ := zD.mk (hbox); have n2_ := zD.mk ((by rw [hg]; exact (zO (by repeat (first | (with_reducible first | exact HB.out | apply zJ | apply zH | apply zI) | exact HB.out))) : w.heap.size ≤ gb139)); have n3_ := n2_; clear HB; have HB := n0_; have BK139 := n1_; have GW139 := n2_; have GE139 := n3_; clear n0_ n1_ n2_ n3_; clear hb hbox hg))
  replace BK139 := zD.mk (zC BK139.out); replace HB := zD.mk (zI HB.out); refine start_ (n := 9) (S := fun w' => w'.cell? ⟨gb139, 0, none⟩ = some (.slice A0_0 l0_0.length c0_0) ∧ w'.cell? ⟨gb139, 1, none⟩ = some (.slice A0_1 l0_1.length c0_1)) (ds := []) #[false, false, false, false, false, false, false, false, false] (by kernel_rfl) rfl rfl ⟨(zE BK139.out 0).trans rfl, (zE BK139.out 1).trans rfl⟩ (fun hHeld => ?_); refine with_tabW span_Cells.tab1 span_Cells.bits1 (fun HT_ HW_ => ?_)
  generalize w17.drew = w18 at BK139 HB hHeld ⊢
  refine pure_ (i := 1) (N := some 14) (v := ?_) (a' := ?_) (tb_ 2 9) rfl rfl (any_of HT_.out (by kernel_rfl)) (fun _ _ _ h => h) (Or.inl ⟨by rfl, ?_⟩) ?_ ?_
  rotate_left
  · intro w'
    go_simp
    with_reducible rfl
  rotate_left
  · simp only [Act.put, sA_, sB_, sC_, i64_w, i32_w]
    rfl
  refine pure_ (i := 3) (N := some 16) (v := ?_) (a' := ?_) (tb_ 10 9) rfl rfl (any_of HT_.out (by kernel_rfl)) (fun _ _ _ h => h) (Or.inl ⟨by rfl, ?_⟩) ?_ ?_
  rotate_left
  · intro w'
    go_simp
    with_reducible rfl
  rotate_left
  · simp only [Act.put, sA_, sB_, sC_, i64_w, i32_w]
    rfl
  refine pure_ (i := 4) (N := some 17) (v := ?_) (a' := ?_) (tb_ 26 9) rfl rfl (any_of HT_.out (by kernel_rfl)) (fun _ _ _ h => h) (Or.inl ⟨by rfl, ?_⟩) ?_ ?_
  rotate_left
  · intro w'
    go_simp
    with_reducible rfl
  rotate_left
  · simp only [Act.put, sA_, sB_, sC_, i64_w, i32_w]
    rfl
  refine pure_ (i := 6) (N := some 19) (v := ?_) (a' := ?_) (tb_ 90 9) rfl rfl (any_of HT_.out (by kernel_rfl)) (fun _ _ _ h => h) (Or.inl ⟨by rfl, ?_⟩) ?_ ?_
  rotate_left
  · intro w'
    go_simp
    with_reducible rfl
  rotate_left
  · simp only [Act.put, sA_, sB_, sC_, i64_w, i32_w]
    rfl
  refine take_ (i := 0) (N := some 13) (v := ?_) (a' := ?_) (tb_ 91 9) rfl rfl (take_ofW HT_.out HW_.out (by kernel_rfl)) (fun _ _ _ h => h) (Or.inl ⟨by rfl, ?_⟩) hHeld ?_ ?_
  rotate_left
  · rintro w' ⟨s0, s1⟩
    go_simp
    with_reducible rfl
  rotate_left
  · simp only [Act.put, sA_, sB_, sC_, i64_w, i32_w]
    rfl
  refine take_ (i := 2) (N := some 15) (v := ?_) (a' := ?_) (tb_ 95 9) rfl rfl (take_ofW HT_.out HW_.out (by kernel_rfl)) (fun _ _ _ h => h) (Or.inl ⟨by rfl, ?_⟩) hHeld ?_ ?_
  rotate_left
  · rintro w' ⟨s0, s1⟩
    go_simp
    with_reducible rfl
  rotate_left
  · simp only [Act.put, sA_, sB_, sC_, i64_w, i32_w]
    rfl
  refine one_ (i := 5) (N := some 18) (tb_ 127 9) rfl rfl (one_of HT_.out (by kernel_rfl)) (by decide) (fun K hK => ?_)
  refine goes_ Try.func39 (by kernel_rfl) rfl #[.agg #[.slice A0_0 l0_0.length c0_0, .slice A0_1 l0_1.length c0_1], .int .i64 a1, .int .i64 a2] (by rfl) rfl rfl (by (try simp only [List.map_toArray, List.map_cons, List.map_nil]); first | done | rfl | (simp only [List.length_drop, List.length_take]; rfl)) ?_
  with_reducible refine (span_Trim.calls k _ _ l0_0 _ _ l0_1 a1 a2 t140 _ ?side1 ?side2 ?side3 ?side4 A6.out).mono ?_
  (case side1 => repeat (first | exact (Kd.zV HR0_0.out HB.out) | (with_reducible refine Kd.zS ?_ _) | (with_reducible refine Kd.zT ?_ _) | (with_reducible refine Kd.zU ?_)))
  (case side2 => exact HC0_0.out)
  (case side3 => repeat (first | exact (Kd.zV HR0_1.out HB.out) | (with_reducible refine Kd.zS ?_ _) | (with_reducible refine Kd.zT ?_ _) | (with_reducible refine Kd.zU ?_)))
  (case side4 => exact HC0_1.out)
  rintro e w19 ⟨rfl, hb⟩
  refine ⟨_, rfl, ?_⟩
  replace BK139 := zD.mk (zK (by (with_reducible repeat (first | refine zB ?_ _ | refine zC ?_ | refine zA ?_ _)); exact BK139.out) hb)
  replace HB := zD.mk (zM (by repeat (first | (with_reducible first | exact HB.out | apply zJ | apply zH | apply zI | refine zF ?_ GE139.out) | exact HB.out)) hb)
  (try clear hb)
  (try clear hb2)
  (try clear hk)
  (try clear hi)
  refine hK.out _ _ ⟨(zE BK139.out 0).trans rfl, (zE BK139.out 1).trans rfl⟩ (fun hHeld => ?_)
  clear hK K; refine norm_ (a' := ?_) ?_ ?_
  rotate_left
  · show Act.put _ (some 18) _ = _
    simp only [Act.put, sA_, sB_, sC_, i64_w, i32_w]; rfl
  refine one_ (i := 7) (N := some 20) (tb_ 255 9) rfl rfl (one_of HT_.out (by kernel_rfl)) (by decide) (fun K hK => ?_)
  refine goes_ Try.func53 (by kernel_rfl) rfl #[.agg #[.slice A0_0 l0_0.length c0_0, .slice A0_1 l0_1.length c0_1], .int .i64 a1, .int .i64 t140, .int .i64 a4] (by rfl) rfl rfl (by (try simp only [List.map_toArray, List.map_cons, List.map_nil]); first | done | rfl | (simp only [List.length_drop, List.length_take]; rfl)) ?_
  with_reducible refine (span_Columns.calls k _ _ l0_0 _ _ l0_1 a1 t140 a4 t141 _ ?side1 ?side2 ?side3 ?side4 A7.out).mono ?_
  (case side1 => repeat (first | exact (Kd.zV HR0_0.out HB.out) | (with_reducible refine Kd.zS ?_ _) | (with_reducible refine Kd.zT ?_ _) | (with_reducible refine Kd.zU ?_)))
  (case side2 => exact HC0_0.out)
  (case side3 => repeat (first | exact (Kd.zV HR0_1.out HB.out) | (with_reducible refine Kd.zS ?_ _) | (with_reducible refine Kd.zT ?_ _) | (with_reducible refine Kd.zU ?_)))
  (case side4 => exact HC0_1.out)
  rintro e w20 ⟨v142, rfl, ho0, hb⟩
  refine ⟨_, rfl, ?_⟩
  have HO143 := zD.mk (Kd.zAa ho0 (zO (by repeat (first | (with_reducible first | exact HB.out | apply zJ | apply zH | apply zI | refine zF ?_ GE139.out) | exact HB.out))))
  replace BK139 := zD.mk (zK (by (with_reducible repeat (first | refine zB ?_ _ | refine zC ?_ | refine zA ?_ _)); exact BK139.out) hb)
  replace HB := zD.mk (zM (by repeat (first | (with_reducible first | exact HB.out | apply zJ | apply zH | apply zI | refine zF ?_ GE139.out) | exact HB.out)) hb)
  (try clear hb)
  (try clear hb2)
  (try clear hk)
  (try clear hi)
  (try clear ho0)
  refine hK.out _ _ ⟨(zE BK139.out 0).trans rfl, (zE BK139.out 1).trans rfl⟩ (fun hHeld => ?_)
  clear hK K; refine norm_ (a' := ?_) ?_ ?_
  rotate_left
  · show Act.put _ (some 20) _ = _
    simp only [Act.put, sA_, sB_, sC_, i64_w, i32_w]; rfl
  refine pure_ (i := 8) (N := some 11) (v := ?_) (a' := ?_) (tb_ 511 9) rfl rfl (any_of HT_.out (by kernel_rfl)) (fun _ _ _ h => h) (Or.inl ⟨by rfl, ?_⟩) ?_ ?_
  rotate_left
  · intro w'
    go_simp
    with_reducible rfl
  rotate_left
  · simp only [Act.put, sA_, sB_, sC_, i64_w, i32_w]
    rfl
  refine done_ (done_of HT_.out (by kernel_rfl)) ?_
  obtain ⟨Ao21, co21, eo21⟩ := Kd.zZ HO143.out; subst eo21; have p144 : 0 ≤ ((ji8) : Int) := of_decide_eq_true (by first | (with_reducible assumption) | assumption)
  have q144 : (ji8) < (t141.length : Int) := of_decide_eq_true (by first | (with_reducible assumption) | assumption)
  obtain ⟨ad144, e144, hx144_0⟩ := Kd.at_int (Kd.zW HO143.out).2.2 (ji8) p144 q144; cases e144
  replace p144 := eq_true p144; replace q144 := eq_true q144; try go_wp2
  go_ret
  exact ⟨by first | rfl | (simp [errW_none, errW_some] <;> rfl) | (simp only [← hji8]; first | rfl | (simp [errW_none, errW_some] <;> rfl)) | (simp [*, errW_none, errW_some] <;> rfl), by repeat (first | (with_reducible first | exact HB.out | apply zJ | apply zH | apply zI | refine zF ?_ GE139.out) | exact HB.out)⟩
def span_Make.f (k : Nat) (l0_0 : List (S66)) (l0_1 : List Int) (a1 : Int) (a2 : Int) (a3 : Int) (a4 : Int) : Option (Int × Int × Int × Int) := (span_Cells.f k l0_0 l0_1 a1 a2 a3 a4).bind fun t147 => (some (a1, a2, t147, a3))
theorem span_Make.mono : ∀ a0 a1 a2 a3 a4 a5 k, LeO (span_Make.f k a0 a1 a2 a3 a4 a5) (span_Make.f (k + 1) a0 a1 a2 a3 a4 a5) := by
  intro a0 a1 a2 a3 a4 a5 k
  unfold span_Make.f
  repeat' (with_reducible first | exact span_Cells.mono _ _ _ _ _ _ _ | exact LeO.refl _ | exact LeO.none _ | refine LeO.ite ?_ ?_ | refine LeO.bind ?_ (fun _ => ?_))
set_option maxHeartbeats 8000000 in
set_option maxRecDepth 100000 in
theorem span_Make.calls (k : Nat) (A0_0 : Option Addr) (c0_0 : Nat) (l0_0 : List (S66)) (A0_1 : Option Addr) (c0_1 : Nat) (l0_1 : List Int) (a1 : Int) (a2 : Int) (a3 : Int) (a4 : Int) (r1 : Int) (r2 : Int) (r3 : Int) (r4 : Int) (w : World) (hr0_0 : Kd.C k66 w A0_0 l0_0.length l0_0) (hc0_0 : l0_0.length ≤ c0_0) (hr0_1 : Kd.C (Kd.int .u8) w A0_1 l0_1.length l0_1) (hc0_1 : l0_1.length ≤ c0_1) (h : span_Make.f k l0_0 l0_1 a1 a2 a3 a4 = some (r1, r2, r3, r4)) :
    Calls Try.prog 30 #[.agg #[.slice A0_0 l0_0.length c0_0, .slice A0_1 l0_1.length c0_1], .int .i64 a1, .int .i64 a2, .int .u8 a3, .int .i64 a4] w fun e w' => e = .returned (.agg #[.int .i64 r1, .int .i64 r2, .int .i64 r3, .int .u8 r4]) ∧ Below w.heap.size w w' := by
  have hu31 := Try.underlying31; have hu54 := Try.underlying54; have HR0_0 := zD.mk hr0_0; have HC0_0 := zD.mk hc0_0; clear hr0_0 hc0_0; have HR0_1 := zD.mk hr0_1; have HC0_1 := zD.mk hc0_1; clear hr0_1 hc0_1; have HB := zD.mk (Below.refl w.heap.size w); have H : ((span_Cells.f k l0_0 l0_1 a1 a2 a3 a4).bind fun t147 => (some (a1, a2, t147, a3))) = some (r1, r2, r3, r4) := h
  clear h; replace H := Option.bind_eq_some_iff.mp H; obtain ⟨t147, A60, H⟩ := H; replace H : (some (a1, a2, t147, a3)) = some (r1, r2, r3, r4) := H; have A6 := zD.mk A60; clear A60; simp only [Option.some.injEq, Prod.mk.injEq] at H; obtain ⟨rfl, rfl, rfl, rfl⟩ := H; go_enter Try.func30, Try.ntmps30
  go_wp2_with (first | ((with_reducible refine gate_dst (N := 5) rfl ?_); refine box_event ?hg (N := 5) ?hd (cs := #[.slice A0_0 l0_0.length c0_0, .slice A0_1 l0_1.length c0_1]) (t := 31) ?hr ?_; (case hd => rfl); (case hg => rfl); (case hr => first | (go_simp; done) | (go_simp; rfl)); intro gb145 hg w7 hbox hb; have n0_ := zD.mk (zM (by repeat (first | (with_reducible first | exact HB.out | apply zJ | apply zH | apply zI) | exact HB.out)) hb); have n1_ := zD.mk (hbox); have n2_ := zD.mk ((by rw [hg]; exact (zO (by repeat (first | (with_reducible first | exact HB.out | apply zJ | apply zH | apply zI) | exact HB.out))) : w.heap.size ≤ gb145)); have n3_ := n2_; clear HB; have HB := n0_; have BK145 := n1_; have GW145 := n2_; have GE145 := n3_; clear n0_ n1_ n2_ n3_; clear hb hbox hg) | ((with_reducible refine gate_dst (N := 10) rfl ?_); refine box_event ?hg (N := 10) ?hd (cs := #[.int .i64 0, .int .i64 0, .int .i64 0, .int .u8 0]) (t := 54) ?hr ?_; (case hd => rfl); (case hg => rfl); (case hr => first | (go_simp; done) | (go_simp; rfl)); intro gb146 hg w8 hbox hb; have n0_ := zD.mk (zK (by (with_reducible repeat (first | refine zB ?_ _ | refine zC ?_ | refine zA ?_ _)); exact BK145.out) hb); have n1_ := zD.mk (zM (by repeat (first | (with_reducible first | exact HB.out | apply zJ | apply zH | apply zI | refine zF ?_ GE145.out) | exact HB.out)) hb); have n2_ := zD.mk (hbox); have n3_ := zD.mk ((by rw [hg]; exact (zO (by repeat (first | (with_reducible first | exact HB.out | apply zJ | apply zH | apply zI | refine zF ?_ GE145.out) | exact HB.out))) : w.heap.size ≤ gb146)); have n4_ := n3_; have n5_ := zD.mk ((by rw [hg]; exact Nat.ne_of_lt (blk_lt (by (with_reducible repeat (first | refine zB ?_ _ | refine zC ?_ | refine zA ?_ _)); exact BK145.out)) : gb145 ≠ gb146)); have n6_ := zD.mk n5_.out.symm; clear BK145; clear HB; have BK145 := n0_; have HB := n1_; have BK146 := n2_; have GW146 := n3_; have GE146 := n4_; have NB145_146 := n5_; have NB146_145 := n6_; clear n0_ n1_ n2_ n3_ n4_ n5_ n6_; clear hb hbox hg; have hnb9 := NB145_146.out; have hnc9 := NB146_145.out; have hcz10_0 : w8.cell? ⟨gb145, 0, none⟩ = some (.slice A0_0 l0_0.length c0_0) := (zE BK145.out 0).trans rfl; have hcz10_1 : w8.cell? ⟨gb145, 1, none⟩ = some (.slice A0_1 l0_1.length c0_1) := (zE BK145.out 1).trans rfl; have hfz10_0 := zG BK145.out 0; have hfz10_1 := zG BK145.out 1) | ((with_reducible refine gate_callee (f := 42) rfl ?_); refine goesL_ (some 18) rfl rfl Try.func42 (by kernel_rfl) rfl #[.agg #[.slice A0_0 l0_0.length c0_0, .slice A0_1 l0_1.length c0_1], .int .i64 a1, .int .i64 a2, .int .u8 a3, .int .i64 a4] rfl (by (try simp only [List.map_toArray, List.map_cons, List.map_nil]); first | done | rfl | (simp only [List.length_drop, List.length_take]; rfl)) ?_; (with_reducible refine (span_Cells.calls k _ _ l0_0 _ _ l0_1 a1 a2 a3 a4 t147 _ ?side1 ?side2 ?side3 ?side4 A6.out).mono ?_); (case side1 => repeat (first | exact (Kd.zV HR0_0.out HB.out) | (with_reducible refine Kd.zS ?_ _) | (with_reducible refine Kd.zT ?_ _) | (with_reducible refine Kd.zU ?_))); (case side2 => exact HC0_0.out); (case side3 => repeat (first | exact (Kd.zV HR0_1.out HB.out) | (with_reducible refine Kd.zS ?_ _) | (with_reducible refine Kd.zT ?_ _) | (with_reducible refine Kd.zU ?_))); (case side4 => exact HC0_1.out); rintro e w11 ⟨rfl, hb⟩; refine ⟨_, rfl, ?_⟩; replace BK145 := zD.mk (zK (by (with_reducible repeat (first | refine zB ?_ _ | refine zC ?_ | refine zA ?_ _)); exact BK145.out) hb); replace BK146 := zD.mk (zK (by (with_reducible repeat (first | refine zB ?_ _ | refine zC ?_ | refine zA ?_ _)); exact BK146.out) hb); replace HB := zD.mk (zM (by repeat (first | (with_reducible first | exact HB.out | apply zJ | apply zH | apply zI | refine zF ?_ GE145.out | refine zF ?_ GE146.out) | exact HB.out)) hb); (try clear hb); (try clear hb2); (try clear hk); (try clear hi); have hcz12_0 : w11.cell? ⟨gb146, 0, none⟩ = some (.int .i64 0) := (zE BK146.out 0).trans rfl; have hcz12_1 : w11.cell? ⟨gb146, 1, none⟩ = some (.int .i64 0) := (zE BK146.out 1).trans rfl; have hcz12_2 : w11.cell? ⟨gb146, 2, none⟩ = some (.int .i64 0) := (zE BK146.out 2).trans rfl; have hcz12_3 : w11.cell? ⟨gb146, 3, none⟩ = some (.int .u8 0) := (zE BK146.out 3).trans rfl; have hfz12_0 := zG BK146.out 0; have hfz12_1 := zG BK146.out 1; have hfz12_2 := zG BK146.out 2; have hfz12_3 := zG BK146.out 3) | ((with_reducible refine gate_store (t := 54) (p := 10) rfl ?_); refine store_event (t := 54) (p := 10) (v := ?vo_w13) (w1 := ((((w11.setCell ⟨gb146, 0, none⟩ (.int .i64 a1)).setCell ⟨gb146, 1, none⟩ (.int .i64 a2)).setCell ⟨gb146, 2, none⟩ (.int .i64 t147)).setCell ⟨gb146, 3, none⟩ (.int .u8 a3))) ?hg ?ho ?hn ?hr ?_; (case ho => rfl); (case hg => rfl); (case hn => rfl); (case hr => first | (go_simp; done) | (go_simp; rfl)); intro w13 hw; have n0_ : zD (w13.heap[gb145]? = some (.cells #[.slice A0_0 l0_0.length c0_0, .slice A0_1 l0_1.length c0_1] 31 (0, 0))) := ⟨(by rw [hw]; exact (by (with_reducible repeat (first | refine zB ?_ _ | refine zC ?_ | refine zA ?_ _)); refine zL ?_ NB145_146.out _; (with_reducible repeat (first | refine zB ?_ _ | refine zC ?_ | refine zA ?_ _)); refine zL ?_ NB145_146.out _; (with_reducible repeat (first | refine zB ?_ _ | refine zC ?_ | refine zA ?_ _)); refine zL ?_ NB145_146.out _; (with_reducible repeat (first | refine zB ?_ _ | refine zC ?_ | refine zA ?_ _)); refine zL ?_ NB145_146.out _; (with_reducible repeat (first | refine zB ?_ _ | refine zC ?_ | refine zA ?_ _)); exact BK145.out))⟩; have n1_ : zD (w13.heap[gb146]? = some (.cells #[.int .i64 a1, .int .i64 a2, .int .i64 t147, .int .u8 a3] 54 (0, 0))) := ⟨(by rw [hw]; exact (by (with_reducible repeat (first | refine zB ?_ _ | refine zC ?_ | refine zA ?_ _)); refine blk_put (cs := #[.int .i64 a1, .int .i64 a2, .int .i64 t147, .int .u8 0]) ?_ 3 _ rfl; (with_reducible repeat (first | refine zB ?_ _ | refine zC ?_ | refine zA ?_ _)); refine blk_put (cs := #[.int .i64 a1, .int .i64 a2, .int .i64 0, .int .u8 0]) ?_ 2 _ rfl; (with_reducible repeat (first | refine zB ?_ _ | refine zC ?_ | refine zA ?_ _)); refine blk_put (cs := #[.int .i64 a1, .int .i64 0, .int .i64 0, .int .u8 0]) ?_ 1 _ rfl; (with_reducible repeat (first | refine zB ?_ _ | refine zC ?_ | refine zA ?_ _)); refine blk_put (cs := #[.int .i64 0, .int .i64 0, .int .i64 0, .int .u8 0]) ?_ 0 _ rfl; (with_reducible repeat (first | refine zB ?_ _ | refine zC ?_ | refine zA ?_ _)); exact BK146.out))⟩; have n2_ : zD (Below w.heap.size w w13) := ⟨(by rw [hw]; exact (by repeat (first | (with_reducible first | exact HB.out | apply zJ | apply zH | apply zI | refine zF ?_ GE145.out | refine zF ?_ GE146.out) | exact HB.out)))⟩; clear hw; clear BK145; clear BK146; clear HB; have BK145 := n0_; have BK146 := n1_; have HB := n2_; clear n0_ n1_ n2_))
  refine bodyPost_ret (results_cell_row rfl _ _ gb146 54 #[.int .i64 a1, .int .i64 a2, .int .i64 t147, .int .u8 a3] (0, 0) _ rfl (by (with_reducible repeat (first | refine zB ?_ _ | refine zC ?_ | refine zA ?_ _)); exact BK146.out) Try.underlying54 rfl (by kernel_rfl)) rfl ?_
  exact ⟨by first | rfl | (simp [errW_none, errW_some] <;> rfl) | (simp [*, errW_none, errW_some] <;> rfl), by repeat (first | (with_reducible first | exact HB.out | apply zJ | apply zH | apply zI | refine zF ?_ GE145.out | refine zF ?_ GE146.out) | exact HB.out)⟩
def span_Ends.f (l0_0 : List (S66)) (l0_1 : List Int) (a1 : Int) : Option (Int × Bool) := if 0 ≤ a1 then (if a1 < (l0_1.length : Int) then (some (rd l0_1 a1, ((rd l0_1 a1) != 0))) else (none)) else (none)
set_option maxHeartbeats 8000000 in
set_option maxRecDepth 100000 in
theorem span_Ends.calls (A0_0 : Option Addr) (c0_0 : Nat) (l0_0 : List (S66)) (A0_1 : Option Addr) (c0_1 : Nat) (l0_1 : List Int) (a1 : Int) (r1 : Int) (r2 : Bool) (w : World) (hr0_0 : Kd.C k66 w A0_0 l0_0.length l0_0) (hc0_0 : l0_0.length ≤ c0_0) (hr0_1 : Kd.C (Kd.int .u8) w A0_1 l0_1.length l0_1) (hc0_1 : l0_1.length ≤ c0_1) (h : span_Ends.f l0_0 l0_1 a1 = some (r1, r2)) :
    Calls Try.prog 40 #[.agg #[.slice A0_0 l0_0.length c0_0, .slice A0_1 l0_1.length c0_1], .int .i64 a1] w fun e w' => e = .returned (.tuple #[.int .u8 r1, .bool r2]) ∧ Below w.heap.size w w' := by
  have hu31 := Try.underlying31; have HR0_0 := zD.mk hr0_0; have HC0_0 := zD.mk hc0_0; clear hr0_0 hc0_0; have HR0_1 := zD.mk hr0_1; have HC0_1 := zD.mk hc0_1; clear hr0_1 hc0_1; have HB := zD.mk (Below.refl w.heap.size w); have H : (if 0 ≤ a1 then (if a1 < (l0_1.length : Int) then (some (rd l0_1 a1, ((rd l0_1 a1) != 0))) else (none)) else (none)) = some (r1, r2) := h
  clear h; by_cases c3 : 0 ≤ a1
  rotate_left
  · rw [if_neg c3] at H
    exact absurd H (by simp)
  rw [if_pos c3] at H; have c3b0 : decide (0 ≤ a1) = true := decide_eq_true c3
  clear c3; by_cases c4 : a1 < (l0_1.length : Int)
  rotate_left
  · rw [if_neg c4] at H
    exact absurd H (by simp)
  rw [if_pos c4] at H; have c4b0 : decide (a1 < (l0_1.length : Int)) = true := decide_eq_true c4
  clear c4; simp only [Option.some.injEq, Prod.mk.injEq] at H; obtain ⟨rfl, rfl⟩ := H; go_enter Try.func40, Try.ntmps40
  go_wp2_with (first | ((with_reducible refine gate_dst (N := 2) rfl ?_); refine box_event ?hg (N := 2) ?hd (cs := #[.slice A0_0 l0_0.length c0_0, .slice A0_1 l0_1.length c0_1]) (t := 31) ?hr ?_; (case hd => rfl); (case hg => rfl); (case hr => first | (go_simp; done) | (go_simp; rfl)); intro gb148 hg w5 hbox hb; have n0_ := zD.mk (zM (by repeat (first | (with_reducible first | exact HB.out | apply zJ | apply zH | apply zI) | exact HB.out)) hb); have n1_ := zD.mk (hbox); have n2_ := zD.mk ((by rw [hg]; exact (zO (by repeat (first | (with_reducible first | exact HB.out | apply zJ | apply zH | apply zI) | exact HB.out))) : w.heap.size ≤ gb148)); have n3_ := n2_; clear HB; have HB := n0_; have BK148 := n1_; have GW148 := n2_; have GE148 := n3_; clear n0_ n1_ n2_ n3_; clear hb hbox hg; have hcz6_0 : w5.cell? ⟨gb148, 0, none⟩ = some (.slice A0_0 l0_0.length c0_0) := (zE BK148.out 0).trans rfl; have hcz6_1 : w5.cell? ⟨gb148, 1, none⟩ = some (.slice A0_1 l0_1.length c0_1) := (zE BK148.out 1).trans rfl; have hfz6_0 := zG BK148.out 0; have hfz6_1 := zG BK148.out 1; have p149 : 0 ≤ (a1 : Int) := of_decide_eq_true (by first | (with_reducible assumption) | assumption); have q149 : a1 < (l0_1.length : Int) := of_decide_eq_true (by first | (with_reducible assumption) | assumption); obtain ⟨ad149, e149, hx149_0⟩ := Kd.at_int HR0_1.out a1 p149 q149; cases e149; replace hx149_0 := (HB.out.cell (World.block_lt_of_cell? w _ hx149_0)).trans hx149_0; replace p149 := eq_true p149; replace q149 := eq_true q149; have p150 : 0 ≤ (a1 : Int) := of_decide_eq_true (by first | (with_reducible assumption) | assumption); have q150 : a1 < (l0_1.length : Int) := of_decide_eq_true (by first | (with_reducible assumption) | assumption); obtain ⟨ad150, e150, hx150_0⟩ := Kd.at_int HR0_1.out a1 p150 q150; obtain rfl : ad149 = ad150 := (by injection e150); replace hx150_0 := (HB.out.cell (World.block_lt_of_cell? w _ hx150_0)).trans hx150_0; replace p150 := eq_true p150; replace q150 := eq_true q150))
  repeat (go_quiet (first | ((with_reducible refine gate_dst (N := 2) rfl ?_); refine box_event ?hg (N := 2) ?hd (cs := #[.slice A0_0 l0_0.length c0_0, .slice A0_1 l0_1.length c0_1]) (t := 31) ?hr ?_; (case hd => rfl); (case hg => rfl); (case hr => first | (go_simp; done) | (go_simp; rfl)); intro gb148 hg w5 hbox hb; have n0_ := zD.mk (zM (by repeat (first | (with_reducible first | exact HB.out | apply zJ | apply zH | apply zI) | exact HB.out)) hb); have n1_ := zD.mk (hbox); have n2_ := zD.mk ((by rw [hg]; exact (zO (by repeat (first | (with_reducible first | exact HB.out | apply zJ | apply zH | apply zI) | exact HB.out))) : w.heap.size ≤ gb148)); have n3_ := n2_; clear HB; have HB := n0_; have BK148 := n1_; have GW148 := n2_; have GE148 := n3_; clear n0_ n1_ n2_ n3_; clear hb hbox hg; have hcz6_0 : w5.cell? ⟨gb148, 0, none⟩ = some (.slice A0_0 l0_0.length c0_0) := (zE BK148.out 0).trans rfl; have hcz6_1 : w5.cell? ⟨gb148, 1, none⟩ = some (.slice A0_1 l0_1.length c0_1) := (zE BK148.out 1).trans rfl; have hfz6_0 := zG BK148.out 0; have hfz6_1 := zG BK148.out 1; have p149 : 0 ≤ (a1 : Int) := of_decide_eq_true (by first | (with_reducible assumption) | assumption); have q149 : a1 < (l0_1.length : Int) := of_decide_eq_true (by first | (with_reducible assumption) | assumption); obtain ⟨ad149, e149, hx149_0⟩ := Kd.at_int HR0_1.out a1 p149 q149; cases e149; replace hx149_0 := (HB.out.cell (World.block_lt_of_cell? w _ hx149_0)).trans hx149_0; replace p149 := eq_true p149; replace q149 := eq_true q149; have p150 : 0 ≤ (a1 : Int) := of_decide_eq_true (by first | (with_reducible assumption) | assumption); have q150 : a1 < (l0_1.length : Int) := of_decide_eq_true (by first | (with_reducible assumption) | assumption); obtain ⟨ad150, e150, hx150_0⟩ := Kd.at_int HR0_1.out a1 p150 q150; obtain rfl : ad149 = ad150 := (by injection e150); replace hx150_0 := (HB.out.cell (World.block_lt_of_cell? w _ hx150_0)).trans hx150_0; replace p150 := eq_true p150; replace q150 := eq_true q150)); try go_wp2_with (first | ((with_reducible refine gate_dst (N := 2) rfl ?_); refine box_event ?hg (N := 2) ?hd (cs := #[.slice A0_0 l0_0.length c0_0, .slice A0_1 l0_1.length c0_1]) (t := 31) ?hr ?_; (case hd => rfl); (case hg => rfl); (case hr => first | (go_simp; done) | (go_simp; rfl)); intro gb148 hg w5 hbox hb; have n0_ := zD.mk (zM (by repeat (first | (with_reducible first | exact HB.out | apply zJ | apply zH | apply zI) | exact HB.out)) hb); have n1_ := zD.mk (hbox); have n2_ := zD.mk ((by rw [hg]; exact (zO (by repeat (first | (with_reducible first | exact HB.out | apply zJ | apply zH | apply zI) | exact HB.out))) : w.heap.size ≤ gb148)); have n3_ := n2_; clear HB; have HB := n0_; have BK148 := n1_; have GW148 := n2_; have GE148 := n3_; clear n0_ n1_ n2_ n3_; clear hb hbox hg; have hcz6_0 : w5.cell? ⟨gb148, 0, none⟩ = some (.slice A0_0 l0_0.length c0_0) := (zE BK148.out 0).trans rfl; have hcz6_1 : w5.cell? ⟨gb148, 1, none⟩ = some (.slice A0_1 l0_1.length c0_1) := (zE BK148.out 1).trans rfl; have hfz6_0 := zG BK148.out 0; have hfz6_1 := zG BK148.out 1; have p149 : 0 ≤ (a1 : Int) := of_decide_eq_true (by first | (with_reducible assumption) | assumption); have q149 : a1 < (l0_1.length : Int) := of_decide_eq_true (by first | (with_reducible assumption) | assumption); obtain ⟨ad149, e149, hx149_0⟩ := Kd.at_int HR0_1.out a1 p149 q149; cases e149; replace hx149_0 := (HB.out.cell (World.block_lt_of_cell? w _ hx149_0)).trans hx149_0; replace p149 := eq_true p149; replace q149 := eq_true q149; have p150 : 0 ≤ (a1 : Int) := of_decide_eq_true (by first | (with_reducible assumption) | assumption); have q150 : a1 < (l0_1.length : Int) := of_decide_eq_true (by first | (with_reducible assumption) | assumption); obtain ⟨ad150, e150, hx150_0⟩ := Kd.at_int HR0_1.out a1 p150 q150; obtain rfl : ad149 = ad150 := (by injection e150); replace hx150_0 := (HB.out.cell (World.block_lt_of_cell? w _ hx150_0)).trans hx150_0; replace p150 := eq_true p150; replace q150 := eq_true q150)))
  go_ret2
  exact ⟨by first | rfl | (simp [errW_none, errW_some] <;> rfl) | (simp [*, errW_none, errW_some] <;> rfl), by repeat (first | (with_reducible first | exact HB.out | apply zJ | apply zH | apply zI | refine zF ?_ GE148.out) | exact HB.out)⟩
end Go.Proofs.Ytcnblneghbgjgaa.F
end
