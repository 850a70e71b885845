/- Printed by a program: Lean functions that answer as the Go functions do, and the proofs of it. -/
import Derived.Test.YtcnblneghbgjgaaProg
import Derived.Below
import Derived.Deep.Draws
import Derived.Deep.AppendLies
import Derived.Maps.AppendAt
import Derived.OwnWalk
import Derived.Laws.BytesArg
import Derived.Laws.MakeOwn
import Derived.Laws.OwnMore
import Derived.Deep.OwnRows
import Derived.Tactics
import Derived.Lib.ConvBytes
import Derived.Laws.Slices
import Derived.WalkKit
import Derived.KernelRfl
import Derived.RowKit3
import Derived.Deep.LoopGhost
import Derived.Deep.QuietTactic
import Derived.BigQuiet
import Derived.WideLaws
import Derived.Deep.DeepCutAuto
import Derived.Deep.CutBlock
import Derived.Deep.RegionHeld3
import Derived.Laws.Rows
import Derived.Lib.AppendStr
import Derived.ArgAppend
import Derived.Laws.IdiomCopy
import Derived.OrdersHeld
import Derived.Laws.BitsLemmas
import Derived.RowKit
import Derived.Laws.FloatArith
import Derived.Test.YtcnblneghbgjgaaXLinesBreaks0
section
namespace Go.Proofs.Ytcnblneghbgjgaa.F
open Go.RowKit Go.Proofs.YtcnblneghbgjgaaW.PrintWords Go.Proofs.YtcnblneghbgjgaaW.PrintLast Go.Proofs.YtcnblneghbgjgaaW.PrintMore
attribute [local go_sem] max2_int min2_int max_two min_two max_three min_three max_four min_four   -- for this text's walks alone
set_option linter.unusedVariables false
set_option linter.unusedSimpArgs false
def errW : Option Int → Value
 | none => .nilIface
 | some c => .iface 0 (.int .i64 c)
theorem errW_none : errW none = .nilIface := rfl
theorem errW_some (c : Int) : errW (some c) = .iface 0 (.int .i64 c) := rfl
theorem info3 : (Try.prog.info? 3).map (fun i => (i.zero, i.size, i.bytes)) = some (some (.int .i64 0), 1, 8) := by kernel_rfl
theorem info47 : (Try.prog.info? 47).map (fun i => (i.zero, i.size, i.bytes)) = some (some (.slice none 0 0), 1, 24) := by kernel_rfl
theorem info51 : (Try.prog.info? 51).map (fun i => (i.zero, i.size, i.bytes)) = some (some (.int .u8 0), 1, 1) := by kernel_rfl
theorem info53 : (Try.prog.info? 53).map (fun i => (i.zero, i.size, i.bytes)) = some (some (.agg #[(.int .i64 0), (.int .i64 0), (.int .i64 0), (.int .u8 0)]), 4, 32) := by kernel_rfl
theorem info54 : (Try.prog.info? 54).map (fun i => (i.zero, i.size, i.bytes)) = some (some (.agg #[(.int .i64 0), (.int .i64 0), (.int .i64 0), (.int .u8 0)]), 4, 32) := by kernel_rfl
theorem info63 : (Try.prog.info? 63).map (fun i => (i.zero, i.size, i.bytes)) = some (some (.agg #[(.int .u8 0), (.int .u8 0), (.int .u8 0), (.int .u8 0)]), 4, 4) := by kernel_rfl
theorem info66 : (Try.prog.info? 66).map (fun i => (i.zero, i.size, i.bytes)) = some (some (.agg #[(.int .i64 0), (.int .i64 0), (.int .i64 0), (.int .u8 0)]), 4, 32) := by kernel_rfl
theorem info70 : (Try.prog.info? 70).map (fun i => (i.zero, i.size, i.bytes)) = some (some (.agg #[(.int .i64 0), (.int .i64 0)]), 2, 16) := by kernel_rfl
structure S63 where
 f0 : Int
 f1 : Int
 f2 : Int
 f3 : Int
def z63 : S63 := ⟨(0 : Int), (0 : Int), (0 : Int), (0 : Int)⟩
def k63 : Kd S63 := Kd.iso (Kd.pair (Kd.int .u8) (Kd.pair (Kd.int .u8) (Kd.pair (Kd.int .u8) (Kd.int .u8)))) (fun x : S63 => (x.f0, x.f1, x.f2, x.f3))
theorem k63_open {w : World} {x : S63} {cs : List Value} (h : k63.K w x cs) : cs = [.int .u8 x.f0, .int .u8 x.f1, .int .u8 x.f2, .int .u8 x.f3] := by
 obtain ⟨_, _, rfl, rfl, ⟨_, _, rfl, rfl, ⟨_, _, rfl, rfl, rfl⟩⟩⟩ := h; exact rfl
theorem k63_openM {w : World} {base : Nat} {ok : Nat → Prop} {x : S63} {cs : List Value} (h : k63.M w base ok x cs) : cs = [.int .u8 x.f0, .int .u8 x.f1, .int .u8 x.f2, .int .u8 x.f3] := by
 obtain ⟨_, _, rfl, rfl, ⟨_, _, rfl, rfl, ⟨_, _, rfl, rfl, rfl⟩⟩⟩ := h; exact rfl
theorem k63_mk (w : World) (x : S63)  : k63.K w x [.int .u8 x.f0, .int .u8 x.f1, .int .u8 x.f2, .int .u8 x.f3] := ⟨[.int .u8 x.f0], [.int .u8 x.f1, .int .u8 x.f2, .int .u8 x.f3], rfl, rfl, ⟨[.int .u8 x.f1], [.int .u8 x.f2, .int .u8 x.f3], rfl, rfl, ⟨[.int .u8 x.f2], [.int .u8 x.f3], rfl, rfl, rfl⟩⟩⟩
theorem k63_mkM (w : World) (base : Nat) (ok : Nat → Prop) (x : S63)  : k63.M w base ok x [.int .u8 x.f0, .int .u8 x.f1, .int .u8 x.f2, .int .u8 x.f3] := ⟨[.int .u8 x.f0], [.int .u8 x.f1, .int .u8 x.f2, .int .u8 x.f3], rfl, rfl, ⟨[.int .u8 x.f1], [.int .u8 x.f2, .int .u8 x.f3], rfl, rfl, ⟨[.int .u8 x.f2], [.int .u8 x.f3], rfl, rfl, rfl⟩⟩⟩
def rd_T63 (xs : List S63) (i : Int) : S63 := xs.getD i.toNat z63
theorem at_T63 {w : World} {A : Option Addr} {n : Nat} {xs : List S63} (h : Kd.C k63 w A n xs) (i : Int) (h0 : 0 ≤ i) (h1 : i < n) : ∃ ad , A = some ad ∧ w.cell? (ad.add (i.toNat * 4)) = some (.int .u8 (rd_T63 xs i).f0) ∧ w.cell? ⟨(ad.add (i.toNat * 4)).block, (ad.add (i.toNat * 4)).off + 1, none⟩ = some (.int .u8 (rd_T63 xs i).f1) ∧ w.cell? ⟨(ad.add (i.toNat * 4)).block, (ad.add (i.toNat * 4)).off + 2, none⟩ = some (.int .u8 (rd_T63 xs i).f2) ∧ w.cell? ⟨(ad.add (i.toNat * 4)).block, (ad.add (i.toNat * 4)).off + 3, none⟩ = some (.int .u8 (rd_T63 xs i).f3) := by
 obtain ⟨ad, c, e, _, hK, hc0⟩ := Kd.C_get h z63 i h0 h1; have hc : ∀ j u, c[j]? = some u → w.cell? (ad.add (i.toNat * 4 + j)) = some u := hc0
 obtain rfl := k63_open hK
 exact ⟨ad, e, hc 0 _ rfl, by rw [← add_field _ _ 1 (by omega)]; exact hc 1 _ rfl, by rw [← add_field _ _ 2 (by omega)]; exact hc 2 _ rfl, by rw [← add_field _ _ 3 (by omega)]; exact hc 3 _ rfl⟩
structure S66 where
 f0 : Int
 f1 : Int
 f2 : Int
 f3 : Int
def z66 : S66 := ⟨(0 : Int), (0 : Int), (0 : Int), (0 : Int)⟩
def k66 : Kd S66 := Kd.iso (Kd.pair (Kd.int .i64) (Kd.pair (Kd.int .i64) (Kd.pair (Kd.int .i64) (Kd.int .u8)))) (fun x : S66 => (x.f0, x.f1, x.f2, x.f3))
theorem k66_open {w : World} {x : S66} {cs : List Value} (h : k66.K w x cs) : cs = [.int .i64 x.f0, .int .i64 x.f1, .int .i64 x.f2, .int .u8 x.f3] := by
 obtain ⟨_, _, rfl, rfl, ⟨_, _, rfl, rfl, ⟨_, _, rfl, rfl, rfl⟩⟩⟩ := h; exact rfl
theorem k66_openM {w : World} {base : Nat} {ok : Nat → Prop} {x : S66} {cs : List Value} (h : k66.M w base ok x cs) : cs = [.int .i64 x.f0, .int .i64 x.f1, .int .i64 x.f2, .int .u8 x.f3] := by
 obtain ⟨_, _, rfl, rfl, ⟨_, _, rfl, rfl, ⟨_, _, rfl, rfl, rfl⟩⟩⟩ := h; exact rfl
theorem k66_mk (w : World) (x : S66)  : k66.K w x [.int .i64 x.f0, .int .i64 x.f1, .int .i64 x.f2, .int .u8 x.f3] := ⟨[.int .i64 x.f0], [.int .i64 x.f1, .int .i64 x.f2, .int .u8 x.f3], rfl, rfl, ⟨[.int .i64 x.f1], [.int .i64 x.f2, .int .u8 x.f3], rfl, rfl, ⟨[.int .i64 x.f2], [.int .u8 x.f3], rfl, rfl, rfl⟩⟩⟩
theorem k66_mkM (w : World) (base : Nat) (ok : Nat → Prop) (x : S66)  : k66.M w base ok x [.int .i64 x.f0, .int .i64 x.f1, .int .i64 x.f2, .int .u8 x.f3] := ⟨[.int .i64 x.f0], [.int .i64 x.f1, .int .i64 x.f2, .int .u8 x.f3], rfl, rfl, ⟨[.int .i64 x.f1], [.int .i64 x.f2, .int .u8 x.f3], rfl, rfl, ⟨[.int .i64 x.f2], [.int .u8 x.f3], rfl, rfl, rfl⟩⟩⟩
def rd_T66 (xs : List S66) (i : Int) : S66 := xs.getD i.toNat z66
theorem at_T66 {w : World} {A : Option Addr} {n : Nat} {xs : List S66} (h : Kd.C k66 w A n xs) (i : Int) (h0 : 0 ≤ i) (h1 : i < n) : ∃ ad , A = some ad ∧ w.cell? (ad.add (i.toNat * 4)) = some (.int .i64 (rd_T66 xs i).f0) ∧ w.cell? ⟨(ad.add (i.toNat * 4)).block, (ad.add (i.toNat * 4)).off + 1, none⟩ = some (.int .i64 (rd_T66 xs i).f1) ∧ w.cell? ⟨(ad.add (i.toNat * 4)).block, (ad.add (i.toNat * 4)).off + 2, none⟩ = some (.int .i64 (rd_T66 xs i).f2) ∧ w.cell? ⟨(ad.add (i.toNat * 4)).block, (ad.add (i.toNat * 4)).off + 3, none⟩ = some (.int .u8 (rd_T66 xs i).f3) := by
 obtain ⟨ad, c, e, _, hK, hc0⟩ := Kd.C_get h z66 i h0 h1; have hc : ∀ j u, c[j]? = some u → w.cell? (ad.add (i.toNat * 4 + j)) = some u := hc0
 obtain rfl := k66_open hK
 exact ⟨ad, e, hc 0 _ rfl, by rw [← add_field _ _ 1 (by omega)]; exact hc 1 _ rfl, by rw [← add_field _ _ 2 (by omega)]; exact hc 2 _ rfl, by rw [← add_field _ _ 3 (by omega)]; exact hc 3 _ rfl⟩
structure S54 where
 f0 : Int
 f1 : Int
 f2 : Int
 f3 : Int
def z54 : S54 := ⟨(0 : Int), (0 : Int), (0 : Int), (0 : Int)⟩
def k54 : Kd S54 := Kd.iso (Kd.pair (Kd.int .i64) (Kd.pair (Kd.int .i64) (Kd.pair (Kd.int .i64) (Kd.int .u8)))) (fun x : S54 => (x.f0, x.f1, x.f2, x.f3))
theorem k54_open {w : World} {x : S54} {cs : List Value} (h : k54.K w x cs) : cs = [.int .i64 x.f0, .int .i64 x.f1, .int .i64 x.f2, .int .u8 x.f3] := by
 obtain ⟨_, _, rfl, rfl, ⟨_, _, rfl, rfl, ⟨_, _, rfl, rfl, rfl⟩⟩⟩ := h; exact rfl
theorem k54_openM {w : World} {base : Nat} {ok : Nat → Prop} {x : S54} {cs : List Value} (h : k54.M w base ok x cs) : cs = [.int .i64 x.f0, .int .i64 x.f1, .int .i64 x.f2, .int .u8 x.f3] := by
 obtain ⟨_, _, rfl, rfl, ⟨_, _, rfl, rfl, ⟨_, _, rfl, rfl, rfl⟩⟩⟩ := h; exact rfl
theorem k54_mk (w : World) (x : S54)  : k54.K w x [.int .i64 x.f0, .int .i64 x.f1, .int .i64 x.f2, .int .u8 x.f3] := ⟨[.int .i64 x.f0], [.int .i64 x.f1, .int .i64 x.f2, .int .u8 x.f3], rfl, rfl, ⟨[.int .i64 x.f1], [.int .i64 x.f2, .int .u8 x.f3], rfl, rfl, ⟨[.int .i64 x.f2], [.int .u8 x.f3], rfl, rfl, rfl⟩⟩⟩
theorem k54_mkM (w : World) (base : Nat) (ok : Nat → Prop) (x : S54)  : k54.M w base ok x [.int .i64 x.f0, .int .i64 x.f1, .int .i64 x.f2, .int .u8 x.f3] := ⟨[.int .i64 x.f0], [.int .i64 x.f1, .int .i64 x.f2, .int .u8 x.f3], rfl, rfl, ⟨[.int .i64 x.f1], [.int .i64 x.f2, .int .u8 x.f3], rfl, rfl, ⟨[.int .i64 x.f2], [.int .u8 x.f3], rfl, rfl, rfl⟩⟩⟩
def rd_T54 (xs : List S54) (i : Int) : S54 := xs.getD i.toNat z54
theorem at_T54 {w : World} {A : Option Addr} {n : Nat} {xs : List S54} (h : Kd.C k54 w A n xs) (i : Int) (h0 : 0 ≤ i) (h1 : i < n) : ∃ ad , A = some ad ∧ w.cell? (ad.add (i.toNat * 4)) = some (.int .i64 (rd_T54 xs i).f0) ∧ w.cell? ⟨(ad.add (i.toNat * 4)).block, (ad.add (i.toNat * 4)).off + 1, none⟩ = some (.int .i64 (rd_T54 xs i).f1) ∧ w.cell? ⟨(ad.add (i.toNat * 4)).block, (ad.add (i.toNat * 4)).off + 2, none⟩ = some (.int .i64 (rd_T54 xs i).f2) ∧ w.cell? ⟨(ad.add (i.toNat * 4)).block, (ad.add (i.toNat * 4)).off + 3, none⟩ = some (.int .u8 (rd_T54 xs i).f3) := by
 obtain ⟨ad, c, e, _, hK, hc0⟩ := Kd.C_get h z54 i h0 h1; have hc : ∀ j u, c[j]? = some u → w.cell? (ad.add (i.toNat * 4 + j)) = some u := hc0
 obtain rfl := k54_open hK
 exact ⟨ad, e, hc 0 _ rfl, by rw [← add_field _ _ 1 (by omega)]; exact hc 1 _ rfl, by rw [← add_field _ _ 2 (by omega)]; exact hc 2 _ rfl, by rw [← add_field _ _ 3 (by omega)]; exact hc 3 _ rfl⟩
structure S70 where
 f0 : Int
 f1 : Int
def z70 : S70 := ⟨(0 : Int), (0 : Int)⟩
def k70 : Kd S70 := Kd.iso (Kd.pair (Kd.int .i64) (Kd.int .i64)) (fun x : S70 => (x.f0, x.f1))
theorem k70_open {w : World} {x : S70} {cs : List Value} (h : k70.K w x cs) : cs = [.int .i64 x.f0, .int .i64 x.f1] := by
 obtain ⟨_, _, rfl, rfl, rfl⟩ := h; exact rfl
theorem k70_openM {w : World} {base : Nat} {ok : Nat → Prop} {x : S70} {cs : List Value} (h : k70.M w base ok x cs) : cs = [.int .i64 x.f0, .int .i64 x.f1] := by
 obtain ⟨_, _, rfl, rfl, rfl⟩ := h; exact rfl
theorem k70_mk (w : World) (x : S70)  : k70.K w x [.int .i64 x.f0, .int .i64 x.f1] := ⟨[.int .i64 x.f0], [.int .i64 x.f1], rfl, rfl, rfl⟩
theorem k70_mkM (w : World) (base : Nat) (ok : Nat → Prop) (x : S70)  : k70.M w base ok x [.int .i64 x.f0, .int .i64 x.f1] := ⟨[.int .i64 x.f0], [.int .i64 x.f1], rfl, rfl, rfl⟩
def rd_T70 (xs : List S70) (i : Int) : S70 := xs.getD i.toNat z70
theorem at_T70 {w : World} {A : Option Addr} {n : Nat} {xs : List S70} (h : Kd.C k70 w A n xs) (i : Int) (h0 : 0 ≤ i) (h1 : i < n) : ∃ ad , A = some ad ∧ w.cell? (ad.add (i.toNat * 2)) = some (.int .i64 (rd_T70 xs i).f0) ∧ w.cell? ⟨(ad.add (i.toNat * 2)).block, (ad.add (i.toNat * 2)).off + 1, none⟩ = some (.int .i64 (rd_T70 xs i).f1) := by
 obtain ⟨ad, c, e, _, hK, hc0⟩ := Kd.C_get h z70 i h0 h1; have hc : ∀ j u, c[j]? = some u → w.cell? (ad.add (i.toNat * 2 + j)) = some u := hc0
 obtain rfl := k70_open hK
 exact ⟨ad, e, hc 0 _ rfl, by rw [← add_field _ _ 1 (by omega)]; exact hc 1 _ rfl⟩
structure S53 where
 f0 : Int
 f1 : Int
 f2 : Int
 f3 : Int
def z53 : S53 := ⟨(0 : Int), (0 : Int), (0 : Int), (0 : Int)⟩
def k53 : Kd S53 := Kd.iso (Kd.pair (Kd.int .i64) (Kd.pair (Kd.int .i64) (Kd.pair (Kd.int .i64) (Kd.int .u8)))) (fun x : S53 => (x.f0, x.f1, x.f2, x.f3))
theorem k53_open {w : World} {x : S53} {cs : List Value} (h : k53.K w x cs) : cs = [.int .i64 x.f0, .int .i64 x.f1, .int .i64 x.f2, .int .u8 x.f3] := by
 obtain ⟨_, _, rfl, rfl, ⟨_, _, rfl, rfl, ⟨_, _, rfl, rfl, rfl⟩⟩⟩ := h; exact rfl
theorem k53_openM {w : World} {base : Nat} {ok : Nat → Prop} {x : S53} {cs : List Value} (h : k53.M w base ok x cs) : cs = [.int .i64 x.f0, .int .i64 x.f1, .int .i64 x.f2, .int .u8 x.f3] := by
 obtain ⟨_, _, rfl, rfl, ⟨_, _, rfl, rfl, ⟨_, _, rfl, rfl, rfl⟩⟩⟩ := h; exact rfl
theorem k53_mk (w : World) (x : S53)  : k53.K w x [.int .i64 x.f0, .int .i64 x.f1, .int .i64 x.f2, .int .u8 x.f3] := ⟨[.int .i64 x.f0], [.int .i64 x.f1, .int .i64 x.f2, .int .u8 x.f3], rfl, rfl, ⟨[.int .i64 x.f1], [.int .i64 x.f2, .int .u8 x.f3], rfl, rfl, ⟨[.int .i64 x.f2], [.int .u8 x.f3], rfl, rfl, rfl⟩⟩⟩
theorem k53_mkM (w : World) (base : Nat) (ok : Nat → Prop) (x : S53)  : k53.M w base ok x [.int .i64 x.f0, .int .i64 x.f1, .int .i64 x.f2, .int .u8 x.f3] := ⟨[.int .i64 x.f0], [.int .i64 x.f1, .int .i64 x.f2, .int .u8 x.f3], rfl, rfl, ⟨[.int .i64 x.f1], [.int .i64 x.f2, .int .u8 x.f3], rfl, rfl, ⟨[.int .i64 x.f2], [.int .u8 x.f3], rfl, rfl, rfl⟩⟩⟩
def rd_T53 (xs : List S53) (i : Int) : S53 := xs.getD i.toNat z53
theorem at_T53 {w : World} {A : Option Addr} {n : Nat} {xs : List S53} (h : Kd.C k53 w A n xs) (i : Int) (h0 : 0 ≤ i) (h1 : i < n) : ∃ ad , A = some ad ∧ w.cell? (ad.add (i.toNat * 4)) = some (.int .i64 (rd_T53 xs i).f0) ∧ w.cell? ⟨(ad.add (i.toNat * 4)).block, (ad.add (i.toNat * 4)).off + 1, none⟩ = some (.int .i64 (rd_T53 xs i).f1) ∧ w.cell? ⟨(ad.add (i.toNat * 4)).block, (ad.add (i.toNat * 4)).off + 2, none⟩ = some (.int .i64 (rd_T53 xs i).f2) ∧ w.cell? ⟨(ad.add (i.toNat * 4)).block, (ad.add (i.toNat * 4)).off + 3, none⟩ = some (.int .u8 (rd_T53 xs i).f3) := by
 obtain ⟨ad, c, e, _, hK, hc0⟩ := Kd.C_get h z53 i h0 h1; have hc : ∀ j u, c[j]? = some u → w.cell? (ad.add (i.toNat * 4 + j)) = some u := hc0
 obtain rfl := k53_open hK
 exact ⟨ad, e, hc 0 _ rfl, by rw [← add_field _ _ 1 (by omega)]; exact hc 1 _ rfl, by rw [← add_field _ _ 2 (by omega)]; exact hc 2 _ rfl, by rw [← add_field _ _ 3 (by omega)]; exact hc 3 _ rfl⟩
def rd_L7 (xs : List (List Int)) (i : Int) : (List Int) := xs.getD i.toNat ([] : List Int)
theorem at_L7 {w : World} {A : Option Addr} {n : Nat} {xs : List (List Int)} (h : Kd.C (Kd.slice 3 (Kd.int .i64)) w A n xs) (i : Int) (h0 : 0 ≤ i) (h1 : i < n) : ∃ ad A0 c0, A = some ad ∧ w.cell? (ad.add i.toNat) = some (.slice A0 (rd_L7 xs i).length c0) ∧ (rd_L7 xs i).length ≤ c0 ∧ (Kd.int .i64).C w A0 (rd_L7 xs i).length (rd_L7 xs i) := by
 obtain ⟨ad, c, e, _, hK, hc0⟩ := Kd.C_get h ([] : List Int) i h0 h1; have hc : ∀ j u, c[j]? = some u → w.cell? (ad.add (i.toNat * 1 + j)) = some u := hc0
 obtain ⟨A0, c0, rfl, l0, g0⟩ := hK; exact ⟨ad, A0, c0, e, by have hq := hc 0 _ rfl; rwa [Nat.mul_one, Nat.add_zero] at hq, l0, g0⟩
def rd_L8 (xs : List (List S63)) (i : Int) : (List S63) := xs.getD i.toNat ([] : List S63)
theorem at_L8 {w : World} {A : Option Addr} {n : Nat} {xs : List (List S63)} (h : Kd.C (Kd.slice 63 k63) w A n xs) (i : Int) (h0 : 0 ≤ i) (h1 : i < n) : ∃ ad A0 c0, A = some ad ∧ w.cell? (ad.add i.toNat) = some (.slice A0 (rd_L8 xs i).length c0) ∧ (rd_L8 xs i).length ≤ c0 ∧ k63.C w A0 (rd_L8 xs i).length (rd_L8 xs i) := by
 obtain ⟨ad, c, e, _, hK, hc0⟩ := Kd.C_get h ([] : List S63) i h0 h1; have hc : ∀ j u, c[j]? = some u → w.cell? (ad.add (i.toNat * 1 + j)) = some u := hc0
 obtain ⟨A0, c0, rfl, l0, g0⟩ := hK; exact ⟨ad, A0, c0, e, by have hq := hc 0 _ rfl; rwa [Nat.mul_one, Nat.add_zero] at hq, l0, g0⟩
structure S26 where
 f0 : Int
 f1 : Int
 f2 : Int
 f3 : Int
 f4 : Int
 f5 : Nat
def z26 : S26 := ⟨(0 : Int), (0 : Int), (0 : Int), (0 : Int), (0 : Int), (0 : Nat)⟩
def k26 : Kd S26 := Kd.iso (Kd.pair (Kd.int .u8) (Kd.pair (Kd.int .u8) (Kd.pair (Kd.int .u8) (Kd.pair (Kd.int .u16) (Kd.pair (Kd.int .u16) Kd.f64))))) (fun x : S26 => (x.f0, x.f1, x.f2, x.f3, x.f4, x.f5))
theorem k26_open {w : World} {x : S26} {cs : List Value} (h : k26.K w x cs) : cs = [.int .u8 x.f0, .int .u8 x.f1, .int .u8 x.f2, .int .u16 x.f3, .int .u16 x.f4, .float .f64 x.f5] := by
 obtain ⟨_, _, rfl, rfl, ⟨_, _, rfl, rfl, ⟨_, _, rfl, rfl, ⟨_, _, rfl, rfl, ⟨_, _, rfl, rfl, rfl⟩⟩⟩⟩⟩ := h; exact rfl
theorem k26_openM {w : World} {base : Nat} {ok : Nat → Prop} {x : S26} {cs : List Value} (h : k26.M w base ok x cs) : cs = [.int .u8 x.f0, .int .u8 x.f1, .int .u8 x.f2, .int .u16 x.f3, .int .u16 x.f4, .float .f64 x.f5] := by
 obtain ⟨_, _, rfl, rfl, ⟨_, _, rfl, rfl, ⟨_, _, rfl, rfl, ⟨_, _, rfl, rfl, ⟨_, _, rfl, rfl, rfl⟩⟩⟩⟩⟩ := h; exact rfl
theorem k26_mk (w : World) (x : S26)  : k26.K w x [.int .u8 x.f0, .int .u8 x.f1, .int .u8 x.f2, .int .u16 x.f3, .int .u16 x.f4, .float .f64 x.f5] := ⟨[.int .u8 x.f0], [.int .u8 x.f1, .int .u8 x.f2, .int .u16 x.f3, .int .u16 x.f4, .float .f64 x.f5], rfl, rfl, ⟨[.int .u8 x.f1], [.int .u8 x.f2, .int .u16 x.f3, .int .u16 x.f4, .float .f64 x.f5], rfl, rfl, ⟨[.int .u8 x.f2], [.int .u16 x.f3, .int .u16 x.f4, .float .f64 x.f5], rfl, rfl, ⟨[.int .u16 x.f3], [.int .u16 x.f4, .float .f64 x.f5], rfl, rfl, ⟨[.int .u16 x.f4], [.float .f64 x.f5], rfl, rfl, rfl⟩⟩⟩⟩⟩
theorem k26_mkM (w : World) (base : Nat) (ok : Nat → Prop) (x : S26)  : k26.M w base ok x [.int .u8 x.f0, .int .u8 x.f1, .int .u8 x.f2, .int .u16 x.f3, .int .u16 x.f4, .float .f64 x.f5] := ⟨[.int .u8 x.f0], [.int .u8 x.f1, .int .u8 x.f2, .int .u16 x.f3, .int .u16 x.f4, .float .f64 x.f5], rfl, rfl, ⟨[.int .u8 x.f1], [.int .u8 x.f2, .int .u16 x.f3, .int .u16 x.f4, .float .f64 x.f5], rfl, rfl, ⟨[.int .u8 x.f2], [.int .u16 x.f3, .int .u16 x.f4, .float .f64 x.f5], rfl, rfl, ⟨[.int .u16 x.f3], [.int .u16 x.f4, .float .f64 x.f5], rfl, rfl, ⟨[.int .u16 x.f4], [.float .f64 x.f5], rfl, rfl, rfl⟩⟩⟩⟩⟩
def rd_T26 (xs : List S26) (i : Int) : S26 := xs.getD i.toNat z26
theorem at_T26 {w : World} {A : Option Addr} {n : Nat} {xs : List S26} (h : Kd.C k26 w A n xs) (i : Int) (h0 : 0 ≤ i) (h1 : i < n) : ∃ ad , A = some ad ∧ w.cell? (ad.add (i.toNat * 6)) = some (.int .u8 (rd_T26 xs i).f0) ∧ w.cell? ⟨(ad.add (i.toNat * 6)).block, (ad.add (i.toNat * 6)).off + 1, none⟩ = some (.int .u8 (rd_T26 xs i).f1) ∧ w.cell? ⟨(ad.add (i.toNat * 6)).block, (ad.add (i.toNat * 6)).off + 2, none⟩ = some (.int .u8 (rd_T26 xs i).f2) ∧ w.cell? ⟨(ad.add (i.toNat * 6)).block, (ad.add (i.toNat * 6)).off + 3, none⟩ = some (.int .u16 (rd_T26 xs i).f3) ∧ w.cell? ⟨(ad.add (i.toNat * 6)).block, (ad.add (i.toNat * 6)).off + 4, none⟩ = some (.int .u16 (rd_T26 xs i).f4) ∧ w.cell? ⟨(ad.add (i.toNat * 6)).block, (ad.add (i.toNat * 6)).off + 5, none⟩ = some (.float .f64 (rd_T26 xs i).f5) := by
 obtain ⟨ad, c, e, _, hK, hc0⟩ := Kd.C_get h z26 i h0 h1; have hc : ∀ j u, c[j]? = some u → w.cell? (ad.add (i.toNat * 6 + j)) = some u := hc0
 obtain rfl := k26_open hK
 exact ⟨ad, e, hc 0 _ rfl, by rw [← add_field _ _ 1 (by omega)]; exact hc 1 _ rfl, by rw [← add_field _ _ 2 (by omega)]; exact hc 2 _ rfl, by rw [← add_field _ _ 3 (by omega)]; exact hc 3 _ rfl, by rw [← add_field _ _ 4 (by omega)]; exact hc 4 _ rfl, by rw [← add_field _ _ 5 (by omega)]; exact hc 5 _ rfl⟩
mutual
def h3_Para.j1 : Nat → List (S63) → List (S66) → Option ((List (S66)) × List Int)
 | 0, _, _ => none
 | k + 1, x0, x103000 => h3_Para.l1 k x0 0 x103000 ([] : List Int)
def h3_Para.l1 : Nat → List (S63) → Int → List (S66) → List Int → Option ((List (S66)) × List Int)
 | 0, _, _, _, _ => none
 | k + 1, x0, x8, x103000, x103001 => if x8 < (x103000.length : Int) then (if x8 > 0 then (if 0 ≤ (wrap64 (x8 - 1)) then (if (wrap64 (x8 - 1)) < (x0.length : Int) then (if x103001.length < 140737488355328 then (h3_Para.l1 k x0 (wrap64 (x8 + 1)) x103000 (x103001 ++ [Int.tmod ((rd_T63 x0 (wrap64 (x8 - 1))).f3) 4])) else (none)) else (none)) else (none)) else (if x103001.length < 140737488355328 then (h3_Para.l1 k x0 (wrap64 (x8 + 1)) x103000 (x103001 ++ [0])) else (none))) else (if x103001.length < 140737488355328 then (some (x103000, (x103001 ++ [2]))) else (none))
def h3_Para.l0 : Nat → List (S63) → Int → Int → List (S66) → Option ((List (S66)) × List Int)
 | 0, _, _, _, _ => none
 | k + 1, x0, x4, x5, x103000 => if x5 < (x0.length : Int) then (if x4 < 4000 then (if 0 ≤ x5 then (if x103000.length < 4398046511104 then (h3_Para.l0 k x0 (wrap64 (x4 + (wrap64 (1 + (wrap64 (Int.tmod ((rd_T63 x0 x5).f2) 4)))))) (wrap64 (x5 + 1)) (x103000 ++ [(⟨x4, wrap64 (1 + (wrap64 (Int.tmod ((rd_T63 x0 x5).f2) 4))), wrap64 (Int.tmod ((rd_T63 x0 x5).f0) 3), Int.tmod ((rd_T63 x0 x5).f1) 3⟩ : S66)])) else (none)) else (none)) else (h3_Para.j1 k x0 x103000)) else (h3_Para.j1 k x0 x103000)
end
def h3_Para.f (k : Nat) (l0 : List (S63)) : Option ((List (S66)) × List Int) := h3_Para.l0 k l0 0 0 ([] : List (S66))
theorem h3_Para.mono_l : ∀ k, (∀ y0 y1, LeO (h3_Para.j1 k y0 y1) (h3_Para.j1 (k + 1) y0 y1)) ∧ (∀ y0 y1 y2 y3, LeO (h3_Para.l1 k y0 y1 y2 y3) (h3_Para.l1 (k + 1) y0 y1 y2 y3)) ∧ (∀ y0 y1 y2 y3, LeO (h3_Para.l0 k y0 y1 y2 y3) (h3_Para.l0 (k + 1) y0 y1 y2 y3))
 | 0 => ⟨fun _ _ r h => by simp [h3_Para.j1] at h, fun _ _ _ _ r h => by simp [h3_Para.l1] at h, fun _ _ _ _ r h => by simp [h3_Para.l0] at h⟩
 | k + 1 => by
  obtain ⟨ih0, ih1, ih2⟩ := h3_Para.mono_l k; refine ⟨?_, ?_, ?_⟩
  ·intro y0 y1
   unfold h3_Para.j1
   repeat' (with_reducible first | exact ih0 _ _ | exact ih1 _ _ _ _ | exact ih2 _ _ _ _ | exact LeO.refl _ | exact LeO.none _ | refine LeO.ite ?_ ?_ | refine LeO.bind ?_ (fun _ => ?_))
  ·intro y0 y1 y2 y3
   unfold h3_Para.l1
   repeat' (with_reducible first | exact ih0 _ _ | exact ih1 _ _ _ _ | exact ih2 _ _ _ _ | exact LeO.refl _ | exact LeO.none _ | refine LeO.ite ?_ ?_ | refine LeO.bind ?_ (fun _ => ?_))
  ·intro y0 y1 y2 y3
   unfold h3_Para.l0
   repeat' (with_reducible first | exact ih0 _ _ | exact ih1 _ _ _ _ | exact ih2 _ _ _ _ | exact LeO.refl _ | exact LeO.none _ | refine LeO.ite ?_ ?_ | refine LeO.bind ?_ (fun _ => ?_))
theorem h3_Para.mono : ∀ a0 k, LeO (h3_Para.f k a0) (h3_Para.f (k + 1) a0) := by
 intro a0 k
 obtain ⟨ih0, ih1, ih2⟩ := h3_Para.mono_l k; unfold h3_Para.f
 repeat' (with_reducible first | exact ih0 _ _ | exact ih1 _ _ _ _ | exact ih2 _ _ _ _ | exact LeO.refl _ | exact LeO.none _ | refine LeO.ite ?_ ?_ | refine LeO.bind ?_ (fun _ => ?_))
set_option maxHeartbeats 8000000 in
set_option maxRecDepth 100000 in
theorem h3_Para.calls (k : Nat) (A0 : Option Addr) (c0 : Nat) (l0 : List (S63)) (r1 : List (S66)) (r2 : List Int) (w : World) (hr0 : Kd.C k63 w A0 l0.length l0) (hc0 : l0.length ≤ c0) (h : h3_Para.f k l0 = some (r1, r2)) :
  Calls Try.prog 10 #[.slice A0 l0.length c0] w fun e w' => ∃ v0_ v1_ : Value, e = .returned (.agg #[v0_, v1_]) ∧ Kd.R k66 66 w' w.heap.size (fun _ => True) v0_ r1 ∧ Kd.R (Kd.int .u8) 51 w' w.heap.size (fun _ => True) v1_ r2 ∧ Below w.heap.size w w' := by
 have hu31 := Try.underlying31; have hu63 := Try.underlying63; have hu66 := Try.underlying66; have HR0 := zA.mk hr0; have HC0 := zA.mk hc0; clear hr0 hc0; have HB := zA.mk (Below.refl w.heap.size w); have H : (h3_Para.l0 k l0 0 0 ([] : List (S66))) = some (r1, r2) := h
 clear h; have HC2 := zA.mk H; clear H; go_enter Try.func10, Try.ntmps10
 go_upto_block 0 with (first | ((with_reducible refine gate_dst (N := 2) rfl ?_); refine box_event ?hg (N := 2) ?hd (cs := #[.slice none 0 0, .slice none 0 0]) (t := 31) ?hr ?_; (case hd => rfl); (case hg => rfl); (case hr => first | (go_simp; done) | (go_simp; rfl)); intro gb101 hg w3 hbox hb; have BK101 := zA.mk (hbox); have GW101 := zA.mk ((by rw [hg]; exact (zH (aL HB)) : w.heap.size ≤ gb101)); replace HB := zA.mk (zD (aL HB) hb); have GE101 := GW101; clear hb hbox hg) | ((with_reducible refine gate_dst (N := 3) rfl ?_); refine box_event ?hg (N := 3) ?hd (cs := #[.slice none 0 0, .slice none 0 0]) (t := 31) ?hr ?_; (case hd => rfl); (case hg => rfl); (case hr => first | (go_simp; done) | (go_simp; rfl)); intro gb102 hg w4 hbox hb; have BK102 := zA.mk (hbox); have GW102 := zA.mk ((by rw [hg]; exact (zH (aL HB)) : w.heap.size ≤ gb102)); replace HB := zA.mk (zD (aL HB) hb); have GE102 := GW102; have NB101_102 := zA.mk ((by rw [hg]; exact Nat.ne_of_lt (blk_lt (aB BK101)) : gb101 ≠ gb102)); have NB102_101 := zA.mk ((by rw [hg]; exact Nat.ne_of_gt (blk_lt (g := gb101) (o := .cells #[.slice none 0 0, .slice none 0 0] 31 (0, 0)) (aB BK101)) : gb102 ≠ gb101)); replace BK101 := zA.mk (zC (aB BK101) hb); clear hb hbox hg; have hnb5 := NB102_101.out; have hnc5 := NB101_102.out; obtain ⟨hcz6_0, hcz6_1, hfz6_0, hfz6_1⟩ := aC2 BK102) | ((with_reducible refine gate_store (t := 31) (p := 3) rfl ?_); refine store_event (t := 31) (p := 3) (v := ?vo_w7) (w1 := ((w4.setCell ⟨gb102, 0, none⟩ (.slice none 0 0)).setCell ⟨gb102, 1, none⟩ (.slice none 0 0))) ?hg ?ho ?hn ?hr ?_; (case ho => rfl); (case hg => rfl); (case hn => rfl); (case hr => first | (go_simp; done) | (go_simp; rfl)); intro w7 hw; have n0_ : zA (w7.heap[gb101]? = some (.cells #[.slice none 0 0, .slice none 0 0] 31 (0, 0))) := ⟨(by rw [hw]; exact (aB BK101))⟩; have n1_ : zA (w7.heap[gb102]? = some (.cells #[.slice none 0 0, .slice none 0 0] 31 (0, 0))) := ⟨(by rw [hw]; exact (by (with_reducible repeat (first | refine zI ?_ _ | refine zF ?_ | refine zE ?_ _)); refine blk_put (cs := #[.slice none 0 0, .slice none 0 0]) ?_ 1 _ rfl; (with_reducible repeat (first | refine zI ?_ _ | refine zF ?_ | refine zE ?_ _)); refine blk_put (cs := #[.slice none 0 0, .slice none 0 0]) ?_ 0 _ rfl; (with_reducible repeat (first | refine zI ?_ _ | refine zF ?_ | refine zE ?_ _)); exact BK102.out))⟩; have n2_ : zA (Below w.heap.size w w7) := ⟨(by rw [hw]; exact (aL HB))⟩; clear hw; clear BK101; clear BK102; clear HB; have BK101 := n0_; have BK102 := n1_; have HB := n2_; clear n0_ n1_ n2_))
 (try simp only [Act.put, sA_, sB_, sC_])
 go_cut [] (fun wc => ∃ (kq : Nat) (x103000_1 : List (S66)) (u103000 : Value), zA (h3_Para.j1 kq l0 x103000_1 = some (r1, r2)) ∧ zA (kq ≤ k) ∧ zA (Kd.R k66 66 wc w.heap.size (fun _ => True) u103000 x103000_1) ∧ zA (wc.heap[gb101]? = some (.cells #[(.slice none 0 0), (.slice none 0 0)] 31 (0, 0))) ∧ zA (wc.heap[gb102]? = some (.cells #[u103000, (.slice none 0 0)] 31 (0, 0))) ∧ zA (Below w.heap.size w wc))
 case first =>
  have H := HC2.out; clear HC2; have H' := zA.mk H
  clear H; go_wp2
  go_loopg [4, 5] k (fun kq v4 v5 w' => ∃ (x4_1 : Int) (x5_1 : Int) (x103000_1 : List (S66)) (u103000 : Value), v4 = .int .i64 x4_1 ∧ v5 = .int .i64 x5_1 ∧ zA (h3_Para.l0 kq l0 x4_1 x5_1 x103000_1 = some (r1, r2)) ∧ zA (kq ≤ k) ∧ zA (Kd.R k66 66 w' w.heap.size (fun _ => True) u103000 x103000_1) ∧ zA (w'.heap[gb101]? = some (.cells #[(.slice none 0 0), (.slice none 0 0)] 31 (0, 0))) ∧ zA (w'.heap[gb102]? = some (.cells #[u103000, (.slice none 0 0)] 31 (0, 0))) ∧ zA (Below w.heap.size w w'))
  case atStart => exact ⟨(0), (0), (([] : List (S66))), (.slice none 0 0), aZ, aZ, H', ⟨Nat.le_refl _⟩, ⟨by first | exact Kd.R_nil _ _ _ _ _ | exact Kd.N_nil _ _ _ _ _ | exact Kd.V_nil _ _ _ _ _ | exact Kd.Q_nil _ _ _ _ _ | exact Kd.S_nil _ _ _ _ _⟩, ⟨aB BK101⟩, ⟨aB BK102⟩, ⟨aL HB⟩⟩
  clear H'; obtain ⟨x4_1, x5_1, x103000_1, u103000, rfl, rfl, HA, HK1, HO_103000, BK101, BK102, HB⟩ := hrel; cases gk with
  | zero => exact absurd HA.out (by simp [h3_Para.l0])
  | succ k1 =>
   have H := HA.out; clear HA; simp only [h3_Para.l0] at H; by_cases c8 : x5_1 < (l0.length : Int)
   rotate_left
   ·rw [if_neg c8] at H
    have c8b0 : decide (x5_1 < (l0.length : Int)) = false := decide_eq_false c8
    clear c8; (first | rw [c8b0] | (simp only [i64_w, i32_w]; rw [c8b0]) | skip)
    have H' := zA.mk H
    clear H; go_wp2
    go_meet
    case rel => exact ⟨_, (x103000_1), (u103000), H', ⟨by have := HK1.out; first | omega | exact Nat.le_refl _⟩, ⟨aR HO_103000⟩, ⟨aB BK101⟩, ⟨aB BK102⟩, ⟨aL HB⟩⟩
   rw [if_pos c8] at H; have c8b0 : decide (x5_1 < (l0.length : Int)) = true := decide_eq_true c8
   clear c8; (first | rw [c8b0] | (simp only [i64_w, i32_w]; rw [c8b0]) | skip)
   by_cases c9 : x4_1 < 4000
   rotate_left
   ·rw [if_neg c9] at H
    have c9b0 : decide (x4_1 < 4000) = false := decide_eq_false c9
    clear c9; have H' := zA.mk H
    clear H; go_wp2
    go_meet
    case rel => exact ⟨_, (x103000_1), (u103000), H', ⟨by have := HK1.out; first | omega | exact Nat.le_refl _⟩, ⟨aR HO_103000⟩, ⟨aB BK101⟩, ⟨aB BK102⟩, ⟨aL HB⟩⟩
   rw [if_pos c9] at H; have c9b0 : decide (x4_1 < 4000) = true := decide_eq_true c9
   clear c9; by_cases c10 : 0 ≤ x5_1
   rotate_left
   ·rw [if_neg c10] at H
    exact absurd H (by simp)
   rw [if_pos c10] at H; have c10b0 : decide (0 ≤ x5_1) = true := decide_eq_true c10
   clear c10; by_cases c11 : x103000_1.length < 4398046511104
   rotate_left
   ·rw [if_neg c11] at H
    exact absurd H (by simp)
   rw [if_pos c11] at H; have LMc11 := zA.mk c11; clear c11; obtain ⟨y106, hy106⟩ : ∃ y_ : List (S66), y_ = (x103000_1 ++ [(⟨x4_1, wrap64 (1 + (wrap64 (Int.tmod ((rd_T63 l0 x5_1).f2) 4))), wrap64 (Int.tmod ((rd_T63 l0 x5_1).f0) 3), Int.tmod ((rd_T63 l0 x5_1).f1) 3⟩ : S66)]) := ⟨_, rfl⟩; replace H : (h3_Para.l0 k1 l0 (wrap64 (x4_1 + (wrap64 (1 + (wrap64 (Int.tmod ((rd_T63 l0 x5_1).f2) 4)))))) (wrap64 (x5_1 + 1)) y106) = some (r1, r2) := by first | (rw [hy106]; with_reducible exact H) | (have H2_ := (Option.bind_some _ _).symm.trans H; rw [hy106]; with_reducible exact H2_) | (have H2_ := (Option.bind_some _ _).symm.trans H; with_reducible exact H2_) | with_reducible exact H | (rw [hy106]; exact H) | exact H
   have Ny106 := zA.mk hy106; clear hy106; have H' := zA.mk H
   clear H; have p103 : 0 ≤ (x5_1 : Int) := aD
   have q103 : x5_1 < (l0.length : Int) := aD
   obtain ⟨ad103, e103, hx103_0, hx103_1, hx103_2, hx103_3⟩ := at_T63 HR0.out x5_1 p103 q103; cases e103
   replace hx103_0 := (HB.out.cell (World.block_lt_of_cell? w _ hx103_0)).trans hx103_0; replace hx103_1 := (HB.out.cell (World.block_lt_of_cell? w _ hx103_1)).trans hx103_1; replace hx103_2 := (HB.out.cell (World.block_lt_of_cell? w _ hx103_2)).trans hx103_2; replace hx103_3 := (HB.out.cell (World.block_lt_of_cell? w _ hx103_3)).trans hx103_3; replace p103 := eq_true p103; replace q103 := eq_true q103; go_wp2_with (first | ((with_reducible refine gate_dst (N := 6) rfl ?_); refine box_event ?hg (N := 6) ?hd (cs := #[.int .u8 0, .int .u8 0, .int .u8 0, .int .u8 0]) (t := 63) ?hr ?_; (case hd => rfl); (case hg => rfl); (case hr => first | (go_simp; done) | (go_simp; rfl)); intro gb104 hg w12 hbox hb; replace HO_103000 := zA.mk (Kd.zR (aR HO_103000) hb); have BK104 := zA.mk (hbox); have GW104 := zA.mk ((by rw [hg]; exact (zH (aL HB)) : w.heap.size ≤ gb104)); replace HB := zA.mk (zD (aL HB) hb); have GE104 := GW104; have NB101_104 := zA.mk ((by rw [hg]; exact Nat.ne_of_lt (blk_lt (aB BK101)) : gb101 ≠ gb104)); have NB104_101 := zA.mk ((by rw [hg]; exact Nat.ne_of_gt (blk_lt (g := gb101) (o := .cells #[.slice none 0 0, .slice none 0 0] 31 (0, 0)) (aB BK101)) : gb104 ≠ gb101)); replace BK101 := zA.mk (zC (aB BK101) hb); have NB102_104 := zA.mk ((by rw [hg]; exact Nat.ne_of_lt (blk_lt (aB BK102)) : gb102 ≠ gb104)); have NB104_102 := zA.mk ((by rw [hg]; exact Nat.ne_of_gt (blk_lt (g := gb102) (o := .cells #[u103000, .slice none 0 0] 31 (0, 0)) (aB BK102)) : gb104 ≠ gb102)); replace BK102 := zA.mk (zC (aB BK102) hb); clear hb hbox hg; have hnb13 := NB104_101.out; have hnc13 := NB101_104.out; have hnb14 := NB104_102.out; have hnc14 := NB102_104.out; obtain ⟨hcz15_0, hcz15_1, hcz15_2, hcz15_3, hfz15_0, hfz15_1, hfz15_2, hfz15_3⟩ := aC4 BK104) | ((with_reducible refine gate_store (t := 63) (p := 6) rfl ?_); refine store_event (t := 63) (p := 6) (v := ?vo_w16) (w1 := ((((w12.setCell ⟨gb104, 0, none⟩ (.int .u8 ((rd_T63 l0 x5_1).f0))).setCell ⟨gb104, 1, none⟩ (.int .u8 ((rd_T63 l0 x5_1).f1))).setCell ⟨gb104, 2, none⟩ (.int .u8 ((rd_T63 l0 x5_1).f2))).setCell ⟨gb104, 3, none⟩ (.int .u8 ((rd_T63 l0 x5_1).f3)))) ?hg ?ho ?hn ?hr ?_; (case ho => rfl); (case hg => rfl); (case hn => rfl); (case hr => first | (go_simp; done) | (go_simp; rfl)); intro w16 hw; have n0_ : zA (Kd.R k66 66 w16 w.heap.size (fun _ => True) u103000 x103000_1) := ⟨(by rw [hw]; exact (by (with_reducible repeat (first | apply Kd.zJ | apply Kd.zK | apply Kd.zL)); exact Kd.zV (Kd.zS (p := ⟨gb104, 3, none⟩) (Kd.zS (p := ⟨gb104, 2, none⟩) (Kd.zS (p := ⟨gb104, 1, none⟩) (Kd.zS (p := ⟨gb104, 0, none⟩) (Kd.zW HO_103000.out BK104.out (by decide)) (fun _ hk => hk.2) (.int .u8 ((rd_T63 l0 x5_1).f0))) (fun _ hk => hk.2) (.int .u8 ((rd_T63 l0 x5_1).f1))) (fun _ hk => hk.2) (.int .u8 ((rd_T63 l0 x5_1).f2))) (fun _ hk => hk.2) (.int .u8 ((rd_T63 l0 x5_1).f3))) (fun _ hk => trivial)))⟩; have n1_ : zA (w16.heap[gb101]? = some (.cells #[.slice none 0 0, .slice none 0 0] 31 (0, 0))) := ⟨(by rw [hw]; exact (aB BK101))⟩; have n2_ : zA (w16.heap[gb102]? = some (.cells #[u103000, .slice none 0 0] 31 (0, 0))) := ⟨(by rw [hw]; exact (aB BK102))⟩; have n3_ : zA (w16.heap[gb104]? = some (.cells #[.int .u8 ((rd_T63 l0 x5_1).f0), .int .u8 ((rd_T63 l0 x5_1).f1), .int .u8 ((rd_T63 l0 x5_1).f2), .int .u8 ((rd_T63 l0 x5_1).f3)] 63 (0, 0))) := ⟨(by rw [hw]; exact (by (with_reducible repeat (first | refine zI ?_ _ | refine zF ?_ | refine zE ?_ _)); refine blk_put (cs := #[.int .u8 ((rd_T63 l0 x5_1).f0), .int .u8 ((rd_T63 l0 x5_1).f1), .int .u8 ((rd_T63 l0 x5_1).f2), .int .u8 0]) ?_ 3 _ rfl; (with_reducible repeat (first | refine zI ?_ _ | refine zF ?_ | refine zE ?_ _)); refine blk_put (cs := #[.int .u8 ((rd_T63 l0 x5_1).f0), .int .u8 ((rd_T63 l0 x5_1).f1), .int .u8 0, .int .u8 0]) ?_ 2 _ rfl; (with_reducible repeat (first | refine zI ?_ _ | refine zF ?_ | refine zE ?_ _)); refine blk_put (cs := #[.int .u8 ((rd_T63 l0 x5_1).f0), .int .u8 0, .int .u8 0, .int .u8 0]) ?_ 1 _ rfl; (with_reducible repeat (first | refine zI ?_ _ | refine zF ?_ | refine zE ?_ _)); refine blk_put (cs := #[.int .u8 0, .int .u8 0, .int .u8 0, .int .u8 0]) ?_ 0 _ rfl; (with_reducible repeat (first | refine zI ?_ _ | refine zF ?_ | refine zE ?_ _)); exact BK104.out))⟩; have n4_ : zA (Below w.heap.size w w16) := ⟨(by rw [hw]; exact (aL HB))⟩; clear hw; clear HO_103000; clear BK101; clear BK102; clear BK104; clear HB; have HO_103000 := n0_; have BK101 := n1_; have BK102 := n2_; have BK104 := n3_; have HB := n4_; clear n0_ n1_ n2_ n3_ n4_; obtain ⟨hcz17_0, hcz17_1, hcz17_2, hcz17_3, hfz17_0, hfz17_1, hfz17_2, hfz17_3⟩ := aC4 BK104) | ((with_reducible refine gate_dst (N := 7) rfl ?_); refine box_event ?hg (N := 7) ?hd (cs := #[.int .i64 0, .int .i64 0, .int .i64 0, .int .u8 0]) (t := 66) ?hr ?_; (case hd => rfl); (case hg => rfl); (case hr => first | (go_simp; done) | (go_simp; rfl)); intro gb105 hg w18 hbox hb; replace HO_103000 := zA.mk (Kd.zR (Kd.R_elderB (aR HO_103000) gb105 (Nat.le_of_eq hg.symm)) hb); have BK105 := zA.mk (hbox); have GW105 := zA.mk ((by rw [hg]; exact (zH (aL HB)) : w.heap.size ≤ gb105)); replace HB := zA.mk (zD (aL HB) hb); have GE105 := GW105; have NB101_105 := zA.mk ((by rw [hg]; exact Nat.ne_of_lt (blk_lt (aB BK101)) : gb101 ≠ gb105)); have NB105_101 := zA.mk ((by rw [hg]; exact Nat.ne_of_gt (blk_lt (g := gb101) (o := .cells #[.slice none 0 0, .slice none 0 0] 31 (0, 0)) (aB BK101)) : gb105 ≠ gb101)); replace BK101 := zA.mk (zC (aB BK101) hb); have NB102_105 := zA.mk ((by rw [hg]; exact Nat.ne_of_lt (blk_lt (aB BK102)) : gb102 ≠ gb105)); have NB105_102 := zA.mk ((by rw [hg]; exact Nat.ne_of_gt (blk_lt (g := gb102) (o := .cells #[u103000, .slice none 0 0] 31 (0, 0)) (aB BK102)) : gb105 ≠ gb102)); replace BK102 := zA.mk (zC (aB BK102) hb); have NB104_105 := zA.mk ((by rw [hg]; exact Nat.ne_of_lt (blk_lt (aB BK104)) : gb104 ≠ gb105)); have NB105_104 := zA.mk ((by rw [hg]; exact Nat.ne_of_gt (blk_lt (g := gb104) (o := .cells #[.int .u8 ((rd_T63 l0 x5_1).f0), .int .u8 ((rd_T63 l0 x5_1).f1), .int .u8 ((rd_T63 l0 x5_1).f2), .int .u8 ((rd_T63 l0 x5_1).f3)] 63 (0, 0)) (aB BK104)) : gb105 ≠ gb104)); replace BK104 := zA.mk (zC (aB BK104) hb); clear hb hbox hg; have hnb19 := NB105_101.out; have hnc19 := NB101_105.out; have hnb20 := NB105_102.out; have hnc20 := NB102_105.out; have hnb21 := NB105_104.out; have hnc21 := NB104_105.out; obtain ⟨hcz22_0, hcz22_1, hcz22_2, hcz22_3, hfz22_0, hfz22_1, hfz22_2, hfz22_3⟩ := aC4 BK105) | ((with_reducible refine gate_store (t := 66) (p := 7) rfl ?_); refine store_event (t := 66) (p := 7) (v := ?vo_w23) (w1 := ((((w18.setCell ⟨gb105, 0, none⟩ (.int .i64 x4_1)).setCell ⟨gb105, 1, none⟩ (.int .i64 (wrap64 (1 + (wrap64 (Int.tmod ((rd_T63 l0 x5_1).f2) 4)))))).setCell ⟨gb105, 2, none⟩ (.int .i64 (wrap64 (Int.tmod ((rd_T63 l0 x5_1).f0) 3)))).setCell ⟨gb105, 3, none⟩ (.int .u8 (Int.tmod ((rd_T63 l0 x5_1).f1) 3)))) ?hg ?ho ?hn ?hr ?_; (case ho => rfl); (case hg => rfl); (case hn => rfl); (case hr => first | (go_simp; done) | (go_simp; rfl)); intro w23 hw; have n0_ : zA (Kd.R k66 66 w23 w.heap.size (fun k_ => k_ ≠ gb105) u103000 x103000_1) := ⟨(by rw [hw]; exact (by (with_reducible repeat (first | apply Kd.zJ | apply Kd.zK | apply Kd.zL)); exact Kd.zV (Kd.zS (p := ⟨gb105, 3, none⟩) (Kd.zS (p := ⟨gb105, 2, none⟩) (Kd.zS (p := ⟨gb105, 1, none⟩) (Kd.zS (p := ⟨gb105, 0, none⟩) (Kd.zV HO_103000.out (fun k_ hk => (⟨hk, hk.2⟩ : _ ∧ k_ ≠ gb105))) (fun _ hk => hk.2) (.int .i64 x4_1)) (fun _ hk => hk.2) (.int .i64 (wrap64 (1 + (wrap64 (Int.tmod ((rd_T63 l0 x5_1).f2) 4)))))) (fun _ hk => hk.2) (.int .i64 (wrap64 (Int.tmod ((rd_T63 l0 x5_1).f0) 3)))) (fun _ hk => hk.2) (.int .u8 (Int.tmod ((rd_T63 l0 x5_1).f1) 3))) (fun _ hk => hk.1.2)))⟩; have n1_ : zA (w23.heap[gb101]? = some (.cells #[.slice none 0 0, .slice none 0 0] 31 (0, 0))) := ⟨(by rw [hw]; exact (aB BK101))⟩; have n2_ : zA (w23.heap[gb102]? = some (.cells #[u103000, .slice none 0 0] 31 (0, 0))) := ⟨(by rw [hw]; exact (aB BK102))⟩; have n3_ : zA (w23.heap[gb104]? = some (.cells #[.int .u8 ((rd_T63 l0 x5_1).f0), .int .u8 ((rd_T63 l0 x5_1).f1), .int .u8 ((rd_T63 l0 x5_1).f2), .int .u8 ((rd_T63 l0 x5_1).f3)] 63 (0, 0))) := ⟨(by rw [hw]; exact (aB BK104))⟩; have n4_ : zA (w23.heap[gb105]? = some (.cells #[.int .i64 x4_1, .int .i64 (wrap64 (1 + (wrap64 (Int.tmod ((rd_T63 l0 x5_1).f2) 4)))), .int .i64 (wrap64 (Int.tmod ((rd_T63 l0 x5_1).f0) 3)), .int .u8 (Int.tmod ((rd_T63 l0 x5_1).f1) 3)] 66 (0, 0))) := ⟨(by rw [hw]; exact (by (with_reducible repeat (first | refine zI ?_ _ | refine zF ?_ | refine zE ?_ _)); refine blk_put (cs := #[.int .i64 x4_1, .int .i64 (wrap64 (1 + (wrap64 (Int.tmod ((rd_T63 l0 x5_1).f2) 4)))), .int .i64 (wrap64 (Int.tmod ((rd_T63 l0 x5_1).f0) 3)), .int .u8 0]) ?_ 3 _ rfl; (with_reducible repeat (first | refine zI ?_ _ | refine zF ?_ | refine zE ?_ _)); refine blk_put (cs := #[.int .i64 x4_1, .int .i64 (wrap64 (1 + (wrap64 (Int.tmod ((rd_T63 l0 x5_1).f2) 4)))), .int .i64 0, .int .u8 0]) ?_ 2 _ rfl; (with_reducible repeat (first | refine zI ?_ _ | refine zF ?_ | refine zE ?_ _)); refine blk_put (cs := #[.int .i64 x4_1, .int .i64 0, .int .i64 0, .int .u8 0]) ?_ 1 _ rfl; (with_reducible repeat (first | refine zI ?_ _ | refine zF ?_ | refine zE ?_ _)); refine blk_put (cs := #[.int .i64 0, .int .i64 0, .int .i64 0, .int .u8 0]) ?_ 0 _ rfl; (with_reducible repeat (first | refine zI ?_ _ | refine zF ?_ | refine zE ?_ _)); exact BK105.out))⟩; have n5_ : zA (Below w.heap.size w w23) := ⟨(by rw [hw]; exact (aL HB))⟩; clear hw; clear HO_103000; clear BK101; clear BK102; clear BK104; clear BK105; clear HB; have HO_103000 := n0_; have BK101 := n1_; have BK102 := n2_; have BK104 := n3_; have BK105 := n4_; have HB := n5_; clear n0_ n1_ n2_ n3_ n4_ n5_; obtain ⟨hcz24_0, hcz24_1, hcz24_2, hcz24_3, hfz24_0, hfz24_1, hfz24_2, hfz24_3⟩ := aC4 BK105; have hnb25 := NB102_101.out; have hnc25 := NB101_102.out; obtain ⟨hcz26_0, hcz26_1, hfz26_0, hfz26_1⟩ := aC2 BK102) | ((with_reducible refine gate_builtin (b := .append) (xs := #[.tmp 44, .tmp 46]) rfl ?_); at_builtin; refine Kd.R_append k66 (w0 := w) w.heap.size rfl (.tmp 44) (.tmp 46) 28 66 (.agg #[(.int .i64 0), (.int .i64 0), (.int .i64 0), (.int .u8 0)]) 32 rfl Try.underlying28 info66 rfl (by decide) (by omega) u103000 x103000_1 (⟨x4_1, wrap64 (1 + (wrap64 (Int.tmod ((rd_T63 l0 x5_1).f2) 4))), wrap64 (Int.tmod ((rd_T63 l0 x5_1).f0) 3), Int.tmod ((rd_T63 l0 x5_1).f1) 3⟩ : S66) [.int .i64 x4_1, .int .i64 (wrap64 (1 + (wrap64 (Int.tmod ((rd_T63 l0 x5_1).f2) 4)))), .int .i64 (wrap64 (Int.tmod ((rd_T63 l0 x5_1).f0) 3)), .int .u8 (Int.tmod ((rd_T63 l0 x5_1).f1) 3)] (fun k_ => k_ ≠ gb105) (fun _ => False) rfl rfl ?aP (fun _ hk => hk.elim) ?aF ?aO ?aB ?aS ?aL ?_; (case aP => exact k66_mkM _ _ _ (⟨x4_1, wrap64 (1 + (wrap64 (Int.tmod ((rd_T63 l0 x5_1).f2) 4))), wrap64 (Int.tmod ((rd_T63 l0 x5_1).f0) 3), Int.tmod ((rd_T63 l0 x5_1).f1) 3⟩ : S66)); (case aB => exact (aL HB)); (case aF => exact (fun k_ hk => Kd.freshB (g := gb105) (o := .cells #[.int .i64 x4_1, .int .i64 (wrap64 (1 + (wrap64 (Int.tmod ((rd_T63 l0 x5_1).f2) 4)))), .int .i64 (wrap64 (Int.tmod ((rd_T63 l0 x5_1).f0) 3)), .int .u8 (Int.tmod ((rd_T63 l0 x5_1).f1) 3)] 66 (0, 0)) (aB BK105) k_ hk)); (case aO => exact (aR HO_103000)); (case aS => exact (zH (aL HB))); (case aL => have := LMc11.out; omega); intro v107 w27 ho hb hg hat; rw [← Ny106.out] at ho; replace BK101 := zA.mk (blk_grown (g := gb101) (o := .cells #[.slice none 0 0, .slice none 0 0] 31 (0, 0)) (aB BK101) hg (Kd.R_ne HO_103000.out BK101.out (by decide))); replace BK102 := zA.mk (blk_grown (g := gb102) (o := .cells #[u103000, .slice none 0 0] 31 (0, 0)) (aB BK102) hg (Kd.R_ne HO_103000.out BK102.out (by decide))); replace BK104 := zA.mk (blk_grown (g := gb104) (o := .cells #[.int .u8 ((rd_T63 l0 x5_1).f0), .int .u8 ((rd_T63 l0 x5_1).f1), .int .u8 ((rd_T63 l0 x5_1).f2), .int .u8 ((rd_T63 l0 x5_1).f3)] 63 (0, 0)) (aB BK104) hg (Kd.R_ne HO_103000.out BK104.out (by decide))); replace BK105 := zA.mk (blk_grown (g := gb105) (o := .cells #[.int .i64 x4_1, .int .i64 (wrap64 (1 + (wrap64 (Int.tmod ((rd_T63 l0 x5_1).f2) 4)))), .int .i64 (wrap64 (Int.tmod ((rd_T63 l0 x5_1).f0) 3)), .int .u8 (Int.tmod ((rd_T63 l0 x5_1).f1) 3)] 66 (0, 0)) (aB BK105) hg (Kd.R_away HO_103000.out (fun _ hk => hk))); replace HB := zA.mk (hb); have HO108 := zA.mk (ho); clear HO_103000; clear ho hb hg hat; obtain ⟨Ao28, co28, eo28⟩ := Kd.zT HO108.out; subst eo28; obtain ⟨hcz29_0, hcz29_1, hfz29_0, hfz29_1⟩ := aC2 BK102))
   go_roundg k1
   case measure => have := HK1.out; omega
   case rel => exact ⟨(wrap64 (x4_1 + (wrap64 (1 + (wrap64 (Int.tmod ((rd_T63 l0 x5_1).f2) 4)))))), (wrap64 (x5_1 + 1)), (y106), (.slice Ao28 y106.length co28), aZ, aZ, H', ⟨by have := HK1.out; omega⟩, ⟨by (with_reducible repeat (first | apply Kd.zJ | apply Kd.zK | apply Kd.zL)); exact Kd.zV (Kd.zS (p := ⟨gb102, 0, none⟩) (Kd.zW HO108.out BK102.out (by decide)) (fun _ hk => hk.2) (.slice Ao28 y106.length co28)) (fun _ hk => trivial)⟩, ⟨by (with_reducible repeat (first | refine zI ?_ _ | refine zF ?_ | refine zE ?_ _)); refine blk_far ?_ NB101_102.out _; (with_reducible repeat (first | refine zI ?_ _ | refine zF ?_ | refine zE ?_ _)); exact BK101.out⟩, ⟨by (with_reducible repeat (first | refine zI ?_ _ | refine zF ?_ | refine zE ?_ _)); refine blk_put (cs := #[u103000, .slice none 0 0]) ?_ 0 _ rfl; (with_reducible repeat (first | refine zI ?_ _ | refine zF ?_ | refine zE ?_ _)); exact BK102.out⟩, ⟨aL HB⟩⟩
 clear HC2; obtain ⟨kq, x103000_1, u103000, HA, HJ1, HO_103000, BK101, BK102, HB⟩ := hcut; cases kq with
 | zero => exact absurd HA.out (by simp [h3_Para.j1])
 | succ kj1 =>
  have H := HA.out; clear HA; simp only [h3_Para.j1] at H; have H' := zA.mk H
  clear H; go_wp2
  go_loopg [8] kj1 (fun kq v8 w' => ∃ (x8_2 : Int) (x103001_2 : List Int) (u103001 : Value), v8 = .int .i64 x8_2 ∧ zA (h3_Para.l1 kq l0 x8_2 x103000_1 x103001_2 = some (r1, r2)) ∧ zA (kq ≤ kj1) ∧ zA (Kd.R k66 66 w' w.heap.size (fun _ => True) u103000 x103000_1) ∧ zA (Kd.R (Kd.int .u8) 51 w' w.heap.size (fun _ => True) u103001 x103001_2) ∧ zA (w'.heap[gb101]? = some (.cells #[(.slice none 0 0), (.slice none 0 0)] 31 (0, 0))) ∧ zA (w'.heap[gb102]? = some (.cells #[u103000, u103001] 31 (0, 0))) ∧ zA (Below w.heap.size w w'))
  case atStart => exact ⟨(0), (([] : List Int)), (.slice none 0 0), aZ, H', ⟨Nat.le_refl _⟩, ⟨aR HO_103000⟩, ⟨by first | exact Kd.R_nil _ _ _ _ _ | exact Kd.N_nil _ _ _ _ _ | exact Kd.V_nil _ _ _ _ _ | exact Kd.Q_nil _ _ _ _ _ | exact Kd.S_nil _ _ _ _ _⟩, ⟨aB BK101⟩, ⟨aB BK102⟩, ⟨aL HB⟩⟩
  clear H'; obtain ⟨x8_2, x103001_2, u103001, rfl, HA, HK2, HO_103000, HO_103001, BK101, BK102, HB⟩ := hrel; cases gk with
  | zero => exact absurd HA.out (by simp [h3_Para.l1])
  | succ k2 =>
   have H := HA.out; clear HA; simp only [h3_Para.l1] at H; by_cases c30 : x8_2 < (x103000_1.length : Int)
   rotate_left
   ·rw [if_neg c30] at H
    have c30b0 : decide (x8_2 < (x103000_1.length : Int)) = false := decide_eq_false c30
    clear c30; by_cases c49 : x103001_2.length < 140737488355328
    rotate_left
    ·rw [if_neg c49] at H
     exact absurd H (by simp)
    rw [if_pos c49] at H; have LMc49 := zA.mk c49; clear c49; obtain ⟨y116, hy116⟩ : ∃ y_ : List Int, y_ = (x103001_2 ++ [2]) := ⟨_, rfl⟩; replace H : (some (x103000_1, y116)) = some (r1, r2) := by first | (rw [hy116]; with_reducible exact H) | (have H2_ := (Option.bind_some _ _).symm.trans H; rw [hy116]; with_reducible exact H2_) | (have H2_ := (Option.bind_some _ _).symm.trans H; with_reducible exact H2_) | with_reducible exact H | (rw [hy116]; exact H) | exact H
    have Ny116 := zA.mk hy116; clear hy116; simp only [Option.some.injEq, Prod.mk.injEq] at H; obtain ⟨rfl, rfl⟩ := H; have hnb50 := NB102_101.out; have hnc50 := NB101_102.out; obtain ⟨hcz51_0, hcz51_1, hfz51_0, hfz51_1⟩ := aC2 BK102; obtain ⟨Ao52, co52, eo52⟩ := Kd.zT HO_103000.out; subst eo52; go_wp2_with (first | ((with_reducible refine gate_builtin (b := .append) (xs := #[.tmp 72, .tmp 73]) rfl ?_); at_builtin; refine Kd.R_append (Kd.int .u8) (w0 := w) w.heap.size rfl (.tmp 72) (.tmp 73) 29 51 (.int .u8 0) 1 rfl Try.underlying29 info51 rfl (by decide) (by omega) u103001 x103001_2 2 [.int .u8 2] (fun _ => True) (fun _ => False) rfl rfl ?aP (fun _ hk => hk.elim) ?aF ?aO ?aB ?aS ?aL ?_; (case aP => exact rfl); (case aB => exact (aL HB)); (case aF => exact (fun _ _ => trivial)); (case aO => exact (aR HO_103001)); (case aS => exact (zH (aL HB))); (case aL => have := LMc49.out; omega); intro v117 w53 ho hb hg hat; rw [← Ny116.out] at ho; replace HO_103000 := zA.mk (Kd.R_over' (aR HO_103000) (Kd.R_typed (aR HO_103001)) (by decide) hg); replace BK101 := zA.mk (blk_grown (g := gb101) (o := .cells #[.slice none 0 0, .slice none 0 0] 31 (0, 0)) (aB BK101) hg (Kd.R_ne HO_103001.out BK101.out (by decide))); replace BK102 := zA.mk (blk_grown (g := gb102) (o := .cells #[.slice Ao52 x103000_1.length co52, u103001] 31 (0, 0)) (aB BK102) hg (Kd.R_ne HO_103001.out BK102.out (by decide))); replace HB := zA.mk (hb); have HO118 := zA.mk (ho); clear HO_103001; clear ho hb hg hat; obtain ⟨Ao54, co54, eo54⟩ := Kd.zT HO118.out; subst eo54; obtain ⟨hcz55_0, hcz55_1, hfz55_0, hfz55_1⟩ := aC2 BK102; obtain ⟨hcz56_0, hcz56_1, hfz56_0, hfz56_1⟩ := aC2 BK101) | ((with_reducible refine gate_store (t := 31) (p := 2) rfl ?_); refine store_event (t := 31) (p := 2) (v := ?vo_w57) (w1 := (((w53.setCell ⟨gb102, 1, none⟩ (.slice Ao54 y116.length co54)).setCell ⟨gb101, 0, none⟩ (.slice Ao52 x103000_1.length co52)).setCell ⟨gb101, 1, none⟩ (.slice Ao54 y116.length co54))) ?hg ?ho ?hn ?hr ?_; (case ho => rfl); (case hg => rfl); (case hn => rfl); (case hr => first | (go_simp; done) | (go_simp; rfl)); intro w57 hw; have n0_ : zA (Kd.R k66 66 w57 w.heap.size (fun _ => True) (.slice Ao52 x103000_1.length co52) x103000_1) := ⟨(by rw [hw]; exact (by (with_reducible repeat (first | apply Kd.zJ | apply Kd.zK | apply Kd.zL)); exact Kd.zV (Kd.zS (p := ⟨gb101, 1, none⟩) (Kd.zS (p := ⟨gb101, 0, none⟩) (Kd.zS (p := ⟨gb102, 1, none⟩) (Kd.zW (Kd.zW HO_103000.out BK102.out (by decide)) BK101.out (by decide)) (fun _ hk => hk.1.2) (.slice Ao54 y116.length co54)) (fun _ hk => hk.2) (.slice Ao52 x103000_1.length co52)) (fun _ hk => hk.2) (.slice Ao54 y116.length co54)) (fun _ hk => trivial)))⟩; have n1_ : zA (Kd.R (Kd.int .u8) 51 w57 w.heap.size (fun _ => True) (.slice Ao54 y116.length co54) y116) := ⟨(by rw [hw]; exact (by (with_reducible repeat (first | apply Kd.zJ | apply Kd.zK | apply Kd.zL)); exact Kd.zV (Kd.zS (p := ⟨gb101, 1, none⟩) (Kd.zS (p := ⟨gb101, 0, none⟩) (Kd.zS (p := ⟨gb102, 1, none⟩) (Kd.zW (Kd.zW HO118.out BK102.out (by decide)) BK101.out (by decide)) (fun _ hk => hk.1.2) (.slice Ao54 y116.length co54)) (fun _ hk => hk.2) (.slice Ao52 x103000_1.length co52)) (fun _ hk => hk.2) (.slice Ao54 y116.length co54)) (fun _ hk => trivial)))⟩; have n2_ : zA (w57.heap[gb101]? = some (.cells #[.slice Ao52 x103000_1.length co52, .slice Ao54 y116.length co54] 31 (0, 0))) := ⟨(by rw [hw]; exact (by (with_reducible repeat (first | refine zI ?_ _ | refine zF ?_ | refine zE ?_ _)); refine blk_put (cs := #[.slice Ao52 x103000_1.length co52, .slice none 0 0]) ?_ 1 _ rfl; (with_reducible repeat (first | refine zI ?_ _ | refine zF ?_ | refine zE ?_ _)); refine blk_put (cs := #[.slice none 0 0, .slice none 0 0]) ?_ 0 _ rfl; (with_reducible repeat (first | refine zI ?_ _ | refine zF ?_ | refine zE ?_ _)); refine blk_far ?_ NB101_102.out _; (with_reducible repeat (first | refine zI ?_ _ | refine zF ?_ | refine zE ?_ _)); exact BK101.out))⟩; have n3_ : zA (w57.heap[gb102]? = some (.cells #[.slice Ao52 x103000_1.length co52, .slice Ao54 y116.length co54] 31 (0, 0))) := ⟨(by rw [hw]; exact (by (with_reducible repeat (first | refine zI ?_ _ | refine zF ?_ | refine zE ?_ _)); refine blk_far ?_ NB102_101.out _; (with_reducible repeat (first | refine zI ?_ _ | refine zF ?_ | refine zE ?_ _)); refine blk_far ?_ NB102_101.out _; (with_reducible repeat (first | refine zI ?_ _ | refine zF ?_ | refine zE ?_ _)); refine blk_put (cs := #[.slice Ao52 x103000_1.length co52, u103001]) ?_ 1 _ rfl; (with_reducible repeat (first | refine zI ?_ _ | refine zF ?_ | refine zE ?_ _)); exact BK102.out))⟩; have n4_ : zA (Below w.heap.size w w57) := ⟨(by rw [hw]; exact (aL HB))⟩; clear hw; clear HO_103000; clear HO118; clear BK101; clear BK102; clear HB; have HO_103000 := n0_; have HO118 := n1_; have BK101 := n2_; have BK102 := n3_; have HB := n4_; clear n0_ n1_ n2_ n3_ n4_))
    refine bodyPost_ret (results_cell_row rfl _ _ gb101 31 #[.slice Ao52 x103000_1.length co52, .slice Ao54 y116.length co54] (0, 0) _ rfl (aB BK101) Try.underlying31 rfl (by kernel_rfl)) rfl ?_
    exact ⟨_, _, aX, aR HO_103000, aR HO118, aL HB⟩
   rw [if_pos c30] at H; have c30b0 : decide (x8_2 < (x103000_1.length : Int)) = true := decide_eq_true c30
   clear c30; by_cases c31 : x8_2 > 0
   rotate_left
   ·rw [if_neg c31] at H
    have c31b0 : decide (0 < x8_2) = false := decide_eq_false c31
    clear c31; by_cases c42 : x103001_2.length < 140737488355328
    rotate_left
    ·rw [if_neg c42] at H
     exact absurd H (by simp)
    rw [if_pos c42] at H; have LMc42 := zA.mk c42; clear c42; obtain ⟨y113, hy113⟩ : ∃ y_ : List Int, y_ = (x103001_2 ++ [0]) := ⟨_, rfl⟩; replace H : (h3_Para.l1 k2 l0 (wrap64 (x8_2 + 1)) x103000_1 y113) = some (r1, r2) := by first | (rw [hy113]; with_reducible exact H) | (have H2_ := (Option.bind_some _ _).symm.trans H; rw [hy113]; with_reducible exact H2_) | (have H2_ := (Option.bind_some _ _).symm.trans H; with_reducible exact H2_) | with_reducible exact H | (rw [hy113]; exact H) | exact H
    have Ny113 := zA.mk hy113; clear hy113; have H' := zA.mk H
    clear H; have hnb43 := NB102_101.out; have hnc43 := NB101_102.out; obtain ⟨hcz44_0, hcz44_1, hfz44_0, hfz44_1⟩ := aC2 BK102; obtain ⟨Ao45, co45, eo45⟩ := Kd.zT HO_103000.out; subst eo45; go_wp2_with (first | ((with_reducible refine gate_builtin (b := .append) (xs := #[.tmp 66, .tmp 68]) rfl ?_); at_builtin; refine Kd.R_append (Kd.int .u8) (w0 := w) w.heap.size rfl (.tmp 66) (.tmp 68) 29 51 (.int .u8 0) 1 rfl Try.underlying29 info51 rfl (by decide) (by omega) u103001 x103001_2 0 [.int .u8 0] (fun _ => True) (fun _ => False) rfl rfl ?aP (fun _ hk => hk.elim) ?aF ?aO ?aB ?aS ?aL ?_; (case aP => exact rfl); (case aB => exact (aL HB)); (case aF => exact (fun _ _ => trivial)); (case aO => exact (aR HO_103001)); (case aS => exact (zH (aL HB))); (case aL => have := LMc42.out; omega); intro v114 w46 ho hb hg hat; rw [← Ny113.out] at ho; replace HO_103000 := zA.mk (Kd.R_over' (aR HO_103000) (Kd.R_typed (aR HO_103001)) (by decide) hg); replace BK101 := zA.mk (blk_grown (g := gb101) (o := .cells #[.slice none 0 0, .slice none 0 0] 31 (0, 0)) (aB BK101) hg (Kd.R_ne HO_103001.out BK101.out (by decide))); replace BK102 := zA.mk (blk_grown (g := gb102) (o := .cells #[.slice Ao45 x103000_1.length co45, u103001] 31 (0, 0)) (aB BK102) hg (Kd.R_ne HO_103001.out BK102.out (by decide))); replace HB := zA.mk (hb); have HO115 := zA.mk (ho); clear HO_103001; clear ho hb hg hat; obtain ⟨Ao47, co47, eo47⟩ := Kd.zT HO115.out; subst eo47; obtain ⟨hcz48_0, hcz48_1, hfz48_0, hfz48_1⟩ := aC2 BK102))
    go_roundg k2
    case measure => have := HJ1.out; have := HK2.out; omega
    case rel => exact ⟨(wrap64 (x8_2 + 1)), (y113), (.slice Ao47 y113.length co47), aZ, H', ⟨by have := HJ1.out; have := HK2.out; omega⟩, ⟨by (with_reducible repeat (first | apply Kd.zJ | apply Kd.zK | apply Kd.zL)); exact Kd.zV (Kd.zS (p := ⟨gb102, 1, none⟩) (Kd.zW HO_103000.out BK102.out (by decide)) (fun _ hk => hk.2) (.slice Ao47 y113.length co47)) (fun _ hk => trivial)⟩, ⟨by (with_reducible repeat (first | apply Kd.zJ | apply Kd.zK | apply Kd.zL)); exact Kd.zV (Kd.zS (p := ⟨gb102, 1, none⟩) (Kd.zW HO115.out BK102.out (by decide)) (fun _ hk => hk.2) (.slice Ao47 y113.length co47)) (fun _ hk => trivial)⟩, ⟨by (with_reducible repeat (first | refine zI ?_ _ | refine zF ?_ | refine zE ?_ _)); refine blk_far ?_ NB101_102.out _; (with_reducible repeat (first | refine zI ?_ _ | refine zF ?_ | refine zE ?_ _)); exact BK101.out⟩, ⟨by (with_reducible repeat (first | refine zI ?_ _ | refine zF ?_ | refine zE ?_ _)); refine blk_put (cs := #[.slice Ao45 x103000_1.length co45, u103001]) ?_ 1 _ rfl; (with_reducible repeat (first | refine zI ?_ _ | refine zF ?_ | refine zE ?_ _)); exact BK102.out⟩, ⟨aL HB⟩⟩
   rw [if_pos c31] at H; have c31b0 : decide (0 < x8_2) = true := decide_eq_true c31
   clear c31; obtain ⟨ji32, hji32⟩ : ∃ j_ : Int, (wrap64 (x8_2 - 1)) = j_ := ⟨_, rfl⟩; replace H : (if 0 ≤ (ji32) then (if (ji32) < (l0.length : Int) then (if x103001_2.length < 140737488355328 then (h3_Para.l1 k2 l0 (wrap64 (x8_2 + 1)) x103000_1 (x103001_2 ++ [Int.tmod ((rd_T63 l0 (ji32)).f3) 4])) else (none)) else (none)) else (none)) = some (r1, r2) := by first | (rw [hji32] at H; exact H) | (simp only [hji32] at H ⊢; exact H)
   have hji32w : (IntKind.i64.wrap (x8_2 - 1)) = ji32 := (i64_w _).trans hji32
   by_cases c33 : 0 ≤ (ji32)
   rotate_left
   ·rw [if_neg c33] at H
    exact absurd H (by simp)
   rw [if_pos c33] at H; have c33b0 : decide (0 ≤ (ji32)) = true := decide_eq_true c33
   clear c33; by_cases c34 : (ji32) < (l0.length : Int)
   rotate_left
   ·rw [if_neg c34] at H
    exact absurd H (by simp)
   rw [if_pos c34] at H; have c34b0 : decide ((ji32) < (l0.length : Int)) = true := decide_eq_true c34
   clear c34; by_cases c35 : x103001_2.length < 140737488355328
   rotate_left
   ·rw [if_neg c35] at H
    exact absurd H (by simp)
   rw [if_pos c35] at H; have LMc35 := zA.mk c35; clear c35; obtain ⟨y110, hy110⟩ : ∃ y_ : List Int, y_ = (x103001_2 ++ [Int.tmod ((rd_T63 l0 (ji32)).f3) 4]) := ⟨_, rfl⟩; replace H : (h3_Para.l1 k2 l0 (wrap64 (x8_2 + 1)) x103000_1 y110) = some (r1, r2) := by first | (rw [hy110]; with_reducible exact H) | (have H2_ := (Option.bind_some _ _).symm.trans H; rw [hy110]; with_reducible exact H2_) | (have H2_ := (Option.bind_some _ _).symm.trans H; with_reducible exact H2_) | with_reducible exact H | (rw [hy110]; exact H) | exact H
   have Ny110 := zA.mk hy110; clear hy110; have H' := zA.mk H
   clear H; have hnb36 := NB102_101.out; have hnc36 := NB101_102.out; obtain ⟨hcz37_0, hcz37_1, hfz37_0, hfz37_1⟩ := aC2 BK102; obtain ⟨Ao38, co38, eo38⟩ := Kd.zT HO_103000.out; subst eo38; have p109 : 0 ≤ ((ji32) : Int) := aD
   have q109 : (ji32) < (l0.length : Int) := aD
   obtain ⟨ad109, e109, hx109_0, hx109_1, hx109_2, hx109_3⟩ := at_T63 HR0.out (ji32) p109 q109; cases e109
   replace hx109_0 := (HB.out.cell (World.block_lt_of_cell? w _ hx109_0)).trans hx109_0; replace hx109_1 := (HB.out.cell (World.block_lt_of_cell? w _ hx109_1)).trans hx109_1; replace hx109_2 := (HB.out.cell (World.block_lt_of_cell? w _ hx109_2)).trans hx109_2; replace hx109_3 := (HB.out.cell (World.block_lt_of_cell? w _ hx109_3)).trans hx109_3; replace p109 := eq_true p109; replace q109 := eq_true q109; go_wp2_with (first | ((with_reducible refine gate_builtin (b := .append) (xs := #[.tmp 66, .tmp 68]) rfl ?_); at_builtin; refine Kd.R_append (Kd.int .u8) (w0 := w) w.heap.size rfl (.tmp 66) (.tmp 68) 29 51 (.int .u8 0) 1 rfl Try.underlying29 info51 rfl (by decide) (by omega) u103001 x103001_2 (Int.tmod ((rd_T63 l0 (ji32)).f3) 4) [.int .u8 (Int.tmod ((rd_T63 l0 (ji32)).f3) 4)] (fun _ => True) (fun _ => False) rfl rfl ?aP (fun _ hk => hk.elim) ?aF ?aO ?aB ?aS ?aL ?_; (case aP => exact rfl); (case aB => exact (aL HB)); (case aF => exact (fun _ _ => trivial)); (case aO => exact (aR HO_103001)); (case aS => exact (zH (aL HB))); (case aL => have := LMc35.out; omega); intro v111 w39 ho hb hg hat; rw [← Ny110.out] at ho; replace HO_103000 := zA.mk (Kd.R_over' (aR HO_103000) (Kd.R_typed (aR HO_103001)) (by decide) hg); replace BK101 := zA.mk (blk_grown (g := gb101) (o := .cells #[.slice none 0 0, .slice none 0 0] 31 (0, 0)) (aB BK101) hg (Kd.R_ne HO_103001.out BK101.out (by decide))); replace BK102 := zA.mk (blk_grown (g := gb102) (o := .cells #[.slice Ao38 x103000_1.length co38, u103001] 31 (0, 0)) (aB BK102) hg (Kd.R_ne HO_103001.out BK102.out (by decide))); replace HB := zA.mk (hb); have HO112 := zA.mk (ho); clear HO_103001; clear ho hb hg hat; obtain ⟨Ao40, co40, eo40⟩ := Kd.zT HO112.out; subst eo40; obtain ⟨hcz41_0, hcz41_1, hfz41_0, hfz41_1⟩ := aC2 BK102))
   go_roundg k2
   case measure => have := HJ1.out; have := HK2.out; omega
   case rel => exact ⟨(wrap64 (x8_2 + 1)), (y110), (.slice Ao40 y110.length co40), aZ, H', ⟨by have := HJ1.out; have := HK2.out; omega⟩, ⟨by (with_reducible repeat (first | apply Kd.zJ | apply Kd.zK | apply Kd.zL)); exact Kd.zV (Kd.zS (p := ⟨gb102, 1, none⟩) (Kd.zW HO_103000.out BK102.out (by decide)) (fun _ hk => hk.2) (.slice Ao40 y110.length co40)) (fun _ hk => trivial)⟩, ⟨by (with_reducible repeat (first | apply Kd.zJ | apply Kd.zK | apply Kd.zL)); exact Kd.zV (Kd.zS (p := ⟨gb102, 1, none⟩) (Kd.zW HO112.out BK102.out (by decide)) (fun _ hk => hk.2) (.slice Ao40 y110.length co40)) (fun _ hk => trivial)⟩, ⟨by (with_reducible repeat (first | refine zI ?_ _ | refine zF ?_ | refine zE ?_ _)); refine blk_far ?_ NB101_102.out _; (with_reducible repeat (first | refine zI ?_ _ | refine zF ?_ | refine zE ?_ _)); exact BK101.out⟩, ⟨by (with_reducible repeat (first | refine zI ?_ _ | refine zF ?_ | refine zE ?_ _)); refine blk_put (cs := #[.slice Ao38 x103000_1.length co38, u103001]) ?_ 1 _ rfl; (with_reducible repeat (first | refine zI ?_ _ | refine zF ?_ | refine zE ?_ _)); exact BK102.out⟩, ⟨aL HB⟩⟩
def items_Parts.l0 : Nat → List Int → List Int → Int → Int → Option (List Int)
 | 0, _, _, _, _ => none
 | k + 1, x3, x7, x8, x9 => if x9 < x8 then (if 0 ≤ x9 then (if x9 < (x7.length : Int) then (if (rd x7 x9) = 2 then (if x3.length < 17592186044416 then (items_Parts.l0 k (x3 ++ [x9]) x7 x8 (wrap64 (x9 + 1))) else (none)) else (items_Parts.l0 k x3 x7 x8 (wrap64 (x9 + 1)))) else (none)) else (none)) else (some x3)
def items_Parts.f (k : Nat) (l0_0 : List (S66)) (l0_1 : List Int) : Option (List Int) := items_Parts.l0 k ([] : List Int) l0_1 (l0_1.length : Int) 0
theorem items_Parts.mono_l : ∀ k, (∀ y0 y1 y2 y3, LeO (items_Parts.l0 k y0 y1 y2 y3) (items_Parts.l0 (k + 1) y0 y1 y2 y3))
 | 0 => fun _ _ _ _ r h => by simp [items_Parts.l0] at h
 | k + 1 => by
  have ih0 := items_Parts.mono_l k
  ·intro y0 y1 y2 y3
   unfold items_Parts.l0
   repeat' (with_reducible first | exact ih0 _ _ _ _ | exact LeO.refl _ | exact LeO.none _ | refine LeO.ite ?_ ?_ | refine LeO.bind ?_ (fun _ => ?_))
theorem items_Parts.mono : ∀ a0 a1 k, LeO (items_Parts.f k a0 a1) (items_Parts.f (k + 1) a0 a1) := by
 intro a0 a1 k
 have ih0 := items_Parts.mono_l k; unfold items_Parts.f
 repeat' (with_reducible first | exact ih0 _ _ _ _ | exact LeO.refl _ | exact LeO.none _ | refine LeO.ite ?_ ?_ | refine LeO.bind ?_ (fun _ => ?_))
set_option maxHeartbeats 8000000 in
set_option maxRecDepth 100000 in
theorem items_Parts.calls (k : Nat) (A0_0 : Option Addr) (c0_0 : Nat) (l0_0 : List (S66)) (A0_1 : Option Addr) (c0_1 : Nat) (l0_1 : List Int) (r : List Int) (w : World) (hr0_0 : Kd.C k66 w A0_0 l0_0.length l0_0) (hc0_0 : l0_0.length ≤ c0_0) (hr0_1 : Kd.C (Kd.int .u8) w A0_1 l0_1.length l0_1) (hc0_1 : l0_1.length ≤ c0_1) (h : items_Parts.f k l0_0 l0_1 = some r) :
  Calls Try.prog 18 #[.agg #[.slice A0_0 l0_0.length c0_0, .slice A0_1 l0_1.length c0_1]] w fun e w' => ∃ v0_ : Value, e = .returned (v0_) ∧ Kd.R (Kd.int .i64) 3 w' w.heap.size (fun _ => True) v0_ r ∧ Below w.heap.size w w' := by
 have hu31 := Try.underlying31; have HR0_0 := zA.mk hr0_0; have HC0_0 := zA.mk hc0_0; clear hr0_0 hc0_0; have HR0_1 := zA.mk hr0_1; have HC0_1 := zA.mk hc0_1; clear hr0_1 hc0_1; have HB := zA.mk (Below.refl w.heap.size w); have H : (items_Parts.l0 k ([] : List Int) l0_1 (l0_1.length : Int) 0) = some r := h
 clear h; have H' := zA.mk H
 clear H; go_enter Try.func18, Try.ntmps18
 go_wp2_with (first | ((with_reducible refine gate_dst (N := 1) rfl ?_); refine box_event ?hg (N := 1) ?hd (cs := #[.slice A0_0 l0_0.length c0_0, .slice A0_1 l0_1.length c0_1]) (t := 31) ?hr ?_; (case hd => rfl); (case hg => rfl); (case hr => first | (go_simp; done) | (go_simp; rfl)); intro gb119 hg w2 hbox hb; have BK119 := zA.mk (hbox); have GW119 := zA.mk ((by rw [hg]; exact (zH (aL HB)) : w.heap.size ≤ gb119)); replace HB := zA.mk (zD (aL HB) hb); have GE119 := GW119; clear hb hbox hg; obtain ⟨hcz3_0, hcz3_1, hfz3_0, hfz3_1⟩ := aC2 BK119))
 go_loopg [3, 9] k (fun kq v3 v9 w' => ∃ (x3_1 : List Int) (x9_1 : Int), v9 = .int .i64 x9_1 ∧ zA (items_Parts.l0 kq x3_1 l0_1 (l0_1.length : Int) x9_1 = some r) ∧ zA (kq ≤ k) ∧ zA (Kd.R (Kd.int .i64) 3 w' w.heap.size (fun _ => True) v3 x3_1) ∧ zA (w'.heap[gb119]? = some (.cells #[(.slice A0_0 l0_0.length c0_0), (.slice A0_1 l0_1.length c0_1)] 31 (0, 0))) ∧ zA (Below w.heap.size w w'))
 case atStart => exact ⟨(([] : List Int)), (0), aZ, H', ⟨Nat.le_refl _⟩, ⟨by first | exact Kd.R_nil _ _ _ _ _ | exact Kd.N_nil _ _ _ _ _ | exact Kd.V_nil _ _ _ _ _ | exact Kd.Q_nil _ _ _ _ _ | exact Kd.S_nil _ _ _ _ _⟩, ⟨aB BK119⟩, ⟨aL HB⟩⟩
 clear H'; obtain ⟨x3_1, x9_1, rfl, HA, HK1, HO_3, BK119, HB⟩ := hrel; cases gk with
 | zero => exact absurd HA.out (by simp [items_Parts.l0])
 | succ k1 =>
  have H := HA.out; clear HA; simp only [items_Parts.l0] at H; by_cases c4 : x9_1 < (l0_1.length : Int)
  rotate_left
  ·rw [if_neg c4] at H
   have c4b0 : decide (x9_1 < (l0_1.length : Int)) = false := decide_eq_false c4
   clear c4; obtain rfl := Option.some.inj H
   go_wp2
   go_ret
   exact ⟨_, aX, aR HO_3, aL HB⟩
  rw [if_pos c4] at H; have c4b0 : decide (x9_1 < (l0_1.length : Int)) = true := decide_eq_true c4
  clear c4; by_cases c5 : 0 ≤ x9_1
  rotate_left
  ·rw [if_neg c5] at H
   exact absurd H (by simp)
  rw [if_pos c5] at H; have c5b0 : decide (0 ≤ x9_1) = true := decide_eq_true c5
  clear c5; by_cases c6 : x9_1 < (l0_1.length : Int)
  rotate_left
  ·rw [if_neg c6] at H
   exact absurd H (by simp)
  rw [if_pos c6] at H; have c6b0 : decide (x9_1 < (l0_1.length : Int)) = true := decide_eq_true c6
  clear c6; by_cases c7 : (rd l0_1 x9_1) = 2
  rotate_left
  ·rw [if_neg c7] at H
   have c7b0 : ((rd l0_1 x9_1) == 2) = false := beq_eq_false_iff_ne.mpr c7
   have c7b1 : ((rd l0_1 x9_1) != 2) = true := bne_iff_ne.mpr c7
   have H' := zA.mk H
   clear H; have p120 : 0 ≤ (x9_1 : Int) := aD
   have q120 : x9_1 < (l0_1.length : Int) := aD
   obtain ⟨ad120, e120, hx120_0⟩ := Kd.at_int HR0_1.out x9_1 p120 q120; cases e120
   replace hx120_0 := (HB.out.cell (World.block_lt_of_cell? w _ hx120_0)).trans hx120_0; replace p120 := eq_true p120; replace q120 := eq_true q120; go_wp2
   go_roundg k1
   case measure => have := HK1.out; omega
   case rel => exact ⟨(x3_1), (wrap64 (x9_1 + 1)), aZ, H', ⟨by have := HK1.out; omega⟩, ⟨aR HO_3⟩, ⟨aB BK119⟩, ⟨aL HB⟩⟩
  rw [if_pos c7] at H; have c7b0 : ((rd l0_1 x9_1) == 2) = true := beq_iff_eq.mpr c7
  have c7b1 : ((rd l0_1 x9_1) != 2) = false := bne_eq_false_iff_eq.mpr c7
  clear c7; by_cases c8 : x3_1.length < 17592186044416
  rotate_left
  ·rw [if_neg c8] at H
   exact absurd H (by simp)
  rw [if_pos c8] at H; have LMc8 := zA.mk c8; clear c8; obtain ⟨y121, hy121⟩ : ∃ y_ : List Int, y_ = (x3_1 ++ [x9_1]) := ⟨_, rfl⟩; replace H : (items_Parts.l0 k1 y121 l0_1 (l0_1.length : Int) (wrap64 (x9_1 + 1))) = some r := by first | (rw [hy121]; with_reducible exact H) | (have H2_ := (Option.bind_some _ _).symm.trans H; rw [hy121]; with_reducible exact H2_) | (have H2_ := (Option.bind_some _ _).symm.trans H; with_reducible exact H2_) | with_reducible exact H | (rw [hy121]; exact H) | exact H
  have Ny121 := zA.mk hy121; clear hy121; have H' := zA.mk H
  clear H; have p120 : 0 ≤ (x9_1 : Int) := aD
  have q120 : x9_1 < (l0_1.length : Int) := aD
  obtain ⟨ad120, e120, hx120_0⟩ := Kd.at_int HR0_1.out x9_1 p120 q120; cases e120
  replace hx120_0 := (HB.out.cell (World.block_lt_of_cell? w _ hx120_0)).trans hx120_0; replace p120 := eq_true p120; replace q120 := eq_true q120; go_wp2_with (first | ((with_reducible refine gate_builtin (b := .append) (xs := #[.tmp 16, .tmp 18]) rfl ?_); at_builtin; refine Kd.R_append (Kd.int .i64) (w0 := w) w.heap.size rfl (.tmp 16) (.tmp 18) 47 3 (.int .i64 0) 8 rfl Try.underlying47 info3 rfl (by decide) (by omega) u3 x3_1 x9_1 [.int .i64 x9_1] (fun _ => True) (fun _ => False) rfl rfl ?aP (fun _ hk => hk.elim) ?aF ?aO ?aB ?aS ?aL ?_; (case aP => exact rfl); (case aB => exact (aL HB)); (case aF => exact (fun _ _ => trivial)); (case aO => exact (aR HO_3)); (case aS => exact (zH (aL HB))); (case aL => have := LMc8.out; omega); intro v122 w9 ho hb hg hat; rw [← Ny121.out] at ho; replace BK119 := zA.mk (blk_grown (g := gb119) (o := .cells #[.slice A0_0 l0_0.length c0_0, .slice (some ad120) l0_1.length c0_1] 31 (0, 0)) (aB BK119) hg (Kd.R_ne HO_3.out BK119.out (by decide))); replace HB := zA.mk (hb); have HO123 := zA.mk (ho); clear HO_3; clear ho hb hg hat))
  go_roundg k1
  case measure => have := HK1.out; omega
  case rel => exact ⟨(y121), (wrap64 (x9_1 + 1)), aZ, H', ⟨by have := HK1.out; omega⟩, ⟨aR HO123⟩, ⟨aB BK119⟩, ⟨aL HB⟩⟩
def span_empty.f (a0_0 : Int) (a0_1 : Int) (a0_2 : Int) (a0_3 : Int) : Option (Bool) := if a0_3 = 1 then (some true) else (if a0_3 = 0 then (some (a0_2 == 0)) else (some false))
set_option maxHeartbeats 8000000 in
set_option maxRecDepth 100000 in
theorem span_empty.calls (a0_0 : Int) (a0_1 : Int) (a0_2 : Int) (a0_3 : Int) (r : Bool) (w : World) (h : span_empty.f a0_0 a0_1 a0_2 a0_3 = some r) :
  Calls Try.prog 49 #[.agg #[.int .i64 a0_0, .int .i64 a0_1, .int .i64 a0_2, .int .u8 a0_3]] w fun e w' => e = .returned (.bool r) ∧ Below w.heap.size w w' := by
 have hu66 := Try.underlying66; have HB := zA.mk (Below.refl w.heap.size w); have H : (if a0_3 = 1 then (some true) else (if a0_3 = 0 then (some (a0_2 == 0)) else (some false))) = some r := h
 clear h; by_cases c2 : a0_3 = 1
 ·rw [if_pos c2] at H
  have c2b0 : (a0_3 == 1) = true := beq_iff_eq.mpr c2
  have c2b1 : (a0_3 != 1) = false := bne_eq_false_iff_eq.mpr c2
  clear c2; obtain rfl := Option.some.inj H
  go_enter Try.func49, Try.ntmps49
  go_wp2_with (first | ((with_reducible refine gate_dst (N := 1) rfl ?_); refine box_event ?hg (N := 1) ?hd (cs := #[.int .i64 a0_0, .int .i64 a0_1, .int .i64 a0_2, .int .u8 a0_3]) (t := 66) ?hr ?_; (case hd => rfl); (case hg => rfl); (case hr => first | (go_simp; done) | (go_simp; rfl)); intro gb124 hg w3 hbox hb; have BK124 := zA.mk (hbox); have GW124 := zA.mk ((by rw [hg]; exact (zH (aL HB)) : w.heap.size ≤ gb124)); replace HB := zA.mk (zD (aL HB) hb); have GE124 := GW124; clear hb hbox hg; obtain ⟨hcz4_0, hcz4_1, hcz4_2, hcz4_3, hfz4_0, hfz4_1, hfz4_2, hfz4_3⟩ := aC4 BK124))
  go_ret
  exact ⟨aX, aL HB⟩
 rw [if_neg c2] at H; have c2b0 : (a0_3 == 1) = false := beq_eq_false_iff_ne.mpr c2
 have c2b1 : (a0_3 != 1) = true := bne_iff_ne.mpr c2
 by_cases c5 : a0_3 = 0
 ·rw [if_pos c5] at H
  have c5b0 : (a0_3 == 0) = true := beq_iff_eq.mpr c5
  have c5b1 : (a0_3 != 0) = false := bne_eq_false_iff_eq.mpr c5
  clear c5; obtain rfl := Option.some.inj H
  go_enter Try.func49, Try.ntmps49
  go_wp2_with (first | ((with_reducible refine gate_dst (N := 1) rfl ?_); refine box_event ?hg (N := 1) ?hd (cs := #[.int .i64 a0_0, .int .i64 a0_1, .int .i64 a0_2, .int .u8 a0_3]) (t := 66) ?hr ?_; (case hd => rfl); (case hg => rfl); (case hr => first | (go_simp; done) | (go_simp; rfl)); intro gb124 hg w6 hbox hb; have BK124 := zA.mk (hbox); have GW124 := zA.mk ((by rw [hg]; exact (zH (aL HB)) : w.heap.size ≤ gb124)); replace HB := zA.mk (zD (aL HB) hb); have GE124 := GW124; clear hb hbox hg; obtain ⟨hcz7_0, hcz7_1, hcz7_2, hcz7_3, hfz7_0, hfz7_1, hfz7_2, hfz7_3⟩ := aC4 BK124))
  go_ret
  exact ⟨aX, aL HB⟩
 rw [if_neg c5] at H; have c5b0 : (a0_3 == 0) = false := beq_eq_false_iff_ne.mpr c5
 have c5b1 : (a0_3 != 0) = true := bne_iff_ne.mpr c5
 obtain rfl := Option.some.inj H
 go_enter Try.func49, Try.ntmps49
 go_wp2_with (first | ((with_reducible refine gate_dst (N := 1) rfl ?_); refine box_event ?hg (N := 1) ?hd (cs := #[.int .i64 a0_0, .int .i64 a0_1, .int .i64 a0_2, .int .u8 a0_3]) (t := 66) ?hr ?_; (case hd => rfl); (case hg => rfl); (case hr => first | (go_simp; done) | (go_simp; rfl)); intro gb124 hg w8 hbox hb; have BK124 := zA.mk (hbox); have GW124 := zA.mk ((by rw [hg]; exact (zH (aL HB)) : w.heap.size ≤ gb124)); replace HB := zA.mk (zD (aL HB) hb); have GE124 := GW124; clear hb hbox hg; obtain ⟨hcz9_0, hcz9_1, hcz9_2, hcz9_3, hfz9_0, hfz9_1, hfz9_2, hfz9_3⟩ := aC4 BK124))
 go_ret
 exact ⟨aX, aL HB⟩
def span_Trim.l0 : Nat → Int → Int → List (S66) → List Int → Option (Int)
 | 0, _, _, _, _ => none
 | k + 1, x1, x2, x126000, x126001 => if x2 > x1 then (if 0 ≤ (wrap64 (x2 - 1)) then (if (wrap64 (x2 - 1)) < (x126000.length : Int) then ((span_empty.f ((rd_T66 x126000 (wrap64 (x2 - 1))).f0) ((rd_T66 x126000 (wrap64 (x2 - 1))).f1) ((rd_T66 x126000 (wrap64 (x2 - 1))).f2) ((rd_T66 x126000 (wrap64 (x2 - 1))).f3)).bind fun t127 => (if t127 = true then (span_Trim.l0 k x1 (wrap64 (x2 - 1)) x126000 x126001) else (some x2))) else (none)) else (none)) else (some x2)
def span_Trim.f (k : Nat) (l0_0 : List (S66)) (l0_1 : List Int) (a1 : Int) (a2 : Int) : Option (Int) := span_Trim.l0 k a1 a2 l0_0 l0_1
theorem span_Trim.mono_l : ∀ k, (∀ y0 y1 y2 y3, LeO (span_Trim.l0 k y0 y1 y2 y3) (span_Trim.l0 (k + 1) y0 y1 y2 y3))
 | 0 => fun _ _ _ _ r h => by simp [span_Trim.l0] at h
 | k + 1 => by
  have ih0 := span_Trim.mono_l k
  ·intro y0 y1 y2 y3
   unfold span_Trim.l0
   repeat' (with_reducible first | exact ih0 _ _ _ _ | exact LeO.refl _ | exact LeO.none _ | refine LeO.ite ?_ ?_ | refine LeO.bind ?_ (fun _ => ?_))
theorem span_Trim.mono : ∀ a0 a1 a2 a3 k, LeO (span_Trim.f k a0 a1 a2 a3) (span_Trim.f (k + 1) a0 a1 a2 a3) := by
 intro a0 a1 a2 a3 k
 have ih0 := span_Trim.mono_l k; unfold span_Trim.f
 repeat' (with_reducible first | exact ih0 _ _ _ _ | exact LeO.refl _ | exact LeO.none _ | refine LeO.ite ?_ ?_ | refine LeO.bind ?_ (fun _ => ?_))
set_option maxHeartbeats 8000000 in
set_option maxRecDepth 100000 in
theorem span_Trim.calls (k : Nat) (A0_0 : Option Addr) (c0_0 : Nat) (l0_0 : List (S66)) (A0_1 : Option Addr) (c0_1 : Nat) (l0_1 : List Int) (a1 : Int) (a2 : Int) (r : Int) (w : World) (hr0_0 : Kd.C k66 w A0_0 l0_0.length l0_0) (hc0_0 : l0_0.length ≤ c0_0) (hr0_1 : Kd.C (Kd.int .u8) w A0_1 l0_1.length l0_1) (hc0_1 : l0_1.length ≤ c0_1) (h : span_Trim.f k l0_0 l0_1 a1 a2 = some r) :
  Calls Try.prog 39 #[.agg #[.slice A0_0 l0_0.length c0_0, .slice A0_1 l0_1.length c0_1], .int .i64 a1, .int .i64 a2] w fun e w' => e = .returned (.int .i64 r) ∧ Below w.heap.size w w' := by
 have hu31 := Try.underlying31; have hu66 := Try.underlying66; have HR0_0 := zA.mk hr0_0; have HC0_0 := zA.mk hc0_0; clear hr0_0 hc0_0; have HR0_1 := zA.mk hr0_1; have HC0_1 := zA.mk hc0_1; clear hr0_1 hc0_1; have HB := zA.mk (Below.refl w.heap.size w); have H : (span_Trim.l0 k a1 a2 l0_0 l0_1) = some r := h
 clear h; have H' := zA.mk H
 clear H; go_enter Try.func39, Try.ntmps39
 go_wp2_with (first | ((with_reducible refine gate_dst (N := 3) rfl ?_); refine box_event ?hg (N := 3) ?hd (cs := #[.slice A0_0 l0_0.length c0_0, .slice A0_1 l0_1.length c0_1]) (t := 31) ?hr ?_; (case hd => rfl); (case hg => rfl); (case hr => first | (go_simp; done) | (go_simp; rfl)); intro gb125 hg w4 hbox hb; have BK125 := zA.mk (hbox); have GW125 := zA.mk ((by rw [hg]; exact (zH (aL HB)) : w.heap.size ≤ gb125)); replace HB := zA.mk (zD (aL HB) hb); have GE125 := GW125; clear hb hbox hg))
 go_loopg [2] k (fun kq v2 w' => ∃ (x2_1 : Int), v2 = .int .i64 x2_1 ∧ zA (span_Trim.l0 kq a1 x2_1 l0_0 l0_1 = some r) ∧ zA (kq ≤ k) ∧ zA (w'.heap[gb125]? = some (.cells #[(.slice A0_0 l0_0.length c0_0), (.slice A0_1 l0_1.length c0_1)] 31 (0, 0))) ∧ zA (Below w.heap.size w w'))
 case atStart => exact ⟨(a2), aZ, H', ⟨Nat.le_refl _⟩, ⟨aB BK125⟩, ⟨aL HB⟩⟩
 clear H'; obtain ⟨x2_1, rfl, HA, HK1, BK125, HB⟩ := hrel; cases gk with
 | zero => exact absurd HA.out (by simp [span_Trim.l0])
 | succ k1 =>
  have H := HA.out; clear HA; simp only [span_Trim.l0] at H; by_cases c5 : x2_1 > a1
  rotate_left
  ·rw [if_neg c5] at H
   have c5b0 : decide (a1 < x2_1) = false := decide_eq_false c5
   clear c5; obtain rfl := Option.some.inj H
   go_wp2
   go_ret
   exact ⟨aX, aL HB⟩
  rw [if_pos c5] at H; have c5b0 : decide (a1 < x2_1) = true := decide_eq_true c5
  clear c5; obtain ⟨ji6, hji6⟩ : ∃ j_ : Int, (wrap64 (x2_1 - 1)) = j_ := ⟨_, rfl⟩; replace H : (if 0 ≤ (ji6) then (if (ji6) < (l0_0.length : Int) then ((span_empty.f ((rd_T66 l0_0 (ji6)).f0) ((rd_T66 l0_0 (ji6)).f1) ((rd_T66 l0_0 (ji6)).f2) ((rd_T66 l0_0 (ji6)).f3)).bind fun t127 => (if t127 = true then (span_Trim.l0 k1 a1 ji6 l0_0 l0_1) else (some x2_1))) else (none)) else (none)) = some r := by first | (rw [hji6] at H; exact H) | (simp only [hji6] at H ⊢; exact H)
  have hji6w : (IntKind.i64.wrap (x2_1 - 1)) = ji6 := (i64_w _).trans hji6
  by_cases c7 : 0 ≤ (ji6)
  rotate_left
  ·rw [if_neg c7] at H
   exact absurd H (by simp)
  rw [if_pos c7] at H; have c7b0 : decide (0 ≤ (ji6)) = true := decide_eq_true c7
  clear c7; by_cases c8 : (ji6) < (l0_0.length : Int)
  rotate_left
  ·rw [if_neg c8] at H
   exact absurd H (by simp)
  rw [if_pos c8] at H; have c8b0 : decide ((ji6) < (l0_0.length : Int)) = true := decide_eq_true c8
  clear c8; replace H := Option.bind_eq_some_iff.mp H; obtain ⟨t127, A90, H⟩ := H; replace H : (if t127 = true then (span_Trim.l0 k1 a1 ji6 l0_0 l0_1) else (some x2_1)) = some r := H; have A9 := zA.mk A90; clear A90; by_cases c10 : t127 = true
  rotate_left
  ·replace c10 := Bool.eq_false_iff.mpr c10
   subst c10; have H1 : (some x2_1) = some r := by rw [if_neg (show ¬ (false = true) by decide)] at H; exact H
   clear H; have H := H1; clear H1; obtain rfl := Option.some.inj H
   obtain ⟨hcz13_0, hcz13_1, hfz13_0, hfz13_1⟩ := aC2 BK125; have p126 : 0 ≤ ((ji6) : Int) := aD
   have q126 : (ji6) < (l0_0.length : Int) := aD
   obtain ⟨ad126, e126, hx126_0, hx126_1, hx126_2, hx126_3⟩ := at_T66 HR0_0.out (ji6) p126 q126; cases e126
   replace hx126_0 := (HB.out.cell (World.block_lt_of_cell? w _ hx126_0)).trans hx126_0; replace hx126_1 := (HB.out.cell (World.block_lt_of_cell? w _ hx126_1)).trans hx126_1; replace hx126_2 := (HB.out.cell (World.block_lt_of_cell? w _ hx126_2)).trans hx126_2; replace hx126_3 := (HB.out.cell (World.block_lt_of_cell? w _ hx126_3)).trans hx126_3; replace p126 := eq_true p126; replace q126 := eq_true q126; go_wp2_with (first | (go_at_call 49; (with_reducible refine (span_empty.calls ((rd_T66 l0_0 (ji6)).f0) ((rd_T66 l0_0 (ji6)).f1) ((rd_T66 l0_0 (ji6)).f2) ((rd_T66 l0_0 (ji6)).f3) false _ A9.out).mono ?_); rintro e w14 ⟨rfl, hb⟩; replace BK125 := zA.mk (zC (aB BK125) hb); replace HB := zA.mk (zD (aL HB) hb); (try clear hb); (try clear hb2); (try clear hk); (try clear hi)))
   go_ret
   exact ⟨by first | rfl | (simp [errW_none, errW_some] <;> rfl) | (simp only [← hji6]; first | rfl | (simp [errW_none, errW_some] <;> rfl)) | (simp [*, errW_none, errW_some] <;> rfl), aL HB⟩
  subst c10; have H1 : (span_Trim.l0 k1 a1 ji6 l0_0 l0_1) = some r := by rw [if_pos rfl] at H; exact H
  clear H; have H := H1; clear H1; have H' := zA.mk H
  clear H; obtain ⟨hcz11_0, hcz11_1, hfz11_0, hfz11_1⟩ := aC2 BK125; have p126 : 0 ≤ ((ji6) : Int) := aD
  have q126 : (ji6) < (l0_0.length : Int) := aD
  obtain ⟨ad126, e126, hx126_0, hx126_1, hx126_2, hx126_3⟩ := at_T66 HR0_0.out (ji6) p126 q126; cases e126
  replace hx126_0 := (HB.out.cell (World.block_lt_of_cell? w _ hx126_0)).trans hx126_0; replace hx126_1 := (HB.out.cell (World.block_lt_of_cell? w _ hx126_1)).trans hx126_1; replace hx126_2 := (HB.out.cell (World.block_lt_of_cell? w _ hx126_2)).trans hx126_2; replace hx126_3 := (HB.out.cell (World.block_lt_of_cell? w _ hx126_3)).trans hx126_3; replace p126 := eq_true p126; replace q126 := eq_true q126; go_wp2_with (first | (go_at_call 49; (with_reducible refine (span_empty.calls ((rd_T66 l0_0 (ji6)).f0) ((rd_T66 l0_0 (ji6)).f1) ((rd_T66 l0_0 (ji6)).f2) ((rd_T66 l0_0 (ji6)).f3) true _ A9.out).mono ?_); rintro e w12 ⟨rfl, hb⟩; replace BK125 := zA.mk (zC (aB BK125) hb); replace HB := zA.mk (zD (aL HB) hb); (try clear hb); (try clear hb2); (try clear hk); (try clear hi)))
  go_roundg k1
  case measure => have := HK1.out; omega
  case rel => exact ⟨(ji6), (by first | rfl | (simp; done) | (simp only [← hji6] <;> (first | rfl | simp)) | (simp [*]; done)), H', ⟨by have := HK1.out; omega⟩, ⟨aB BK125⟩, ⟨aL HB⟩⟩
def span_Next.f (a0_0 : Int) (a0_1 : Int) (a0_2 : Int) (a0_3 : Int) (a1 : Int) (a2 : Int) : Option (Int) := if a0_3 = 2 then (if a2 = 0 then (none) else (some (wrap64 ((wrap64 (a1 + a2)) - (Int.tmod a1 a2))))) else (some (wrap64 (a1 + a0_2)))
set_option maxHeartbeats 8000000 in
set_option maxRecDepth 100000 in
theorem span_Next.calls (a0_0 : Int) (a0_1 : Int) (a0_2 : Int) (a0_3 : Int) (a1 : Int) (a2 : Int) (r : Int) (w : World) (h : span_Next.f a0_0 a0_1 a0_2 a0_3 a1 a2 = some r) :
  Calls Try.prog 38 #[.agg #[.int .i64 a0_0, .int .i64 a0_1, .int .i64 a0_2, .int .u8 a0_3], .int .i64 a1, .int .i64 a2] w fun e w' => e = .returned (.int .i64 r) ∧ Below w.heap.size w w' := by
 have hu66 := Try.underlying66; have HB := zA.mk (Below.refl w.heap.size w); have H : (if a0_3 = 2 then (if a2 = 0 then (none) else (some (wrap64 ((wrap64 (a1 + a2)) - (Int.tmod a1 a2))))) else (some (wrap64 (a1 + a0_2)))) = some r := h
 clear h; by_cases c4 : a0_3 = 2
 rotate_left
 ·rw [if_neg c4] at H
  have c4b0 : (a0_3 == 2) = false := beq_eq_false_iff_ne.mpr c4
  have c4b1 : (a0_3 != 2) = true := bne_iff_ne.mpr c4
  obtain rfl := Option.some.inj H
  go_enter Try.func38, Try.ntmps38
  go_wp2_with (first | ((with_reducible refine gate_dst (N := 3) rfl ?_); refine box_event ?hg (N := 3) ?hd (cs := #[.int .i64 a0_0, .int .i64 a0_1, .int .i64 a0_2, .int .u8 a0_3]) (t := 66) ?hr ?_; (case hd => rfl); (case hg => rfl); (case hr => first | (go_simp; done) | (go_simp; rfl)); intro gb128 hg w8 hbox hb; have BK128 := zA.mk (hbox); have GW128 := zA.mk ((by rw [hg]; exact (zH (aL HB)) : w.heap.size ≤ gb128)); replace HB := zA.mk (zD (aL HB) hb); have GE128 := GW128; clear hb hbox hg; obtain ⟨hcz9_0, hcz9_1, hcz9_2, hcz9_3, hfz9_0, hfz9_1, hfz9_2, hfz9_3⟩ := aC4 BK128))
  go_ret
  exact ⟨aX, aL HB⟩
 rw [if_pos c4] at H; have c4b0 : (a0_3 == 2) = true := beq_iff_eq.mpr c4
 have c4b1 : (a0_3 != 2) = false := bne_eq_false_iff_eq.mpr c4
 clear c4; by_cases c5 : a2 = 0
 ·rw [if_pos c5] at H
  exact absurd H (by simp)
 rw [if_neg c5] at H; have c5b0 : (a2 == 0) = false := beq_eq_false_iff_ne.mpr c5
 have c5b1 : (a2 != 0) = true := bne_iff_ne.mpr c5
 obtain rfl := Option.some.inj H
 go_enter Try.func38, Try.ntmps38
 go_wp2_with (first | ((with_reducible refine gate_dst (N := 3) rfl ?_); refine box_event ?hg (N := 3) ?hd (cs := #[.int .i64 a0_0, .int .i64 a0_1, .int .i64 a0_2, .int .u8 a0_3]) (t := 66) ?hr ?_; (case hd => rfl); (case hg => rfl); (case hr => first | (go_simp; done) | (go_simp; rfl)); intro gb128 hg w6 hbox hb; have BK128 := zA.mk (hbox); have GW128 := zA.mk ((by rw [hg]; exact (zH (aL HB)) : w.heap.size ≤ gb128)); replace HB := zA.mk (zD (aL HB) hb); have GE128 := GW128; clear hb hbox hg; obtain ⟨hcz7_0, hcz7_1, hcz7_2, hcz7_3, hfz7_0, hfz7_1, hfz7_2, hfz7_3⟩ := aC4 BK128))
 go_ret
 exact ⟨aX, aL HB⟩
def span_Columns.l0 : Nat → Int → Int → List Int → Int → List (S66) → List Int → Option (List Int)
 | 0, _, _, _, _, _, _ => none
 | k + 1, x2, x3, x9, x10, x130000, x130001 => if x10 < x2 then (if 0 ≤ x10 then (if x10 < (x130000.length : Int) then (if 0 ≤ (wrap64 ((x9.length : Int) - 1)) then (if (wrap64 ((x9.length : Int) - 1)) < (x9.length : Int) then ((span_Next.f ((rd_T66 x130000 x10).f0) ((rd_T66 x130000 x10).f1) ((rd_T66 x130000 x10).f2) ((rd_T66 x130000 x10).f3) (rd x9 (wrap64 ((x9.length : Int) - 1))) x3).bind fun t135 => (if x9.length < 17592186044416 then (span_Columns.l0 k x2 x3 (x9 ++ [t135]) (wrap64 (x10 + 1)) x130000 x130001) else (none))) else (none)) else (none)) else (none)) else (none)) else (some x9)
def span_Columns.f (k : Nat) (l0_0 : List (S66)) (l0_1 : List Int) (a1 : Int) (a2 : Int) (a3 : Int) : Option (List Int) := span_Columns.l0 k a2 a3 (([0] : List Int)) a1 l0_0 l0_1
theorem span_Columns.mono_l : ∀ k, (∀ y0 y1 y2 y3 y4 y5, LeO (span_Columns.l0 k y0 y1 y2 y3 y4 y5) (span_Columns.l0 (k + 1) y0 y1 y2 y3 y4 y5))
 | 0 => fun _ _ _ _ _ _ r h => by simp [span_Columns.l0] at h
 | k + 1 => by
  have ih0 := span_Columns.mono_l k
  ·intro y0 y1 y2 y3 y4 y5
   unfold span_Columns.l0
   repeat' (with_reducible first | exact ih0 _ _ _ _ _ _ | exact LeO.refl _ | exact LeO.none _ | refine LeO.ite ?_ ?_ | refine LeO.bind ?_ (fun _ => ?_))
theorem span_Columns.mono : ∀ a0 a1 a2 a3 a4 k, LeO (span_Columns.f k a0 a1 a2 a3 a4) (span_Columns.f (k + 1) a0 a1 a2 a3 a4) := by
 intro a0 a1 a2 a3 a4 k
 have ih0 := span_Columns.mono_l k; unfold span_Columns.f
 repeat' (with_reducible first | exact ih0 _ _ _ _ _ _ | exact LeO.refl _ | exact LeO.none _ | refine LeO.ite ?_ ?_ | refine LeO.bind ?_ (fun _ => ?_))
def span_Columns.T5 : Bool × List (List Nat × List Nat) := (true, [([], []), ([], []), ([1], [1]), ([], []), ([2, 3], [2, 3]), ([4], [4]), ([], []), ([], []), ([7], [7]), ([8], [8]), ([6, 9], [6, 9]), ([10], [10]), ([], []), ([5, 11, 12], [5, 11, 12]), ([13], [13]), ([0, 14, 13], [0, 14]), ([15, 15, 0, 1, 2, 3, 4, 5, 6, 7, 8, 9, 10, 11, 12, 13, 14, 15], [0, 6, 7, 15])])
def span_Columns.B5 : List Nat := [0, 0, 2, 0, 14, 30, 0, 0, 128, 384, 960, 1984, 0, 8190, 16382, 32767, 65535]
theorem span_Columns.tab5 : rtab .any (opsOf Try.f53 5) = span_Columns.T5 := by kernel_rfl
theorem span_Columns.bits5 : waitsOk span_Columns.T5.2 span_Columns.B5 = true := by kernel_rfl
set_option maxHeartbeats 8000000 in
set_option maxRecDepth 100000 in
theorem span_Columns.calls (k : Nat) (A0_0 : Option Addr) (c0_0 : Nat) (l0_0 : List (S66)) (A0_1 : Option Addr) (c0_1 : Nat) (l0_1 : List Int) (a1 : Int) (a2 : Int) (a3 : Int) (r : List Int) (w : World) (hr0_0 : Kd.C k66 w A0_0 l0_0.length l0_0) (hc0_0 : l0_0.length ≤ c0_0) (hr0_1 : Kd.C (Kd.int .u8) w A0_1 l0_1.length l0_1) (hc0_1 : l0_1.length ≤ c0_1) (h : span_Columns.f k l0_0 l0_1 a1 a2 a3 = some r) :
  Calls Try.prog 53 #[.agg #[.slice A0_0 l0_0.length c0_0, .slice A0_1 l0_1.length c0_1], .int .i64 a1, .int .i64 a2, .int .i64 a3] w fun e w' => ∃ v0_ : Value, e = .returned (v0_) ∧ Kd.R (Kd.int .i64) 3 w' w.heap.size (fun _ => True) v0_ r ∧ Below w.heap.size w w' := by
 have hu31 := Try.underlying31; have hu66 := Try.underlying66; have HR0_0 := zA.mk hr0_0; have HC0_0 := zA.mk hc0_0; clear hr0_0 hc0_0; have HR0_1 := zA.mk hr0_1; have HC0_1 := zA.mk hc0_1; clear hr0_1 hc0_1; have HB := zA.mk (Below.refl w.heap.size w); have H : (span_Columns.l0 k a2 a3 (([0] : List Int)) a1 l0_0 l0_1) = some r := h
 clear h; obtain ⟨y130, hy130⟩ : ∃ y_ : List Int, y_ = (([0] : List Int)) := ⟨_, rfl⟩; replace H : (span_Columns.l0 k a2 a3 y130 a1 l0_0 l0_1) = some r := by first | (rw [hy130]; with_reducible exact H) | (have H2_ := (Option.bind_some _ _).symm.trans H; rw [hy130]; with_reducible exact H2_) | (have H2_ := (Option.bind_some _ _).symm.trans H; with_reducible exact H2_) | with_reducible exact H | (rw [hy130]; exact H) | exact H
 have Ny130 := zA.mk hy130; clear hy130; have H' := zA.mk H
 clear H; go_enter Try.func53, Try.ntmps53
 go_wp2_with (first | ((with_reducible refine gate_dst (N := 4) rfl ?_); refine box_event ?hg (N := 4) ?hd (cs := #[.slice A0_0 l0_0.length c0_0, .slice A0_1 l0_1.length c0_1]) (t := 31) ?hr ?_; (case hd => rfl); (case hg => rfl); (case hr => first | (go_simp; done) | (go_simp; rfl)); intro gb129 hg w5 hbox hb; have BK129 := zA.mk (hbox); have GW129 := zA.mk ((by rw [hg]; exact (zH (aL HB)) : w.heap.size ≤ gb129)); replace HB := zA.mk (zD (aL HB) hb); have GE129 := GW129; clear hb hbox hg) | ((with_reducible refine gate_dst (N := 11) rfl ?_); refine Kd.R_lit (Kd.int .i64) _ 3 ?hg (N := 11) ?hd (xs := ([0] : List Int)) (inner := [.int .i64 0]) (ok := fun _ => True) (okp := fun _ => True) ?hr ?hp (fun _ hk => hk) trivial (Below.refl _ _) (Nat.le_refl _) (by simp) ?_; (case hd => rfl); (case hg => rfl); (case hr => first | (go_simp; done) | (go_simp; rfl)); (case hp => exact (Reps.one (show Kd.M (Kd.int .i64) _ _ _ 0 [.int .i64 0] from rfl) (Reps.none _ _))); intro v131 w6 ho7 hb hg_ hnew_; clear hg_ hnew_; (first | rw [← Ny130.out] at ho7 | (simp only [Int.reduceToNat] at ho7; rw [← Ny130.out] at ho7)); have HO132 := zA.mk (Kd.zU ho7 (zH (aL HB))); replace BK129 := zA.mk (zC (aB BK129) hb); replace HB := zA.mk (zD (aL HB) hb); clear hb ho7))
 go_loopg [9, 10] k (fun kq v9 v10 w' => ∃ (x9_1 : List Int) (x10_1 : Int), v10 = .int .i64 x10_1 ∧ zA (span_Columns.l0 kq a2 a3 x9_1 x10_1 l0_0 l0_1 = some r) ∧ zA (kq ≤ k) ∧ zA (Kd.R (Kd.int .i64) 3 w' w.heap.size (fun _ => True) v9 x9_1) ∧ zA (w'.heap[gb129]? = some (.cells #[(.slice A0_0 l0_0.length c0_0), (.slice A0_1 l0_1.length c0_1)] 31 (0, 0))) ∧ zA (Below w.heap.size w w'))
 case atStart => exact ⟨(y130), (a1), aZ, H', ⟨Nat.le_refl _⟩, ⟨aR HO132⟩, ⟨aB BK129⟩, ⟨aL HB⟩⟩
 clear H'; obtain ⟨x9_1, x10_1, rfl, HA, HK1, HO_9, BK129, HB⟩ := hrel; cases gk with
 | zero => exact absurd HA.out (by simp [span_Columns.l0])
 | succ k1 =>
  have H := HA.out; clear HA; simp only [span_Columns.l0] at H; by_cases c8 : x10_1 < a2
  rotate_left
  ·rw [if_neg c8] at H
   have c8b0 : decide (x10_1 < a2) = false := decide_eq_false c8
   clear c8; obtain rfl := Option.some.inj H
   go_wp2
   go_ret
   exact ⟨_, aX, aR HO_9, aL HB⟩
  rw [if_pos c8] at H; have c8b0 : decide (x10_1 < a2) = true := decide_eq_true c8
  clear c8; by_cases c9 : 0 ≤ x10_1
  rotate_left
  ·rw [if_neg c9] at H
   exact absurd H (by simp)
  rw [if_pos c9] at H; have c9b0 : decide (0 ≤ x10_1) = true := decide_eq_true c9
  clear c9; by_cases c10 : x10_1 < (l0_0.length : Int)
  rotate_left
  ·rw [if_neg c10] at H
   exact absurd H (by simp)
  rw [if_pos c10] at H; have c10b0 : decide (x10_1 < (l0_0.length : Int)) = true := decide_eq_true c10
  clear c10; obtain ⟨ji11, hji11⟩ : ∃ j_ : Int, (wrap64 ((x9_1.length : Int) - 1)) = j_ := ⟨_, rfl⟩; replace H : (if 0 ≤ (ji11) then (if (ji11) < (x9_1.length : Int) then ((span_Next.f ((rd_T66 l0_0 x10_1).f0) ((rd_T66 l0_0 x10_1).f1) ((rd_T66 l0_0 x10_1).f2) ((rd_T66 l0_0 x10_1).f3) (rd x9_1 (ji11)) a3).bind fun t135 => (if x9_1.length < 17592186044416 then (span_Columns.l0 k1 a2 a3 (x9_1 ++ [t135]) (wrap64 (x10_1 + 1)) l0_0 l0_1) else (none))) else (none)) else (none)) = some r := by first | (rw [hji11] at H; exact H) | (simp only [hji11] at H ⊢; exact H)
  have hji11w : (IntKind.i64.wrap ((x9_1.length : Int) - 1)) = ji11 := (i64_w _).trans hji11
  by_cases c12 : 0 ≤ (ji11)
  rotate_left
  ·rw [if_neg c12] at H
   exact absurd H (by simp)
  rw [if_pos c12] at H; have c12b0 : decide (0 ≤ (ji11)) = true := decide_eq_true c12
  clear c12; by_cases c13 : (ji11) < (x9_1.length : Int)
  rotate_left
  ·rw [if_neg c13] at H
   exact absurd H (by simp)
  rw [if_pos c13] at H; have c13b0 : decide ((ji11) < (x9_1.length : Int)) = true := decide_eq_true c13
  clear c13; replace H := Option.bind_eq_some_iff.mp H; obtain ⟨t135, A140, H⟩ := H; replace H : (if x9_1.length < 17592186044416 then (span_Columns.l0 k1 a2 a3 (x9_1 ++ [t135]) (wrap64 (x10_1 + 1)) l0_0 l0_1) else (none)) = some r := H; have A14 := zA.mk A140; clear A140; by_cases c15 : x9_1.length < 17592186044416
  rotate_left
  ·rw [if_neg c15] at H
   exact absurd H (by simp)
  rw [if_pos c15] at H; have LMc15 := zA.mk c15; clear c15; obtain ⟨y136, hy136⟩ : ∃ y_ : List Int, y_ = (x9_1 ++ [t135]) := ⟨_, rfl⟩; replace H : (span_Columns.l0 k1 a2 a3 y136 (wrap64 (x10_1 + 1)) l0_0 l0_1) = some r := by first | (rw [hy136]; with_reducible exact H) | (have H2_ := (Option.bind_some _ _).symm.trans H; rw [hy136]; with_reducible exact H2_) | (have H2_ := (Option.bind_some _ _).symm.trans H; with_reducible exact H2_) | with_reducible exact H | (rw [hy136]; exact H) | exact H
  have Ny136 := zA.mk hy136; clear hy136; have H' := zA.mk H
  clear H; try go_wp2
  replace HO_9 := zA.mk (Kd.zL HO_9.out); replace BK129 := zA.mk (zF BK129.out); replace HB := zA.mk (below_drew1 HB.out); have p133 : 0 ≤ (x10_1 : Int) := aD
  have q133 : x10_1 < (l0_0.length : Int) := aD
  obtain ⟨ad133, e133, hx133_0, hx133_1, hx133_2, hx133_3⟩ := at_T66 HR0_0.out x10_1 p133 q133; have hw133_3 := hx133_3; have hw133_2 := hx133_2; have hw133_1 := hx133_1; have hw133_0 := hx133_0; cases e133
  replace hx133_0 := (HB.out.cell (World.block_lt_of_cell? w _ hx133_0)).trans hx133_0; replace hx133_1 := (HB.out.cell (World.block_lt_of_cell? w _ hx133_1)).trans hx133_1; replace hx133_2 := (HB.out.cell (World.block_lt_of_cell? w _ hx133_2)).trans hx133_2; replace hx133_3 := (HB.out.cell (World.block_lt_of_cell? w _ hx133_3)).trans hx133_3; replace p133 := eq_true p133; replace q133 := eq_true q133; obtain ⟨Ao17, co17, eo17⟩ := Kd.zT HO_9.out; (first | subst eo17 | (injection eo17 with f1_ f2_ f3_; have f4_ := f1_.symm; have f5_ := f3_.symm; clear f1_ f2_ f3_; subst f4_; subst f5_))
  have p134 : 0 ≤ ((ji11) : Int) := aD
  have q134 : (ji11) < (x9_1.length : Int) := aD
  obtain ⟨ad134, e134, hx134_0⟩ := Kd.at_int (Kd.zQ HO_9.out).2.2 (ji11) p134 q134; cases e134
  replace p134 := eq_true p134; replace q134 := eq_true q134; refine start_ (n := 17) (S := fun w' => w'.cell? ⟨gb129, 0, none⟩ = some (.slice (some ad133) l0_0.length c0_0) ∧ w'.cell? ⟨gb129, 1, none⟩ = some (.slice A0_1 l0_1.length c0_1) ∧ w'.cell? (ad133.add ((x10_1).toNat * 4)) = some (.int .i64 ((rd_T66 l0_0 x10_1).f0)) ∧ w'.cell? ⟨(ad133.add ((x10_1).toNat * 4)).block, (ad133.add ((x10_1).toNat * 4)).off + 1, none⟩ = some (.int .i64 ((rd_T66 l0_0 x10_1).f1)) ∧ w'.cell? ⟨(ad133.add ((x10_1).toNat * 4)).block, (ad133.add ((x10_1).toNat * 4)).off + 2, none⟩ = some (.int .i64 ((rd_T66 l0_0 x10_1).f2)) ∧ w'.cell? ⟨(ad133.add ((x10_1).toNat * 4)).block, (ad133.add ((x10_1).toNat * 4)).off + 3, none⟩ = some (.int .u8 ((rd_T66 l0_0 x10_1).f3)) ∧ w'.cell? (ad134.add ((ji11)).toNat) = some (.int .i64 (rd x9_1 (ji11)))) (ds := [14, 15]) #[false, false, false, false, false, false, false, false, false, false, false, false, false, false, false, false, false] (by kernel_rfl) rfl rfl ⟨(zB BK129.out 0).trans rfl, (zB BK129.out 1).trans rfl, ((HB.out.cell (World.block_lt_of_cell? w _ hw133_0)).trans hw133_0), ((HB.out.cell (World.block_lt_of_cell? w _ hw133_1)).trans hw133_1), ((HB.out.cell (World.block_lt_of_cell? w _ hw133_2)).trans hw133_2), ((HB.out.cell (World.block_lt_of_cell? w _ hw133_3)).trans hw133_3), hx134_0⟩ (fun hHeld => ?_); refine with_tabW span_Columns.tab5 span_Columns.bits5 (fun HT_ HW_ => ?_)
  generalize wr.drew = w16 at HO_9 BK129 HB hx133_0 hx133_1 hx133_2 hx133_3 hx134_0 hHeld ⊢
  refine aP 0 (some 18) (tf_ 1 17) HT_ ?_
  refine aP 1 (some 19) (tf_ 2 17) HT_ ?_
  refine aP 3 (some 21) (tb_ 11 17) HT_ ?_
  refine aP 6 (some 24) (tb_ 75 17) HT_ ?_
  refine aP 7 (some 25) (tb_ 203 17) HT_ ?_
  refine aP 8 (some 26) (tb_ 459 17) HT_ ?_
  refine aP 9 (some 27) (tb_ 971 17) HT_ ?_
  refine aP 10 (some 28) (tb_ 1995 17) HT_ ?_
  refine aP 12 (some 30) (tb_ 6091 17) HT_ ?_
  refine take_ (i := 2) (N := some 20) (v := ?_) (a' := ?_) (tb_ 6095 17) rfl rfl (take_ofW HT_.out HW_.out (by kernel_rfl)) (fun _ _ _ h => h) (Or.inl ⟨by rfl, ?_⟩) hHeld ?_ ?_
  rotate_left
  ·rintro w' ⟨s0, s1, s2, s3, s4, s5, s6⟩
   go_simp
   with_reducible rfl
  rotate_left
  ·simp only [Act.put, sA_, sB_, sC_, i64_w, i32_w]
   rfl
  refine aP 4 (some 22) (tb_ 6111 17) HT_ ?_
  refine take_ (i := 5) (N := some 23) (v := ?_) (a' := ?_) (tb_ 6143 17) rfl rfl (take_ofW HT_.out HW_.out (by kernel_rfl)) (fun _ _ _ h => h) (Or.inl ⟨by rfl, ?_⟩) hHeld ?_ ?_
  rotate_left
  ·rintro w' ⟨s0, s1, s2, s3, s4, s5, s6⟩
   go_simp
   with_reducible rfl
  rotate_left
  ·simp only [Act.put, sA_, sB_, sC_, i64_w, i32_w]
   rfl
  refine take_ (i := 11) (N := some 29) (v := ?_) (a' := ?_) (tf_ 13 17) rfl rfl (take_ofW HT_.out HW_.out (by kernel_rfl)) (fun _ _ _ h => h) (Or.inl ⟨by rfl, ?_⟩) hHeld ?_ ?_
  rotate_left
  ·rintro w' ⟨s0, s1, s2, s3, s4, s5, s6⟩
   go_simp
   with_reducible rfl
  rotate_left
  ·simp only [Act.put, sA_, sB_, sC_, i64_w, i32_w]
   rfl
  refine one_ (i := 13) (N := some 31) (tb_ 16383 17) rfl rfl (one_of HT_.out (by kernel_rfl)) (by decide) (fun K hK => ?_)
  refine goes_ Try.func38 (by kernel_rfl) rfl #[.agg #[.int .i64 ((rd_T66 l0_0 x10_1).f0), .int .i64 ((rd_T66 l0_0 x10_1).f1), .int .i64 ((rd_T66 l0_0 x10_1).f2), .int .u8 ((rd_T66 l0_0 x10_1).f3)], .int .i64 (rd x9_1 (ji11)), .int .i64 a3] (by rfl) rfl rfl (by (try simp only [List.map_toArray, List.map_cons, List.map_nil]); first | done | (simp only [hji11]; rfl) | rfl | (simp only [List.length_drop, List.length_take]; rfl)) ?_
  with_reducible refine (span_Next.calls ((rd_T66 l0_0 x10_1).f0) ((rd_T66 l0_0 x10_1).f1) ((rd_T66 l0_0 x10_1).f2) ((rd_T66 l0_0 x10_1).f3) (rd x9_1 (ji11)) a3 t135 _ A14.out).mono ?_
  rintro e w18 ⟨rfl, hb⟩
  have HS6_ := (hb.cell (World.block_lt_of_cell? _ _ (hHeld.2.2.2.2.2.2))).trans (hHeld.2.2.2.2.2.2); refine ⟨_, rfl, ?_⟩
  replace HO_9 := zA.mk (Kd.zR (aR HO_9) hb); replace BK129 := zA.mk (zC (aB BK129) hb); replace HB := zA.mk (zD (aL HB) hb); (try clear hb)
  (try clear hb2)
  (try clear hk)
  (try clear hi)
  refine hK.out _ _ ⟨(zB BK129.out 0).trans rfl, (zB BK129.out 1).trans rfl, ((HB.out.cell (World.block_lt_of_cell? w _ hw133_0)).trans hw133_0), ((HB.out.cell (World.block_lt_of_cell? w _ hw133_1)).trans hw133_1), ((HB.out.cell (World.block_lt_of_cell? w _ hw133_2)).trans hw133_2), ((HB.out.cell (World.block_lt_of_cell? w _ hw133_3)).trans hw133_3), HS6_⟩ (fun hHeld => ?_)
  clear hK K; refine norm_ (a' := ?_) ?_ ?_
  rotate_left
  ·show Act.put _ (some 31) _ = _
   simp only [Act.put, sA_, sB_, sC_, i64_w, i32_w]; rfl
  refine last_ (i := 14) (N := some 32) (tb_ 32767 17) rfl rfl (one_of HT_.out (by kernel_rfl)) (by decide) (fun K hK => ?_)
  refine value_ (w1 := ?_) (v := ?_) (by rfl) rfl ?_ ?_
  rotate_left 2
  ·go_simp
   constructor
   ·rfl
   rfl
  refine hK.out _ _ ?_
  clear hK K; refine norm_ (a' := ?_) ?_ ?_
  rotate_left
  ·show Act.put _ (some 32) _ = _
   simp only [Act.put, sA_, sB_, sC_, i64_w, i32_w]; rfl
  refine last_ (i := 15) (N := some 33) (tb_ 65535 17) rfl rfl (one_of HT_.out (by kernel_rfl)) (by decide) (fun K hK => ?_)
  refine Kd.R_append_step (Kd.int .i64) (w0 := w) w.heap.size (by rfl) (.tmp 18) (.tmp 32) 47 3 (.int .i64 0) 8 rfl Try.underlying47 info3 rfl (by decide) (by omega) (.slice (some ad134) x9_1.length co17) x9_1 t135 [.int .i64 t135] (fun _ => True) (fun _ => False) rfl rfl ?aP (fun _ hk => hk.elim) ?aF ?aO ?aB ?aS ?aL ?_
  (case aP => exact rfl)
  (case aB => exact (aL HB))
  (case aF => exact (fun _ _ => trivial))
  (case aO => exact (aR HO_9))
  (case aS => exact (zH (aL HB)))
  (case aL => have := LMc15.out; omega)
  intro v137 w19 ho hb hg hat
  rw [← Ny136.out] at ho; replace BK129 := zA.mk (blk_grown (g := gb129) (o := .cells #[.slice (some ad133) l0_0.length c0_0, .slice A0_1 l0_1.length c0_1] 31 (0, 0)) (aB BK129) hg (Kd.R_ne HO_9.out BK129.out (by decide)))
  replace HB := zA.mk (hb); have HO138 := zA.mk (ho); clear HO_9; clear ho hb hg hat; refine hK.out _ _ ?_
  clear hK K; refine norm_ (a' := ?_) ?_ ?_
  rotate_left
  ·show Act.put _ (some 33) _ = _
   simp only [Act.put, sA_, sB_, sC_, i64_w, i32_w]; rfl
  refine aP 16 (some 9) (tb_ 131071 17) HT_ ?_
  refine done_ (done_of HT_.out (by kernel_rfl)) ?_
  try go_wp2
  go_roundg k1
  case measure => have := HK1.out; omega
  case rel => exact ⟨(y136), (wrap64 (x10_1 + 1)), aZ, H', ⟨by have := HK1.out; omega⟩, ⟨aR HO138⟩, ⟨aB BK129⟩, ⟨aL HB⟩⟩
def span_Cells.f (k : Nat) (l0_0 : List (S66)) (l0_1 : List Int) (a1 : Int) (a2 : Int) (a3 : Int) (a4 : Int) : Option (Int) := (span_Trim.f k l0_0 l0_1 a1 a2).bind fun t140 => ((span_Columns.f k l0_0 l0_1 a1 t140 a4).bind fun t141 => (if 0 ≤ (wrap64 ((t141.length : Int) - 1)) then (if (wrap64 ((t141.length : Int) - 1)) < (t141.length : Int) then (if a3 = 3 then (some (wrap64 ((rd t141 (wrap64 ((t141.length : Int) - 1))) + 1))) else (some (rd t141 (wrap64 ((t141.length : Int) - 1))))) else (none)) else (none)))
theorem span_Cells.mono : ∀ a0 a1 a2 a3 a4 a5 k, LeO (span_Cells.f k a0 a1 a2 a3 a4 a5) (span_Cells.f (k + 1) a0 a1 a2 a3 a4 a5) := by
 intro a0 a1 a2 a3 a4 a5 k
 unfold span_Cells.f
 repeat' (with_reducible first | exact span_Columns.mono _ _ _ _ _ _ | exact span_Trim.mono _ _ _ _ _ | exact LeO.refl _ | exact LeO.none _ | refine LeO.ite ?_ ?_ | refine LeO.bind ?_ (fun _ => ?_))
def span_Cells.T1 : Bool × List (List Nat × List Nat) := (true, [([], []), ([], []), ([], []), ([], []), ([], []), ([2, 3, 4], [2, 3, 4]), ([], []), ([0, 1, 5, 6, 5], [0, 1, 5, 6]), ([7, 7, 0, 1, 2, 3, 4, 5, 6, 7], [7])])
def span_Cells.B1 : List Nat := [0, 0, 0, 0, 0, 28, 0, 127, 255]
theorem span_Cells.tab1 : rtab .any (opsOf Try.f42 1) = span_Cells.T1 := by kernel_rfl
theorem span_Cells.bits1 : waitsOk span_Cells.T1.2 span_Cells.B1 = true := by kernel_rfl
set_option maxHeartbeats 8000000 in
set_option maxRecDepth 100000 in
theorem span_Cells.calls (k : Nat) (A0_0 : Option Addr) (c0_0 : Nat) (l0_0 : List (S66)) (A0_1 : Option Addr) (c0_1 : Nat) (l0_1 : List Int) (a1 : Int) (a2 : Int) (a3 : Int) (a4 : Int) (r : Int) (w : World) (hr0_0 : Kd.C k66 w A0_0 l0_0.length l0_0) (hc0_0 : l0_0.length ≤ c0_0) (hr0_1 : Kd.C (Kd.int .u8) w A0_1 l0_1.length l0_1) (hc0_1 : l0_1.length ≤ c0_1) (h : span_Cells.f k l0_0 l0_1 a1 a2 a3 a4 = some r) :
  Calls Try.prog 42 #[.agg #[.slice A0_0 l0_0.length c0_0, .slice A0_1 l0_1.length c0_1], .int .i64 a1, .int .i64 a2, .int .u8 a3, .int .i64 a4] w fun e w' => e = .returned (.int .i64 r) ∧ Below w.heap.size w w' := by
 have hu31 := Try.underlying31; have HR0_0 := zA.mk hr0_0; have HC0_0 := zA.mk hc0_0; clear hr0_0 hc0_0; have HR0_1 := zA.mk hr0_1; have HC0_1 := zA.mk hc0_1; clear hr0_1 hc0_1; have HB := zA.mk (Below.refl w.heap.size w); have H : ((span_Trim.f k l0_0 l0_1 a1 a2).bind fun t140 => ((span_Columns.f k l0_0 l0_1 a1 t140 a4).bind fun t141 => (if 0 ≤ (wrap64 ((t141.length : Int) - 1)) then (if (wrap64 ((t141.length : Int) - 1)) < (t141.length : Int) then (if a3 = 3 then (some (wrap64 ((rd t141 (wrap64 ((t141.length : Int) - 1))) + 1))) else (some (rd t141 (wrap64 ((t141.length : Int) - 1))))) else (none)) else (none)))) = some r := h
 clear h; replace H := Option.bind_eq_some_iff.mp H; obtain ⟨t140, A60, H⟩ := H; replace H : ((span_Columns.f k l0_0 l0_1 a1 t140 a4).bind fun t141 => (if 0 ≤ (wrap64 ((t141.length : Int) - 1)) then (if (wrap64 ((t141.length : Int) - 1)) < (t141.length : Int) then (if a3 = 3 then (some (wrap64 ((rd t141 (wrap64 ((t141.length : Int) - 1))) + 1))) else (some (rd t141 (wrap64 ((t141.length : Int) - 1))))) else (none)) else (none))) = some r := H
 have A6 := zA.mk A60; clear A60; replace H := Option.bind_eq_some_iff.mp H; obtain ⟨t141, A70, H⟩ := H; replace H : (if 0 ≤ (wrap64 ((t141.length : Int) - 1)) then (if (wrap64 ((t141.length : Int) - 1)) < (t141.length : Int) then (if a3 = 3 then (some (wrap64 ((rd t141 (wrap64 ((t141.length : Int) - 1))) + 1))) else (some (rd t141 (wrap64 ((t141.length : Int) - 1))))) else (none)) else (none)) = some r := H; have A7 := zA.mk A70; clear A70; obtain ⟨ji8, hji8⟩ : ∃ j_ : Int, (wrap64 ((t141.length : Int) - 1)) = j_ := ⟨_, rfl⟩; replace H : (if 0 ≤ (ji8) then (if (ji8) < (t141.length : Int) then (if a3 = 3 then (some (wrap64 ((rd t141 (ji8)) + 1))) else (some (rd t141 (ji8)))) else (none)) else (none)) = some r := by first | (rw [hji8] at H; exact H) | (simp only [hji8] at H ⊢; exact H)
 (try rw [hji8] at A6)
 (try rw [hji8] at A7)
 have hji8w : (IntKind.i64.wrap ((t141.length : Int) - 1)) = ji8 := (i64_w _).trans hji8
 by_cases c9 : 0 ≤ (ji8)
 rotate_left
 ·rw [if_neg c9] at H
  exact absurd H (by simp)
 rw [if_pos c9] at H; have c9b0 : decide (0 ≤ (ji8)) = true := decide_eq_true c9
 clear c9; by_cases c10 : (ji8) < (t141.length : Int)
 rotate_left
 ·rw [if_neg c10] at H
  exact absurd H (by simp)
 rw [if_pos c10] at H; have c10b0 : decide ((ji8) < (t141.length : Int)) = true := decide_eq_true c10
 clear c10; by_cases c11 : a3 = 3
 ·rw [if_pos c11] at H
  have c11b0 : (a3 == 3) = true := beq_iff_eq.mpr c11
  have c11b1 : (a3 != 3) = false := bne_eq_false_iff_eq.mpr c11
  clear c11; obtain rfl := Option.some.inj H
  go_enter Try.func42, Try.ntmps42
  try go_wp2_with (first | ((with_reducible refine gate_dst (N := 5) rfl ?_); refine box_event ?hg (N := 5) ?hd (cs := #[.slice A0_0 l0_0.length c0_0, .slice A0_1 l0_1.length c0_1]) (t := 31) ?hr ?_; (case hd => rfl); (case hg => rfl); (case hr => first | (go_simp; done) | (go_simp; rfl)); intro gb139 hg w12 hbox hb; have BK139 := zA.mk (hbox); have GW139 := zA.mk ((by rw [hg]; exact (zH (aL HB)) : w.heap.size ≤ gb139)); replace HB := zA.mk (zD (aL HB) hb); have GE139 := GW139; clear hb hbox hg))
  replace BK139 := zA.mk (zF BK139.out); replace HB := zA.mk (below_drew1 HB.out); refine start_ (n := 9) (S := fun w' => w'.cell? ⟨gb139, 0, none⟩ = some (.slice A0_0 l0_0.length c0_0) ∧ w'.cell? ⟨gb139, 1, none⟩ = some (.slice A0_1 l0_1.length c0_1)) (ds := []) #[false, false, false, false, false, false, false, false, false] (by kernel_rfl) rfl rfl ⟨(zB BK139.out 0).trans rfl, (zB BK139.out 1).trans rfl⟩ (fun hHeld => ?_); refine with_tabW span_Cells.tab1 span_Cells.bits1 (fun HT_ HW_ => ?_)
  generalize w12.drew = w13 at BK139 HB hHeld ⊢
  refine aP 1 (some 14) (tb_ 2 9) HT_ ?_
  refine aP 3 (some 16) (tb_ 10 9) HT_ ?_
  refine aP 4 (some 17) (tb_ 26 9) HT_ ?_
  refine aP 6 (some 19) (tb_ 90 9) HT_ ?_
  refine take_ (i := 0) (N := some 13) (v := ?_) (a' := ?_) (tb_ 91 9) rfl rfl (take_ofW HT_.out HW_.out (by kernel_rfl)) (fun _ _ _ h => h) (Or.inl ⟨by rfl, ?_⟩) hHeld ?_ ?_
  rotate_left
  ·rintro w' ⟨s0, s1⟩
   go_simp
   with_reducible rfl
  rotate_left
  ·simp only [Act.put, sA_, sB_, sC_, i64_w, i32_w]
   rfl
  refine take_ (i := 2) (N := some 15) (v := ?_) (a' := ?_) (tb_ 95 9) rfl rfl (take_ofW HT_.out HW_.out (by kernel_rfl)) (fun _ _ _ h => h) (Or.inl ⟨by rfl, ?_⟩) hHeld ?_ ?_
  rotate_left
  ·rintro w' ⟨s0, s1⟩
   go_simp
   with_reducible rfl
  rotate_left
  ·simp only [Act.put, sA_, sB_, sC_, i64_w, i32_w]
   rfl
  refine one_ (i := 5) (N := some 18) (tb_ 127 9) rfl rfl (one_of HT_.out (by kernel_rfl)) (by decide) (fun K hK => ?_)
  refine goes_ Try.func39 (by kernel_rfl) rfl #[.agg #[.slice A0_0 l0_0.length c0_0, .slice A0_1 l0_1.length c0_1], .int .i64 a1, .int .i64 a2] (by rfl) rfl rfl aT ?_
  with_reducible refine (span_Trim.calls k _ _ l0_0 _ _ l0_1 a1 a2 t140 _ ?side1 ?side2 ?side3 ?side4 A6.out).mono ?_
  (case side1 => exact aA HR0_0 HB)
  (case side2 => exact HC0_0.out)
  (case side3 => exact aA HR0_1 HB)
  (case side4 => exact HC0_1.out)
  rintro e w14 ⟨rfl, hb⟩
  refine ⟨_, rfl, ?_⟩
  replace BK139 := zA.mk (zC (aB BK139) hb); replace HB := zA.mk (zD (aL HB) hb); (try clear hb)
  (try clear hb2)
  (try clear hk)
  (try clear hi)
  refine hK.out _ _ ⟨(zB BK139.out 0).trans rfl, (zB BK139.out 1).trans rfl⟩ (fun hHeld => ?_)
  clear hK K; refine norm_ (a' := ?_) ?_ ?_
  rotate_left
  ·show Act.put _ (some 18) _ = _
   simp only [Act.put, sA_, sB_, sC_, i64_w, i32_w]; rfl
  refine one_ (i := 7) (N := some 20) (tb_ 255 9) rfl rfl (one_of HT_.out (by kernel_rfl)) (by decide) (fun K hK => ?_)
  refine goes_ Try.func53 (by kernel_rfl) rfl #[.agg #[.slice A0_0 l0_0.length c0_0, .slice A0_1 l0_1.length c0_1], .int .i64 a1, .int .i64 t140, .int .i64 a4] (by rfl) rfl rfl aT ?_
  with_reducible refine (span_Columns.calls k _ _ l0_0 _ _ l0_1 a1 t140 a4 t141 _ ?side1 ?side2 ?side3 ?side4 A7.out).mono ?_
  (case side1 => exact aA HR0_0 HB)
  (case side2 => exact HC0_0.out)
  (case side3 => exact aA HR0_1 HB)
  (case side4 => exact HC0_1.out)
  rintro e w15 ⟨v142, rfl, ho0, hb⟩
  refine ⟨_, rfl, ?_⟩
  have HO143 := zA.mk (Kd.zU ho0 (zH (aL HB))); replace BK139 := zA.mk (zC (aB BK139) hb); replace HB := zA.mk (zD (aL HB) hb); (try clear hb)
  (try clear hb2)
  (try clear hk)
  (try clear hi)
  (try clear ho0)
  refine hK.out _ _ ⟨(zB BK139.out 0).trans rfl, (zB BK139.out 1).trans rfl⟩ (fun hHeld => ?_)
  clear hK K; refine norm_ (a' := ?_) ?_ ?_
  rotate_left
  ·show Act.put _ (some 20) _ = _
   simp only [Act.put, sA_, sB_, sC_, i64_w, i32_w]; rfl
  refine aP 8 (some 11) (tb_ 511 9) HT_ ?_
  refine done_ (done_of HT_.out (by kernel_rfl)) ?_
  obtain ⟨Ao16, co16, eo16⟩ := Kd.zT HO143.out; subst eo16; have p144 : 0 ≤ ((ji8) : Int) := aD
  have q144 : (ji8) < (t141.length : Int) := aD
  obtain ⟨ad144, e144, hx144_0⟩ := Kd.at_int (Kd.zQ HO143.out).2.2 (ji8) p144 q144; cases e144
  replace p144 := eq_true p144; replace q144 := eq_true q144; try go_wp2
  go_ret
  exact ⟨by first | rfl | (simp [errW_none, errW_some] <;> rfl) | (simp only [← hji8]; first | rfl | (simp [errW_none, errW_some] <;> rfl)) | (simp [*, errW_none, errW_some] <;> rfl), aL HB⟩
 rw [if_neg c11] at H; have c11b0 : (a3 == 3) = false := beq_eq_false_iff_ne.mpr c11
 have c11b1 : (a3 != 3) = true := bne_iff_ne.mpr c11
 obtain rfl := Option.some.inj H
 go_enter Try.func42, Try.ntmps42
 try go_wp2_with (first | ((with_reducible refine gate_dst (N := 5) rfl ?_); refine box_event ?hg (N := 5) ?hd (cs := #[.slice A0_0 l0_0.length c0_0, .slice A0_1 l0_1.length c0_1]) (t := 31) ?hr ?_; (case hd => rfl); (case hg => rfl); (case hr => first | (go_simp; done) | (go_simp; rfl)); intro gb139 hg w17 hbox hb; have BK139 := zA.mk (hbox); have GW139 := zA.mk ((by rw [hg]; exact (zH (aL HB)) : w.heap.size ≤ gb139)); replace HB := zA.mk (zD (aL HB) hb); have GE139 := GW139; clear hb hbox hg))
 replace BK139 := zA.mk (zF BK139.out); replace HB := zA.mk (below_drew1 HB.out); refine start_ (n := 9) (S := fun w' => w'.cell? ⟨gb139, 0, none⟩ = some (.slice A0_0 l0_0.length c0_0) ∧ w'.cell? ⟨gb139, 1, none⟩ = some (.slice A0_1 l0_1.length c0_1)) (ds := []) #[false, false, false, false, false, false, false, false, false] (by kernel_rfl) rfl rfl ⟨(zB BK139.out 0).trans rfl, (zB BK139.out 1).trans rfl⟩ (fun hHeld => ?_); refine with_tabW span_Cells.tab1 span_Cells.bits1 (fun HT_ HW_ => ?_)
 generalize w17.drew = w18 at BK139 HB hHeld ⊢
 refine aP 1 (some 14) (tb_ 2 9) HT_ ?_
 refine aP 3 (some 16) (tb_ 10 9) HT_ ?_
 refine aP 4 (some 17) (tb_ 26 9) HT_ ?_
 refine aP 6 (some 19) (tb_ 90 9) HT_ ?_
 refine take_ (i := 0) (N := some 13) (v := ?_) (a' := ?_) (tb_ 91 9) rfl rfl (take_ofW HT_.out HW_.out (by kernel_rfl)) (fun _ _ _ h => h) (Or.inl ⟨by rfl, ?_⟩) hHeld ?_ ?_
 rotate_left
 ·rintro w' ⟨s0, s1⟩
  go_simp
  with_reducible rfl
 rotate_left
 ·simp only [Act.put, sA_, sB_, sC_, i64_w, i32_w]
  rfl
 refine take_ (i := 2) (N := some 15) (v := ?_) (a' := ?_) (tb_ 95 9) rfl rfl (take_ofW HT_.out HW_.out (by kernel_rfl)) (fun _ _ _ h => h) (Or.inl ⟨by rfl, ?_⟩) hHeld ?_ ?_
 rotate_left
 ·rintro w' ⟨s0, s1⟩
  go_simp
  with_reducible rfl
 rotate_left
 ·simp only [Act.put, sA_, sB_, sC_, i64_w, i32_w]
  rfl
 refine one_ (i := 5) (N := some 18) (tb_ 127 9) rfl rfl (one_of HT_.out (by kernel_rfl)) (by decide) (fun K hK => ?_)
 refine goes_ Try.func39 (by kernel_rfl) rfl #[.agg #[.slice A0_0 l0_0.length c0_0, .slice A0_1 l0_1.length c0_1], .int .i64 a1, .int .i64 a2] (by rfl) rfl rfl aT ?_
 with_reducible refine (span_Trim.calls k _ _ l0_0 _ _ l0_1 a1 a2 t140 _ ?side1 ?side2 ?side3 ?side4 A6.out).mono ?_
 (case side1 => exact aA HR0_0 HB)
 (case side2 => exact HC0_0.out)
 (case side3 => exact aA HR0_1 HB)
 (case side4 => exact HC0_1.out)
 rintro e w19 ⟨rfl, hb⟩
 refine ⟨_, rfl, ?_⟩
 replace BK139 := zA.mk (zC (aB BK139) hb); replace HB := zA.mk (zD (aL HB) hb); (try clear hb)
 (try clear hb2)
 (try clear hk)
 (try clear hi)
 refine hK.out _ _ ⟨(zB BK139.out 0).trans rfl, (zB BK139.out 1).trans rfl⟩ (fun hHeld => ?_)
 clear hK K; refine norm_ (a' := ?_) ?_ ?_
 rotate_left
 ·show Act.put _ (some 18) _ = _
  simp only [Act.put, sA_, sB_, sC_, i64_w, i32_w]; rfl
 refine one_ (i := 7) (N := some 20) (tb_ 255 9) rfl rfl (one_of HT_.out (by kernel_rfl)) (by decide) (fun K hK => ?_)
 refine goes_ Try.func53 (by kernel_rfl) rfl #[.agg #[.slice A0_0 l0_0.length c0_0, .slice A0_1 l0_1.length c0_1], .int .i64 a1, .int .i64 t140, .int .i64 a4] (by rfl) rfl rfl aT ?_
 with_reducible refine (span_Columns.calls k _ _ l0_0 _ _ l0_1 a1 t140 a4 t141 _ ?side1 ?side2 ?side3 ?side4 A7.out).mono ?_
 (case side1 => exact aA HR0_0 HB)
 (case side2 => exact HC0_0.out)
 (case side3 => exact aA HR0_1 HB)
 (case side4 => exact HC0_1.out)
 rintro e w20 ⟨v142, rfl, ho0, hb⟩
 refine ⟨_, rfl, ?_⟩
 have HO143 := zA.mk (Kd.zU ho0 (zH (aL HB))); replace BK139 := zA.mk (zC (aB BK139) hb); replace HB := zA.mk (zD (aL HB) hb); (try clear hb)
 (try clear hb2)
 (try clear hk)
 (try clear hi)
 (try clear ho0)
 refine hK.out _ _ ⟨(zB BK139.out 0).trans rfl, (zB BK139.out 1).trans rfl⟩ (fun hHeld => ?_)
 clear hK K; refine norm_ (a' := ?_) ?_ ?_
 rotate_left
 ·show Act.put _ (some 20) _ = _
  simp only [Act.put, sA_, sB_, sC_, i64_w, i32_w]; rfl
 refine aP 8 (some 11) (tb_ 511 9) HT_ ?_
 refine done_ (done_of HT_.out (by kernel_rfl)) ?_
 obtain ⟨Ao21, co21, eo21⟩ := Kd.zT HO143.out; subst eo21; have p144 : 0 ≤ ((ji8) : Int) := aD
 have q144 : (ji8) < (t141.length : Int) := aD
 obtain ⟨ad144, e144, hx144_0⟩ := Kd.at_int (Kd.zQ HO143.out).2.2 (ji8) p144 q144; cases e144
 replace p144 := eq_true p144; replace q144 := eq_true q144; try go_wp2
 go_ret
 exact ⟨by first | rfl | (simp [errW_none, errW_some] <;> rfl) | (simp only [← hji8]; first | rfl | (simp [errW_none, errW_some] <;> rfl)) | (simp [*, errW_none, errW_some] <;> rfl), aL HB⟩
def span_Make.f (k : Nat) (l0_0 : List (S66)) (l0_1 : List Int) (a1 : Int) (a2 : Int) (a3 : Int) (a4 : Int) : Option (Int × Int × Int × Int) := (span_Cells.f k l0_0 l0_1 a1 a2 a3 a4).bind fun t147 => (some (a1, a2, t147, a3))
theorem span_Make.mono : ∀ a0 a1 a2 a3 a4 a5 k, LeO (span_Make.f k a0 a1 a2 a3 a4 a5) (span_Make.f (k + 1) a0 a1 a2 a3 a4 a5) := by
 intro a0 a1 a2 a3 a4 a5 k
 unfold span_Make.f
 repeat' (with_reducible first | exact span_Cells.mono _ _ _ _ _ _ _ | exact LeO.refl _ | exact LeO.none _ | refine LeO.ite ?_ ?_ | refine LeO.bind ?_ (fun _ => ?_))
set_option maxHeartbeats 8000000 in
set_option maxRecDepth 100000 in
theorem span_Make.calls (k : Nat) (A0_0 : Option Addr) (c0_0 : Nat) (l0_0 : List (S66)) (A0_1 : Option Addr) (c0_1 : Nat) (l0_1 : List Int) (a1 : Int) (a2 : Int) (a3 : Int) (a4 : Int) (r1 : Int) (r2 : Int) (r3 : Int) (r4 : Int) (w : World) (hr0_0 : Kd.C k66 w A0_0 l0_0.length l0_0) (hc0_0 : l0_0.length ≤ c0_0) (hr0_1 : Kd.C (Kd.int .u8) w A0_1 l0_1.length l0_1) (hc0_1 : l0_1.length ≤ c0_1) (h : span_Make.f k l0_0 l0_1 a1 a2 a3 a4 = some (r1, r2, r3, r4)) :
  Calls Try.prog 30 #[.agg #[.slice A0_0 l0_0.length c0_0, .slice A0_1 l0_1.length c0_1], .int .i64 a1, .int .i64 a2, .int .u8 a3, .int .i64 a4] w fun e w' => e = .returned (.agg #[.int .i64 r1, .int .i64 r2, .int .i64 r3, .int .u8 r4]) ∧ Below w.heap.size w w' := by
 have hu31 := Try.underlying31; have hu54 := Try.underlying54; have HR0_0 := zA.mk hr0_0; have HC0_0 := zA.mk hc0_0; clear hr0_0 hc0_0; have HR0_1 := zA.mk hr0_1; have HC0_1 := zA.mk hc0_1; clear hr0_1 hc0_1; have HB := zA.mk (Below.refl w.heap.size w); have H : ((span_Cells.f k l0_0 l0_1 a1 a2 a3 a4).bind fun t147 => (some (a1, a2, t147, a3))) = some (r1, r2, r3, r4) := h
 clear h; replace H := Option.bind_eq_some_iff.mp H; obtain ⟨t147, A60, H⟩ := H; replace H : (some (a1, a2, t147, a3)) = some (r1, r2, r3, r4) := H; have A6 := zA.mk A60; clear A60; simp only [Option.some.injEq, Prod.mk.injEq] at H; obtain ⟨rfl, rfl, rfl, rfl⟩ := H; go_enter Try.func30, Try.ntmps30
 go_wp2_with (first | ((with_reducible refine gate_dst (N := 5) rfl ?_); refine box_event ?hg (N := 5) ?hd (cs := #[.slice A0_0 l0_0.length c0_0, .slice A0_1 l0_1.length c0_1]) (t := 31) ?hr ?_; (case hd => rfl); (case hg => rfl); (case hr => first | (go_simp; done) | (go_simp; rfl)); intro gb145 hg w7 hbox hb; have BK145 := zA.mk (hbox); have GW145 := zA.mk ((by rw [hg]; exact (zH (aL HB)) : w.heap.size ≤ gb145)); replace HB := zA.mk (zD (aL HB) hb); have GE145 := GW145; clear hb hbox hg) | ((with_reducible refine gate_dst (N := 10) rfl ?_); refine box_event ?hg (N := 10) ?hd (cs := #[.int .i64 0, .int .i64 0, .int .i64 0, .int .u8 0]) (t := 54) ?hr ?_; (case hd => rfl); (case hg => rfl); (case hr => first | (go_simp; done) | (go_simp; rfl)); intro gb146 hg w8 hbox hb; have BK146 := zA.mk (hbox); have GW146 := zA.mk ((by rw [hg]; exact (zH (aL HB)) : w.heap.size ≤ gb146)); replace HB := zA.mk (zD (aL HB) hb); have GE146 := GW146; have NB145_146 := zA.mk ((by rw [hg]; exact Nat.ne_of_lt (blk_lt (aB BK145)) : gb145 ≠ gb146)); have NB146_145 := zA.mk ((by rw [hg]; exact Nat.ne_of_gt (blk_lt (g := gb145) (o := .cells #[.slice A0_0 l0_0.length c0_0, .slice A0_1 l0_1.length c0_1] 31 (0, 0)) (aB BK145)) : gb146 ≠ gb145)); replace BK145 := zA.mk (zC (aB BK145) hb); clear hb hbox hg; have hnb9 := NB145_146.out; have hnc9 := NB146_145.out; obtain ⟨hcz10_0, hcz10_1, hfz10_0, hfz10_1⟩ := aC2 BK145) | ((with_reducible refine gate_callee (f := 42) rfl ?_); refine goesL_ (some 18) rfl rfl Try.func42 (by kernel_rfl) rfl #[.agg #[.slice A0_0 l0_0.length c0_0, .slice A0_1 l0_1.length c0_1], .int .i64 a1, .int .i64 a2, .int .u8 a3, .int .i64 a4] rfl aT ?_; (with_reducible refine (span_Cells.calls k _ _ l0_0 _ _ l0_1 a1 a2 a3 a4 t147 _ ?side1 ?side2 ?side3 ?side4 A6.out).mono ?_); (case side1 => exact aA HR0_0 HB); (case side2 => exact HC0_0.out); (case side3 => exact aA HR0_1 HB); (case side4 => exact HC0_1.out); rintro e w11 ⟨rfl, hb⟩; refine ⟨_, rfl, ?_⟩; replace BK145 := zA.mk (zC (aB BK145) hb); replace BK146 := zA.mk (zC (aB BK146) hb); replace HB := zA.mk (zD (aL HB) hb); (try clear hb); (try clear hb2); (try clear hk); (try clear hi); obtain ⟨hcz12_0, hcz12_1, hcz12_2, hcz12_3, hfz12_0, hfz12_1, hfz12_2, hfz12_3⟩ := aC4 BK146) | ((with_reducible refine gate_store (t := 54) (p := 10) rfl ?_); refine store_event (t := 54) (p := 10) (v := ?vo_w13) (w1 := ((((w11.setCell ⟨gb146, 0, none⟩ (.int .i64 a1)).setCell ⟨gb146, 1, none⟩ (.int .i64 a2)).setCell ⟨gb146, 2, none⟩ (.int .i64 t147)).setCell ⟨gb146, 3, none⟩ (.int .u8 a3))) ?hg ?ho ?hn ?hr ?_; (case ho => rfl); (case hg => rfl); (case hn => rfl); (case hr => first | (go_simp; done) | (go_simp; rfl)); intro w13 hw; have n0_ : zA (w13.heap[gb145]? = some (.cells #[.slice A0_0 l0_0.length c0_0, .slice A0_1 l0_1.length c0_1] 31 (0, 0))) := ⟨(by rw [hw]; exact (aB BK145))⟩; have n1_ : zA (w13.heap[gb146]? = some (.cells #[.int .i64 a1, .int .i64 a2, .int .i64 t147, .int .u8 a3] 54 (0, 0))) := ⟨(by rw [hw]; exact (by (with_reducible repeat (first | refine zI ?_ _ | refine zF ?_ | refine zE ?_ _)); refine blk_put (cs := #[.int .i64 a1, .int .i64 a2, .int .i64 t147, .int .u8 0]) ?_ 3 _ rfl; (with_reducible repeat (first | refine zI ?_ _ | refine zF ?_ | refine zE ?_ _)); refine blk_put (cs := #[.int .i64 a1, .int .i64 a2, .int .i64 0, .int .u8 0]) ?_ 2 _ rfl; (with_reducible repeat (first | refine zI ?_ _ | refine zF ?_ | refine zE ?_ _)); refine blk_put (cs := #[.int .i64 a1, .int .i64 0, .int .i64 0, .int .u8 0]) ?_ 1 _ rfl; (with_reducible repeat (first | refine zI ?_ _ | refine zF ?_ | refine zE ?_ _)); refine blk_put (cs := #[.int .i64 0, .int .i64 0, .int .i64 0, .int .u8 0]) ?_ 0 _ rfl; (with_reducible repeat (first | refine zI ?_ _ | refine zF ?_ | refine zE ?_ _)); exact BK146.out))⟩; have n2_ : zA (Below w.heap.size w w13) := ⟨(by rw [hw]; exact (aL HB))⟩; clear hw; clear BK145; clear BK146; clear HB; have BK145 := n0_; have BK146 := n1_; have HB := n2_; clear n0_ n1_ n2_))
 refine bodyPost_ret (results_cell_row rfl _ _ gb146 54 #[.int .i64 a1, .int .i64 a2, .int .i64 t147, .int .u8 a3] (0, 0) _ rfl (aB BK146) Try.underlying54 rfl (by kernel_rfl)) rfl ?_
 exact ⟨aX, aL HB⟩
def span_Ends.f (l0_0 : List (S66)) (l0_1 : List Int) (a1 : Int) : Option (Int × Bool) := if 0 ≤ a1 then (if a1 < (l0_1.length : Int) then (some (rd l0_1 a1, ((rd l0_1 a1) != 0))) else (none)) else (none)
set_option maxHeartbeats 8000000 in
set_option maxRecDepth 100000 in
theorem span_Ends.calls (A0_0 : Option Addr) (c0_0 : Nat) (l0_0 : List (S66)) (A0_1 : Option Addr) (c0_1 : Nat) (l0_1 : List Int) (a1 : Int) (r1 : Int) (r2 : Bool) (w : World) (hr0_0 : Kd.C k66 w A0_0 l0_0.length l0_0) (hc0_0 : l0_0.length ≤ c0_0) (hr0_1 : Kd.C (Kd.int .u8) w A0_1 l0_1.length l0_1) (hc0_1 : l0_1.length ≤ c0_1) (h : span_Ends.f l0_0 l0_1 a1 = some (r1, r2)) :
  Calls Try.prog 40 #[.agg #[.slice A0_0 l0_0.length c0_0, .slice A0_1 l0_1.length c0_1], .int .i64 a1] w fun e w' => e = .returned (.tuple #[.int .u8 r1, .bool r2]) ∧ Below w.heap.size w w' := by
 have hu31 := Try.underlying31; have HR0_0 := zA.mk hr0_0; have HC0_0 := zA.mk hc0_0; clear hr0_0 hc0_0; have HR0_1 := zA.mk hr0_1; have HC0_1 := zA.mk hc0_1; clear hr0_1 hc0_1; have HB := zA.mk (Below.refl w.heap.size w); have H : (if 0 ≤ a1 then (if a1 < (l0_1.length : Int) then (some (rd l0_1 a1, ((rd l0_1 a1) != 0))) else (none)) else (none)) = some (r1, r2) := h
 clear h; by_cases c3 : 0 ≤ a1
 rotate_left
 ·rw [if_neg c3] at H
  exact absurd H (by simp)
 rw [if_pos c3] at H; have c3b0 : decide (0 ≤ a1) = true := decide_eq_true c3
 clear c3; by_cases c4 : a1 < (l0_1.length : Int)
 rotate_left
 ·rw [if_neg c4] at H
  exact absurd H (by simp)
 rw [if_pos c4] at H; have c4b0 : decide (a1 < (l0_1.length : Int)) = true := decide_eq_true c4
 clear c4; simp only [Option.some.injEq, Prod.mk.injEq] at H; obtain ⟨rfl, rfl⟩ := H; go_enter Try.func40, Try.ntmps40
 go_wp2_with (first | ((with_reducible refine gate_dst (N := 2) rfl ?_); refine box_event ?hg (N := 2) ?hd (cs := #[.slice A0_0 l0_0.length c0_0, .slice A0_1 l0_1.length c0_1]) (t := 31) ?hr ?_; (case hd => rfl); (case hg => rfl); (case hr => first | (go_simp; done) | (go_simp; rfl)); intro gb148 hg w5 hbox hb; have BK148 := zA.mk (hbox); have GW148 := zA.mk ((by rw [hg]; exact (zH (aL HB)) : w.heap.size ≤ gb148)); replace HB := zA.mk (zD (aL HB) hb); have GE148 := GW148; clear hb hbox hg; obtain ⟨hcz6_0, hcz6_1, hfz6_0, hfz6_1⟩ := aC2 BK148; have p149 : 0 ≤ (a1 : Int) := aD; have q149 : a1 < (l0_1.length : Int) := aD; obtain ⟨ad149, e149, hx149_0⟩ := Kd.at_int HR0_1.out a1 p149 q149; cases e149; replace hx149_0 := (HB.out.cell (World.block_lt_of_cell? w _ hx149_0)).trans hx149_0; replace p149 := eq_true p149; replace q149 := eq_true q149; have p150 : 0 ≤ (a1 : Int) := aD; have q150 : a1 < (l0_1.length : Int) := aD; obtain ⟨ad150, e150, hx150_0⟩ := Kd.at_int HR0_1.out a1 p150 q150; obtain rfl : ad149 = ad150 := (by injection e150); replace hx150_0 := (HB.out.cell (World.block_lt_of_cell? w _ hx150_0)).trans hx150_0; replace p150 := eq_true p150; replace q150 := eq_true q150))
 repeat (go_quiet (first | ((with_reducible refine gate_dst (N := 2) rfl ?_); refine box_event ?hg (N := 2) ?hd (cs := #[.slice A0_0 l0_0.length c0_0, .slice A0_1 l0_1.length c0_1]) (t := 31) ?hr ?_; (case hd => rfl); (case hg => rfl); (case hr => first | (go_simp; done) | (go_simp; rfl)); intro gb148 hg w5 hbox hb; have BK148 := zA.mk (hbox); have GW148 := zA.mk ((by rw [hg]; exact (zH (aL HB)) : w.heap.size ≤ gb148)); replace HB := zA.mk (zD (aL HB) hb); have GE148 := GW148; clear hb hbox hg; obtain ⟨hcz6_0, hcz6_1, hfz6_0, hfz6_1⟩ := aC2 BK148; have p149 : 0 ≤ (a1 : Int) := aD; have q149 : a1 < (l0_1.length : Int) := aD; obtain ⟨ad149, e149, hx149_0⟩ := Kd.at_int HR0_1.out a1 p149 q149; cases e149; replace hx149_0 := (HB.out.cell (World.block_lt_of_cell? w _ hx149_0)).trans hx149_0; replace p149 := eq_true p149; replace q149 := eq_true q149; have p150 : 0 ≤ (a1 : Int) := aD; have q150 : a1 < (l0_1.length : Int) := aD; obtain ⟨ad150, e150, hx150_0⟩ := Kd.at_int HR0_1.out a1 p150 q150; obtain rfl : ad149 = ad150 := (by injection e150); replace hx150_0 := (HB.out.cell (World.block_lt_of_cell? w _ hx150_0)).trans hx150_0; replace p150 := eq_true p150; replace q150 := eq_true q150)); try go_wp2_with (first | ((with_reducible refine gate_dst (N := 2) rfl ?_); refine box_event ?hg (N := 2) ?hd (cs := #[.slice A0_0 l0_0.length c0_0, .slice A0_1 l0_1.length c0_1]) (t := 31) ?hr ?_; (case hd => rfl); (case hg => rfl); (case hr => first | (go_simp; done) | (go_simp; rfl)); intro gb148 hg w5 hbox hb; have BK148 := zA.mk (hbox); have GW148 := zA.mk ((by rw [hg]; exact (zH (aL HB)) : w.heap.size ≤ gb148)); replace HB := zA.mk (zD (aL HB) hb); have GE148 := GW148; clear hb hbox hg; obtain ⟨hcz6_0, hcz6_1, hfz6_0, hfz6_1⟩ := aC2 BK148; have p149 : 0 ≤ (a1 : Int) := aD; have q149 : a1 < (l0_1.length : Int) := aD; obtain ⟨ad149, e149, hx149_0⟩ := Kd.at_int HR0_1.out a1 p149 q149; cases e149; replace hx149_0 := (HB.out.cell (World.block_lt_of_cell? w _ hx149_0)).trans hx149_0; replace p149 := eq_true p149; replace q149 := eq_true q149; have p150 : 0 ≤ (a1 : Int) := aD; have q150 : a1 < (l0_1.length : Int) := aD; obtain ⟨ad150, e150, hx150_0⟩ := Kd.at_int HR0_1.out a1 p150 q150; obtain rfl : ad149 = ad150 := (by injection e150); replace hx150_0 := (HB.out.cell (World.block_lt_of_cell? w _ hx150_0)).trans hx150_0; replace p150 := eq_true p150; replace q150 := eq_true q150)))
 go_ret2
 exact ⟨aX, aL HB⟩
mutual
def first_one.j2 : Nat → Int → Int → Int → Int → List (S66) → List Int → Int → Int → Int → Int → Int → Nat → Option (Int × Int × Int × Int)
 | 0, _, _, _, _, _, _, _, _, _, _, _, _ => none
 | k + 1, x1, x2, x9, x10, x152000, x152001, x153000, x153001, x153002, x153003, x153004, x153005 => if x9 ≥ 0 then (if 0 ≤ x9 then (if x9 < (x152001.length : Int) then ((span_Make.f k x152000 x152001 x1 x9 (rd x152001 x9) x153001).bind fun bt161 => (some (bt161.1, bt161.2.1, bt161.2.2.1, bt161.2.2.2))) else (none)) else (none)) else (if x10 = x2 then (if 0 ≤ x2 then (if x2 < (x152001.length : Int) then (if x10 < x2 then (if 0 ≤ x10 then (if x10 < (x152001.length : Int) then (if (rd x152001 x10) = 1 then ((span_Make.f k x152000 x152001 x1 x10 1 x153001).bind fun bt167 => (some (bt167.1, bt167.2.1, bt167.2.2.1, bt167.2.2.2))) else ((span_Make.f k x152000 x152001 x1 x10 (rd x152001 x2) x153001).bind fun bt171 => (some (bt171.1, bt171.2.1, bt171.2.2.1, bt171.2.2.2)))) else (none)) else (none)) else ((span_Make.f k x152000 x152001 x1 x10 (rd x152001 x2) x153001).bind fun bt175 => (some (bt175.1, bt175.2.1, bt175.2.2.1, bt175.2.2.2)))) else (none)) else (none)) else (if x10 < x2 then (if 0 ≤ x10 then (if x10 < (x152001.length : Int) then (if (rd x152001 x10) = 1 then ((span_Make.f k x152000 x152001 x1 x10 1 x153001).bind fun bt180 => (some (bt180.1, bt180.2.1, bt180.2.2.1, bt180.2.2.2))) else ((span_Make.f k x152000 x152001 x1 x10 4 x153001).bind fun bt184 => (some (bt184.1, bt184.2.1, bt184.2.2.1, bt184.2.2.2)))) else (none)) else (none)) else ((span_Make.f k x152000 x152001 x1 x10 4 x153001).bind fun bt188 => (some (bt188.1, bt188.2.1, bt188.2.2.1, bt188.2.2.2)))))
def first_one.l0 : Nat → Int → Int → Int → Int → Int → Int → Int → List (S66) → List Int → Int → Int → Int → Int → Int → Nat → Option (Int × Int × Int × Int)
 | 0, _, _, _, _, _, _, _, _, _, _, _, _, _, _, _ => none
 | k + 1, x1, x2, x9, x10, x11, x12, x13, x152000, x152001, x153000, x153001, x153002, x153003, x153004, x153005 => if x13 ≤ x2 then (if 0 ≤ (wrap64 (x13 - 1)) then (if (wrap64 (x13 - 1)) < (x152000.length : Int) then ((span_Next.f ((rd_T66 x152000 (wrap64 (x13 - 1))).f0) ((rd_T66 x152000 (wrap64 (x13 - 1))).f1) ((rd_T66 x152000 (wrap64 (x13 - 1))).f2) ((rd_T66 x152000 (wrap64 (x13 - 1))).f3) x11 x153001).bind fun t156 => ((span_Trim.f k x152000 x152001 (wrap64 (x13 - 1)) x13).bind fun t157 => (if t157 = x13 then (first_one.j1 k x1 x2 x9 x10 t156 t156 x13 x152000 x152001 x153000 x153001 x153002 x153003 x153004 x153005) else (first_one.j1 k x1 x2 x9 x10 t156 x12 x13 x152000 x152001 x153000 x153001 x153002 x153003 x153004 x153005)))) else (none)) else (none)) else (first_one.j2 k x1 x2 x9 x10 x152000 x152001 x153000 x153001 x153002 x153003 x153004 x153005)
def first_one.j1 : Nat → Int → Int → Int → Int → Int → Int → Int → List (S66) → List Int → Int → Int → Int → Int → Int → Nat → Option (Int × Int × Int × Int)
 | 0, _, _, _, _, _, _, _, _, _, _, _, _, _, _, _ => none
 | k + 1, x1, x2, x9, x10, x11, x12, x13, x152000, x152001, x153000, x153001, x153002, x153003, x153004, x153005 => if x12 > x153000 then (first_one.j2 k x1 x2 x9 x10 x152000 x152001 x153000 x153001 x153002 x153003 x153004 x153005) else ((span_Ends.f x152000 x152001 x13).bind fun bt158 => (if bt158.2 = true then (if bt158.1 = 3 then (if x12 < x153000 then (first_one.l0 k x1 x2 x13 x13 x11 x12 (wrap64 (x13 + 1)) x152000 x152001 x153000 x153001 x153002 x153003 x153004 x153005) else (first_one.l0 k x1 x2 x9 x13 x11 x12 (wrap64 (x13 + 1)) x152000 x152001 x153000 x153001 x153002 x153003 x153004 x153005)) else (first_one.l0 k x1 x2 x13 x13 x11 x12 (wrap64 (x13 + 1)) x152000 x152001 x153000 x153001 x153002 x153003 x153004 x153005)) else (first_one.l0 k x1 x2 x9 x13 x11 x12 (wrap64 (x13 + 1)) x152000 x152001 x153000 x153001 x153002 x153003 x153004 x153005)))
end
def first_one.f (k : Nat) (l0_0 : List (S66)) (l0_1 : List Int) (a1 : Int) (a2 : Int) (a3_0 : Int) (a3_1 : Int) (a3_2 : Int) (a3_3 : Int) (a3_4 : Int) (a3_5 : Nat) : Option (Int × Int × Int × Int) := first_one.l0 k a1 a2 (-1) (wrap64 (a1 + 1)) 0 0 (wrap64 (a1 + 1)) l0_0 l0_1 a3_0 a3_1 a3_2 a3_3 a3_4 a3_5
theorem first_one.mono_l : ∀ k, (∀ y0 y1 y2 y3 y4 y5 y6 y7 y8 y9 y10 y11, LeO (first_one.j2 k y0 y1 y2 y3 y4 y5 y6 y7 y8 y9 y10 y11) (first_one.j2 (k + 1) y0 y1 y2 y3 y4 y5 y6 y7 y8 y9 y10 y11)) ∧ (∀ y0 y1 y2 y3 y4 y5 y6 y7 y8 y9 y10 y11 y12 y13 y14, LeO (first_one.l0 k y0 y1 y2 y3 y4 y5 y6 y7 y8 y9 y10 y11 y12 y13 y14) (first_one.l0 (k + 1) y0 y1 y2 y3 y4 y5 y6 y7 y8 y9 y10 y11 y12 y13 y14)) ∧ (∀ y0 y1 y2 y3 y4 y5 y6 y7 y8 y9 y10 y11 y12 y13 y14, LeO (first_one.j1 k y0 y1 y2 y3 y4 y5 y6 y7 y8 y9 y10 y11 y12 y13 y14) (first_one.j1 (k + 1) y0 y1 y2 y3 y4 y5 y6 y7 y8 y9 y10 y11 y12 y13 y14))
 | 0 => ⟨fun _ _ _ _ _ _ _ _ _ _ _ _ r h => by simp [first_one.j2] at h, fun _ _ _ _ _ _ _ _ _ _ _ _ _ _ _ r h => by simp [first_one.l0] at h, fun _ _ _ _ _ _ _ _ _ _ _ _ _ _ _ r h => by simp [first_one.j1] at h⟩
 | k + 1 => by
  obtain ⟨ih0, ih1, ih2⟩ := first_one.mono_l k; refine ⟨?_, ?_, ?_⟩
  ·intro y0 y1 y2 y3 y4 y5 y6 y7 y8 y9 y10 y11
   unfold first_one.j2
   repeat' (with_reducible first | exact ih0 _ _ _ _ _ _ _ _ _ _ _ _ | exact ih1 _ _ _ _ _ _ _ _ _ _ _ _ _ _ _ | exact ih2 _ _ _ _ _ _ _ _ _ _ _ _ _ _ _ | exact span_Make.mono _ _ _ _ _ _ _ | exact span_Trim.mono _ _ _ _ _ | exact LeO.refl _ | exact LeO.none _ | refine LeO.ite ?_ ?_ | refine LeO.bind ?_ (fun _ => ?_))
  ·intro y0 y1 y2 y3 y4 y5 y6 y7 y8 y9 y10 y11 y12 y13 y14
   unfold first_one.l0
   repeat' (with_reducible first | exact ih0 _ _ _ _ _ _ _ _ _ _ _ _ | exact ih1 _ _ _ _ _ _ _ _ _ _ _ _ _ _ _ | exact ih2 _ _ _ _ _ _ _ _ _ _ _ _ _ _ _ | exact span_Make.mono _ _ _ _ _ _ _ | exact span_Trim.mono _ _ _ _ _ | exact LeO.refl _ | exact LeO.none _ | refine LeO.ite ?_ ?_ | refine LeO.bind ?_ (fun _ => ?_))
  ·intro y0 y1 y2 y3 y4 y5 y6 y7 y8 y9 y10 y11 y12 y13 y14
   unfold first_one.j1
   repeat' (with_reducible first | exact ih0 _ _ _ _ _ _ _ _ _ _ _ _ | exact ih1 _ _ _ _ _ _ _ _ _ _ _ _ _ _ _ | exact ih2 _ _ _ _ _ _ _ _ _ _ _ _ _ _ _ | exact span_Make.mono _ _ _ _ _ _ _ | exact span_Trim.mono _ _ _ _ _ | exact LeO.refl _ | exact LeO.none _ | refine LeO.ite ?_ ?_ | refine LeO.bind ?_ (fun _ => ?_))
theorem first_one.mono : ∀ a0 a1 a2 a3 a4 a5 a6 a7 a8 a9 k, LeO (first_one.f k a0 a1 a2 a3 a4 a5 a6 a7 a8 a9) (first_one.f (k + 1) a0 a1 a2 a3 a4 a5 a6 a7 a8 a9) := by
 intro a0 a1 a2 a3 a4 a5 a6 a7 a8 a9 k
 obtain ⟨ih0, ih1, ih2⟩ := first_one.mono_l k; unfold first_one.f
 repeat' (with_reducible first | exact ih0 _ _ _ _ _ _ _ _ _ _ _ _ | exact ih1 _ _ _ _ _ _ _ _ _ _ _ _ _ _ _ | exact ih2 _ _ _ _ _ _ _ _ _ _ _ _ _ _ _ | exact span_Make.mono _ _ _ _ _ _ _ | exact span_Trim.mono _ _ _ _ _ | exact LeO.refl _ | exact LeO.none _ | refine LeO.ite ?_ ?_ | refine LeO.bind ?_ (fun _ => ?_))
def first_one.T16 : Bool × List (List Nat × List Nat) := (true, [([], []), ([], []), ([], []), ([], []), ([3], [3]), ([], []), ([4, 5], [4, 5]), ([6], [6]), ([], []), ([8], [8]), ([0, 1, 2, 7, 9], [0, 1, 2, 7, 9]), ([10, 10, 0, 1, 2, 3, 4, 5, 6, 7, 8, 9, 10], [10])])
def first_one.B16 : List Nat := [0, 0, 0, 0, 8, 0, 56, 120, 0, 256, 1023, 2047]
theorem first_one.tab16 : rtab .any (opsOf Try.f28 16) = first_one.T16 := by kernel_rfl
theorem first_one.bits16 : waitsOk first_one.T16.2 first_one.B16 = true := by kernel_rfl
set_option maxHeartbeats 8000000 in
set_option maxRecDepth 100000 in
theorem first_one.calls (k : Nat) (A0_0 : Option Addr) (c0_0 : Nat) (l0_0 : List (S66)) (A0_1 : Option Addr) (c0_1 : Nat) (l0_1 : List Int) (a1 : Int) (a2 : Int) (a3_0 : Int) (a3_1 : Int) (a3_2 : Int) (a3_3 : Int) (a3_4 : Int) (a3_5 : Nat) (r1 : Int) (r2 : Int) (r3 : Int) (r4 : Int) (w : World) (hr0_0 : Kd.C k66 w A0_0 l0_0.length l0_0) (hc0_0 : l0_0.length ≤ c0_0) (hr0_1 : Kd.C (Kd.int .u8) w A0_1 l0_1.length l0_1) (hc0_1 : l0_1.length ≤ c0_1) (h : first_one.f k l0_0 l0_1 a1 a2 a3_0 a3_1 a3_2 a3_3 a3_4 a3_5 = some (r1, r2, r3, r4)) :
  Calls Try.prog 28 #[.agg #[.slice A0_0 l0_0.length c0_0, .slice A0_1 l0_1.length c0_1], .int .i64 a1, .int .i64 a2, .agg #[.int .i64 a3_0, .int .i64 a3_1, .int .u8 a3_2, .int .i64 a3_3, .int .i64 a3_4, .float .f64 a3_5]] w fun e w' => e = .returned (.agg #[.int .i64 r1, .int .i64 r2, .int .i64 r3, .int .u8 r4]) ∧ Below w.heap.size w w' := by
 have hu31 := Try.underlying31; have hu35 := Try.underlying35; have hu54 := Try.underlying54; have hu66 := Try.underlying66; have HR0_0 := zA.mk hr0_0; have HC0_0 := zA.mk hc0_0; clear hr0_0 hc0_0; have HR0_1 := zA.mk hr0_1; have HC0_1 := zA.mk hc0_1; clear hr0_1 hc0_1; have HB := zA.mk (Below.refl w.heap.size w); have H : (first_one.l0 k a1 a2 (-1) (wrap64 (a1 + 1)) 0 0 (wrap64 (a1 + 1)) l0_0 l0_1 a3_0 a3_1 a3_2 a3_3 a3_4 a3_5) = some (r1, r2, r3, r4) := h
 clear h; have HC5 := zA.mk H; clear H; go_enter Try.func28, Try.ntmps28
 go_upto_block 0 with (first | ((with_reducible refine gate_dst (N := 4) rfl ?_); refine box_event ?hg (N := 4) ?hd (cs := #[.slice A0_0 l0_0.length c0_0, .slice A0_1 l0_1.length c0_1]) (t := 31) ?hr ?_; (case hd => rfl); (case hg => rfl); (case hr => first | (go_simp; done) | (go_simp; rfl)); intro gb151 hg w6 hbox hb; have BK151 := zA.mk (hbox); have GW151 := zA.mk ((by rw [hg]; exact (zH (aL HB)) : w.heap.size ≤ gb151)); replace HB := zA.mk (zD (aL HB) hb); have GE151 := GW151; clear hb hbox hg) | ((with_reducible refine gate_dst (N := 7) rfl ?_); refine box_event ?hg (N := 7) ?hd (cs := #[.int .i64 a3_0, .int .i64 a3_1, .int .u8 a3_2, .int .i64 a3_3, .int .i64 a3_4, .float .f64 a3_5]) (t := 35) ?hr ?_; (case hd => rfl); (case hg => rfl); (case hr => first | (go_simp; done) | (go_simp; rfl)); intro gb152 hg w7 hbox hb; have BK152 := zA.mk (hbox); have GW152 := zA.mk ((by rw [hg]; exact (zH (aL HB)) : w.heap.size ≤ gb152)); replace HB := zA.mk (zD (aL HB) hb); have GE152 := GW152; have NB151_152 := zA.mk ((by rw [hg]; exact Nat.ne_of_lt (blk_lt (aB BK151)) : gb151 ≠ gb152)); have NB152_151 := zA.mk ((by rw [hg]; exact Nat.ne_of_gt (blk_lt (g := gb151) (o := .cells #[.slice A0_0 l0_0.length c0_0, .slice A0_1 l0_1.length c0_1] 31 (0, 0)) (aB BK151)) : gb152 ≠ gb151)); replace BK151 := zA.mk (zC (aB BK151) hb); clear hb hbox hg) | ((with_reducible refine gate_dst (N := 8) rfl ?_); refine box_event ?hg (N := 8) ?hd (cs := #[.int .i64 0, .int .i64 0, .int .i64 0, .int .u8 0]) (t := 54) ?hr ?_; (case hd => rfl); (case hg => rfl); (case hr => first | (go_simp; done) | (go_simp; rfl)); intro gb153 hg w8 hbox hb; have BK153 := zA.mk (hbox); have GW153 := zA.mk ((by rw [hg]; exact (zH (aL HB)) : w.heap.size ≤ gb153)); replace HB := zA.mk (zD (aL HB) hb); have GE153 := GW153; have NB151_153 := zA.mk ((by rw [hg]; exact Nat.ne_of_lt (blk_lt (aB BK151)) : gb151 ≠ gb153)); have NB153_151 := zA.mk ((by rw [hg]; exact Nat.ne_of_gt (blk_lt (g := gb151) (o := .cells #[.slice A0_0 l0_0.length c0_0, .slice A0_1 l0_1.length c0_1] 31 (0, 0)) (aB BK151)) : gb153 ≠ gb151)); replace BK151 := zA.mk (zC (aB BK151) hb); have NB152_153 := zA.mk ((by rw [hg]; exact Nat.ne_of_lt (blk_lt (aB BK152)) : gb152 ≠ gb153)); have NB153_152 := zA.mk ((by rw [hg]; exact Nat.ne_of_gt (blk_lt (g := gb152) (o := .cells #[.int .i64 a3_0, .int .i64 a3_1, .int .u8 a3_2, .int .i64 a3_3, .int .i64 a3_4, .float .f64 a3_5] 35 (0, 0)) (aB BK152)) : gb153 ≠ gb152)); replace BK152 := zA.mk (zC (aB BK152) hb); clear hb hbox hg))
 (try simp only [Act.put, sA_, sB_, sC_])
 go_cut [9, 10] (fun v9 v10 wc => ∃ (kq : Nat) (x9_4 : Int) (x10_4 : Int), v9 = .int .i64 x9_4 ∧ v10 = .int .i64 x10_4 ∧ zA (first_one.j2 kq a1 a2 x9_4 x10_4 l0_0 l0_1 a3_0 a3_1 a3_2 a3_3 a3_4 a3_5 = some (r1, r2, r3, r4)) ∧ zA (kq ≤ k) ∧ zA (wc.heap[gb151]? = some (.cells #[(.slice A0_0 l0_0.length c0_0), (.slice A0_1 l0_1.length c0_1)] 31 (0, 0))) ∧ zA (wc.heap[gb152]? = some (.cells #[.int .i64 a3_0, .int .i64 a3_1, .int .u8 a3_2, .int .i64 a3_3, .int .i64 a3_4, .float .f64 a3_5] 35 (0, 0))) ∧ zA (wc.heap[gb153]? = some (.cells #[.int .i64 0, .int .i64 0, .int .i64 0, .int .u8 0] 54 (0, 0))) ∧ zA (Below w.heap.size w wc))
 case first =>
  have H := HC5.out; clear HC5; have H' := zA.mk H
  clear H; go_wp2
  go_loopg [9, 10, 11, 12, 13] k (fun kq v9 v10 v11 v12 v13 w' => ∃ (x9_1 : Int) (x10_1 : Int) (x11_1 : Int) (x12_1 : Int) (x13_1 : Int), v9 = .int .i64 x9_1 ∧ v10 = .int .i64 x10_1 ∧ v11 = .int .i64 x11_1 ∧ v12 = .int .i64 x12_1 ∧ v13 = .int .i64 x13_1 ∧ zA (first_one.l0 kq a1 a2 x9_1 x10_1 x11_1 x12_1 x13_1 l0_0 l0_1 a3_0 a3_1 a3_2 a3_3 a3_4 a3_5 = some (r1, r2, r3, r4)) ∧ zA (kq ≤ k) ∧ zA (w'.heap[gb151]? = some (.cells #[(.slice A0_0 l0_0.length c0_0), (.slice A0_1 l0_1.length c0_1)] 31 (0, 0))) ∧ zA (w'.heap[gb152]? = some (.cells #[.int .i64 a3_0, .int .i64 a3_1, .int .u8 a3_2, .int .i64 a3_3, .int .i64 a3_4, .float .f64 a3_5] 35 (0, 0))) ∧ zA (w'.heap[gb153]? = some (.cells #[.int .i64 0, .int .i64 0, .int .i64 0, .int .u8 0] 54 (0, 0))) ∧ zA (Below w.heap.size w w'))
  case atStart => exact ⟨((-1)), (wrap64 (a1 + 1)), (0), (0), (wrap64 (a1 + 1)), aZ, aZ, aZ, aZ, aZ, H', ⟨Nat.le_refl _⟩, ⟨aB BK151⟩, ⟨aB BK152⟩, ⟨aB BK153⟩, ⟨aL HB⟩⟩
  clear H'; obtain ⟨x9_1, x10_1, x11_1, x12_1, x13_1, rfl, rfl, rfl, rfl, rfl, HA, HK1, BK151, BK152, BK153, HB⟩ := hrel; cases gk with
  | zero => exact absurd HA.out (by simp [first_one.l0])
  | succ k1 =>
   have H := HA.out; clear HA; simp only [first_one.l0] at H; by_cases c9 : x13_1 ≤ a2
   rotate_left
   ·rw [if_neg c9] at H
    have c9b0 : decide (x13_1 ≤ a2) = false := decide_eq_false c9
    clear c9; (first | rw [c9b0] | (simp only [i64_w, i32_w]; rw [c9b0]) | skip)
    have H' := zA.mk H
    clear H; go_wp2
    go_meet
    case rel => exact ⟨_, (x9_1), (x10_1), aZ, aZ, H', ⟨by have := HK1.out; first | omega | exact Nat.le_refl _⟩, ⟨aB BK151⟩, ⟨aB BK152⟩, ⟨aB BK153⟩, ⟨aL HB⟩⟩
   rw [if_pos c9] at H; have c9b0 : decide (x13_1 ≤ a2) = true := decide_eq_true c9
   clear c9; (first | rw [c9b0] | (simp only [i64_w, i32_w]; rw [c9b0]) | skip)
   obtain ⟨ji10, hji10⟩ : ∃ j_ : Int, (wrap64 (x13_1 - 1)) = j_ := ⟨_, rfl⟩; replace H : (if 0 ≤ (ji10) then (if (ji10) < (l0_0.length : Int) then ((span_Next.f ((rd_T66 l0_0 (ji10)).f0) ((rd_T66 l0_0 (ji10)).f1) ((rd_T66 l0_0 (ji10)).f2) ((rd_T66 l0_0 (ji10)).f3) x11_1 a3_1).bind fun t156 => ((span_Trim.f k1 l0_0 l0_1 (ji10) x13_1).bind fun t157 => (if t157 = x13_1 then (first_one.j1 k1 a1 a2 x9_1 x10_1 t156 t156 x13_1 l0_0 l0_1 a3_0 a3_1 a3_2 a3_3 a3_4 a3_5) else (first_one.j1 k1 a1 a2 x9_1 x10_1 t156 x12_1 x13_1 l0_0 l0_1 a3_0 a3_1 a3_2 a3_3 a3_4 a3_5)))) else (none)) else (none)) = some (r1, r2, r3, r4) := by first | (rw [hji10] at H; exact H) | (simp only [hji10] at H ⊢; exact H)
   have hji10w : (IntKind.i64.wrap (x13_1 - 1)) = ji10 := (i64_w _).trans hji10
   by_cases c11 : 0 ≤ (ji10)
   rotate_left
   ·rw [if_neg c11] at H
    exact absurd H (by simp)
   rw [if_pos c11] at H; have c11b0 : decide (0 ≤ (ji10)) = true := decide_eq_true c11
   clear c11; by_cases c12 : (ji10) < (l0_0.length : Int)
   rotate_left
   ·rw [if_neg c12] at H
    exact absurd H (by simp)
   rw [if_pos c12] at H; have c12b0 : decide ((ji10) < (l0_0.length : Int)) = true := decide_eq_true c12
   clear c12; replace H := Option.bind_eq_some_iff.mp H; obtain ⟨t156, A130, H⟩ := H; replace H : ((span_Trim.f k1 l0_0 l0_1 (ji10) x13_1).bind fun t157 => (if t157 = x13_1 then (first_one.j1 k1 a1 a2 x9_1 x10_1 t156 t156 x13_1 l0_0 l0_1 a3_0 a3_1 a3_2 a3_3 a3_4 a3_5) else (first_one.j1 k1 a1 a2 x9_1 x10_1 t156 x12_1 x13_1 l0_0 l0_1 a3_0 a3_1 a3_2 a3_3 a3_4 a3_5))) = some (r1, r2, r3, r4) := H
   have A13 := zA.mk A130; clear A130; replace H := Option.bind_eq_some_iff.mp H; obtain ⟨t157, A140, H⟩ := H; replace H : (if t157 = x13_1 then (first_one.j1 k1 a1 a2 x9_1 x10_1 t156 t156 x13_1 l0_0 l0_1 a3_0 a3_1 a3_2 a3_3 a3_4 a3_5) else (first_one.j1 k1 a1 a2 x9_1 x10_1 t156 x12_1 x13_1 l0_0 l0_1 a3_0 a3_1 a3_2 a3_3 a3_4 a3_5)) = some (r1, r2, r3, r4) := H; have A14 := zA.mk A140; clear A140; have HC15 := zA.mk H; clear H; have hnb16 := NB151_152.out; have hnc16 := NB152_151.out; have hnb17 := NB151_153.out; have hnc17 := NB153_151.out; obtain ⟨hcz18_0, hcz18_1, hfz18_0, hfz18_1⟩ := aC2 BK151; have p154 : 0 ≤ ((ji10) : Int) := aD
   have q154 : (ji10) < (l0_0.length : Int) := aD
   obtain ⟨ad154, e154, hx154_0, hx154_1, hx154_2, hx154_3⟩ := at_T66 HR0_0.out (ji10) p154 q154; cases e154
   replace hx154_0 := (HB.out.cell (World.block_lt_of_cell? w _ hx154_0)).trans hx154_0; replace hx154_1 := (HB.out.cell (World.block_lt_of_cell? w _ hx154_1)).trans hx154_1; replace hx154_2 := (HB.out.cell (World.block_lt_of_cell? w _ hx154_2)).trans hx154_2; replace hx154_3 := (HB.out.cell (World.block_lt_of_cell? w _ hx154_3)).trans hx154_3; replace p154 := eq_true p154; replace q154 := eq_true q154; go_upto_if 44 with (first | ((with_reducible refine gate_dst (N := 14) rfl ?_); refine box_event ?hg (N := 14) ?hd (cs := #[.int .i64 0, .int .i64 0, .int .i64 0, .int .u8 0]) (t := 66) ?hr ?_; (case hd => rfl); (case hg => rfl); (case hr => first | (go_simp; done) | (go_simp; rfl)); intro gb155 hg w19 hbox hb; have BK155 := zA.mk (hbox); have GW155 := zA.mk ((by rw [hg]; exact (zH (aL HB)) : w.heap.size ≤ gb155)); replace HB := zA.mk (zD (aL HB) hb); have GE155 := GW155; have NB151_155 := zA.mk ((by rw [hg]; exact Nat.ne_of_lt (blk_lt (aB BK151)) : gb151 ≠ gb155)); have NB155_151 := zA.mk ((by rw [hg]; exact Nat.ne_of_gt (blk_lt (g := gb151) (o := .cells #[.slice (some ad154) l0_0.length c0_0, .slice A0_1 l0_1.length c0_1] 31 (0, 0)) (aB BK151)) : gb155 ≠ gb151)); replace BK151 := zA.mk (zC (aB BK151) hb); have NB152_155 := zA.mk ((by rw [hg]; exact Nat.ne_of_lt (blk_lt (aB BK152)) : gb152 ≠ gb155)); have NB155_152 := zA.mk ((by rw [hg]; exact Nat.ne_of_gt (blk_lt (g := gb152) (o := .cells #[.int .i64 a3_0, .int .i64 a3_1, .int .u8 a3_2, .int .i64 a3_3, .int .i64 a3_4, .float .f64 a3_5] 35 (0, 0)) (aB BK152)) : gb155 ≠ gb152)); replace BK152 := zA.mk (zC (aB BK152) hb); have NB153_155 := zA.mk ((by rw [hg]; exact Nat.ne_of_lt (blk_lt (aB BK153)) : gb153 ≠ gb155)); have NB155_153 := zA.mk ((by rw [hg]; exact Nat.ne_of_gt (blk_lt (g := gb153) (o := .cells #[.int .i64 0, .int .i64 0, .int .i64 0, .int .u8 0] 54 (0, 0)) (aB BK153)) : gb155 ≠ gb153)); replace BK153 := zA.mk (zC (aB BK153) hb); clear hb hbox hg; have hnb20 := NB155_151.out; have hnc20 := NB151_155.out; have hnb21 := NB155_152.out; have hnc21 := NB152_155.out; have hnb22 := NB155_153.out; have hnc22 := NB153_155.out; obtain ⟨hcz23_0, hcz23_1, hcz23_2, hcz23_3, hfz23_0, hfz23_1, hfz23_2, hfz23_3⟩ := aC4 BK155) | ((with_reducible refine gate_store (t := 66) (p := 14) rfl ?_); refine store_event (t := 66) (p := 14) (v := ?vo_w24) (w1 := ((((w19.setCell ⟨gb155, 0, none⟩ (.int .i64 ((rd_T66 l0_0 (ji10)).f0))).setCell ⟨gb155, 1, none⟩ (.int .i64 ((rd_T66 l0_0 (ji10)).f1))).setCell ⟨gb155, 2, none⟩ (.int .i64 ((rd_T66 l0_0 (ji10)).f2))).setCell ⟨gb155, 3, none⟩ (.int .u8 ((rd_T66 l0_0 (ji10)).f3)))) ?hg ?ho ?hn ?hr ?_; (case ho => rfl); (case hg => rfl); (case hn => rfl); (case hr => first | (go_simp; done) | (go_simp; rfl)); intro w24 hw; have n0_ : zA (w24.heap[gb151]? = some (.cells #[.slice (some ad154) l0_0.length c0_0, .slice A0_1 l0_1.length c0_1] 31 (0, 0))) := ⟨(by rw [hw]; exact (aB BK151))⟩; have n1_ : zA (w24.heap[gb152]? = some (.cells #[.int .i64 a3_0, .int .i64 a3_1, .int .u8 a3_2, .int .i64 a3_3, .int .i64 a3_4, .float .f64 a3_5] 35 (0, 0))) := ⟨(by rw [hw]; exact (aB BK152))⟩; have n2_ : zA (w24.heap[gb153]? = some (.cells #[.int .i64 0, .int .i64 0, .int .i64 0, .int .u8 0] 54 (0, 0))) := ⟨(by rw [hw]; exact (aB BK153))⟩; have n3_ : zA (w24.heap[gb155]? = some (.cells #[.int .i64 ((rd_T66 l0_0 (ji10)).f0), .int .i64 ((rd_T66 l0_0 (ji10)).f1), .int .i64 ((rd_T66 l0_0 (ji10)).f2), .int .u8 ((rd_T66 l0_0 (ji10)).f3)] 66 (0, 0))) := ⟨(by rw [hw]; exact (by (with_reducible repeat (first | refine zI ?_ _ | refine zF ?_ | refine zE ?_ _)); refine blk_put (cs := #[.int .i64 ((rd_T66 l0_0 (ji10)).f0), .int .i64 ((rd_T66 l0_0 (ji10)).f1), .int .i64 ((rd_T66 l0_0 (ji10)).f2), .int .u8 0]) ?_ 3 _ rfl; (with_reducible repeat (first | refine zI ?_ _ | refine zF ?_ | refine zE ?_ _)); refine blk_put (cs := #[.int .i64 ((rd_T66 l0_0 (ji10)).f0), .int .i64 ((rd_T66 l0_0 (ji10)).f1), .int .i64 0, .int .u8 0]) ?_ 2 _ rfl; (with_reducible repeat (first | refine zI ?_ _ | refine zF ?_ | refine zE ?_ _)); refine blk_put (cs := #[.int .i64 ((rd_T66 l0_0 (ji10)).f0), .int .i64 0, .int .i64 0, .int .u8 0]) ?_ 1 _ rfl; (with_reducible repeat (first | refine zI ?_ _ | refine zF ?_ | refine zE ?_ _)); refine blk_put (cs := #[.int .i64 0, .int .i64 0, .int .i64 0, .int .u8 0]) ?_ 0 _ rfl; (with_reducible repeat (first | refine zI ?_ _ | refine zF ?_ | refine zE ?_ _)); exact BK155.out))⟩; have n4_ : zA (Below w.heap.size w w24) := ⟨(by rw [hw]; exact (aL HB))⟩; clear hw; clear BK151; clear BK152; clear BK153; clear BK155; clear HB; have BK151 := n0_; have BK152 := n1_; have BK153 := n2_; have BK155 := n3_; have HB := n4_; clear n0_ n1_ n2_ n3_ n4_; obtain ⟨hcz25_0, hcz25_1, hcz25_2, hcz25_3, hfz25_0, hfz25_1, hfz25_2, hfz25_3⟩ := aC4 BK155; have hnb26 := NB152_153.out; have hnc26 := NB153_152.out; obtain ⟨hcz27_0, hcz27_1, hcz27_2, hcz27_3, hcz27_4, hcz27_5, hfz27_0, hfz27_1, hfz27_2, hfz27_3, hfz27_4, hfz27_5⟩ := aC6 BK152) | ((with_reducible refine gate_callee (f := 38) rfl ?_); refine goesL_ (some 37) rfl rfl Try.func38 (by kernel_rfl) rfl #[.agg #[.int .i64 ((rd_T66 l0_0 (ji10)).f0), .int .i64 ((rd_T66 l0_0 (ji10)).f1), .int .i64 ((rd_T66 l0_0 (ji10)).f2), .int .u8 ((rd_T66 l0_0 (ji10)).f3)], .int .i64 x11_1, .int .i64 a3_1] rfl (by (try simp only [List.map_toArray, List.map_cons, List.map_nil]); first | done | (simp only [hji10]; rfl) | rfl | (simp only [List.length_drop, List.length_take]; rfl)) ?_; (with_reducible refine (span_Next.calls ((rd_T66 l0_0 (ji10)).f0) ((rd_T66 l0_0 (ji10)).f1) ((rd_T66 l0_0 (ji10)).f2) ((rd_T66 l0_0 (ji10)).f3) x11_1 a3_1 t156 _ A13.out).mono ?_); rintro e w28 ⟨rfl, hb⟩; refine ⟨_, rfl, ?_⟩; replace BK151 := zA.mk (zC (aB BK151) hb); replace BK152 := zA.mk (zC (aB BK152) hb); replace BK153 := zA.mk (zC (aB BK153) hb); replace BK155 := zA.mk (zC (aB BK155) hb); replace HB := zA.mk (zD (aL HB) hb); (try clear hb); (try clear hb2); (try clear hk); (try clear hi); obtain ⟨hcz29_0, hcz29_1, hfz29_0, hfz29_1⟩ := aC2 BK151) | ((with_reducible refine gate_callee (f := 39) rfl ?_); refine goesL_ (some 42) rfl rfl Try.func39 (by kernel_rfl) rfl #[.agg #[.slice (some ad154) l0_0.length c0_0, .slice A0_1 l0_1.length c0_1], .int .i64 ji10, .int .i64 x13_1] rfl (by (try simp only [List.map_toArray, List.map_cons, List.map_nil]); first | done | (simp only [hji10]; rfl) | rfl | (simp only [List.length_drop, List.length_take]; rfl)) ?_; (with_reducible refine (span_Trim.calls k1 _ _ l0_0 _ _ l0_1 ji10 x13_1 t157 _ ?side1 ?side2 ?side3 ?side4 A14.out).mono ?_); (case side1 => exact aA HR0_0 HB); (case side2 => exact HC0_0.out); (case side3 => exact aA HR0_1 HB); (case side4 => exact HC0_1.out); rintro e w30 ⟨rfl, hb⟩; refine ⟨_, rfl, ?_⟩; replace BK151 := zA.mk (zC (aB BK151) hb); replace BK152 := zA.mk (zC (aB BK152) hb); replace BK153 := zA.mk (zC (aB BK153) hb); replace BK155 := zA.mk (zC (aB BK155) hb); replace HB := zA.mk (zD (aL HB) hb); (try clear hb); (try clear hb2); (try clear hk); (try clear hi)))
   (try simp only [Act.put, sA_, sB_, sC_])
   go_cut [12] (fun v12 wc => ∃ (kq : Nat) (x12_14 : Int), v12 = .int .i64 x12_14 ∧ zA (first_one.j1 kq a1 a2 x9_1 x10_1 t156 x12_14 x13_1 l0_0 l0_1 a3_0 a3_1 a3_2 a3_3 a3_4 a3_5 = some (r1, r2, r3, r4)) ∧ zA (kq ≤ k1) ∧ zA (wc.heap[gb151]? = some (.cells #[(.slice (some ad154) l0_0.length c0_0), (.slice A0_1 l0_1.length c0_1)] 31 (0, 0))) ∧ zA (wc.heap[gb152]? = some (.cells #[.int .i64 a3_0, .int .i64 a3_1, .int .u8 a3_2, .int .i64 a3_3, .int .i64 a3_4, .float .f64 a3_5] 35 (0, 0))) ∧ zA (wc.heap[gb153]? = some (.cells #[.int .i64 0, .int .i64 0, .int .i64 0, .int .u8 0] 54 (0, 0))) ∧ zA (wc.heap[gb155]? = some (.cells #[.int .i64 ((rd_T66 l0_0 (ji10)).f0), .int .i64 ((rd_T66 l0_0 (ji10)).f1), .int .i64 ((rd_T66 l0_0 (ji10)).f2), .int .u8 ((rd_T66 l0_0 (ji10)).f3)] 66 (0, 0))) ∧ zA (Below w.heap.size w wc))
   case first =>
    have H := HC15.out; clear HC15; by_cases c31 : t157 = x13_1
    ·rw [if_pos c31] at H
     have c31b0 : (t157 == x13_1) = true := beq_iff_eq.mpr c31
     have c31b1 : (t157 != x13_1) = false := bne_eq_false_iff_eq.mpr c31
     clear c31; (first | rw [c31b0] | (simp only [i64_w, i32_w]; rw [c31b0]) | skip)
     have H' := zA.mk H
     clear H; go_wp2
     go_meet
     case rel => exact ⟨_, (t156), aZ, H', ⟨by have := HK1.out; first | omega | exact Nat.le_refl _⟩, ⟨aB BK151⟩, ⟨aB BK152⟩, ⟨aB BK153⟩, ⟨aB BK155⟩, ⟨aL HB⟩⟩
    rw [if_neg c31] at H; have c31b0 : (t157 == x13_1) = false := beq_eq_false_iff_ne.mpr c31
    have c31b1 : (t157 != x13_1) = true := bne_iff_ne.mpr c31
    (first | rw [c31b0] | (simp only [i64_w, i32_w]; rw [c31b0]) | skip)
    have H' := zA.mk H
    clear H; go_wp2
    go_meet
    case rel => exact ⟨_, (x12_1), aZ, H', ⟨by have := HK1.out; first | omega | exact Nat.le_refl _⟩, ⟨aB BK151⟩, ⟨aB BK152⟩, ⟨aB BK153⟩, ⟨aB BK155⟩, ⟨aL HB⟩⟩
   clear HC15; obtain ⟨kq, x12_14, rfl, HA, HJ14, BK151, BK152, BK153, BK155, HB⟩ := hcut; cases kq with
   | zero => exact absurd HA.out (by simp [first_one.j1])
   | succ kj14 =>
    have H := HA.out; clear HA; simp only [first_one.j1] at H; by_cases c32 : x12_14 > a3_0
    ·rw [if_pos c32] at H
     have c32b0 : decide (a3_0 < x12_14) = true := decide_eq_true c32
     clear c32; have H' := zA.mk H
     clear H; have hnb33 := NB152_151.out; have hnc33 := NB151_152.out; have hnb34 := NB152_153.out; have hnc34 := NB153_152.out; have hnb35 := NB152_155.out; have hnc35 := NB155_152.out; obtain ⟨hcz36_0, hcz36_1, hcz36_2, hcz36_3, hcz36_4, hcz36_5, hfz36_0, hfz36_1, hfz36_2, hfz36_3, hfz36_4, hfz36_5⟩ := aC6 BK152; go_wp2
     go_meet
     case rel => exact ⟨_, (x9_1), (x10_1), aZ, aZ, H', ⟨by have := HK1.out; have := HJ14.out; first | omega | exact Nat.le_refl _⟩, ⟨aB BK151⟩, ⟨aB BK152⟩, ⟨aB BK153⟩, ⟨aL HB⟩⟩
    rw [if_neg c32] at H; have c32b0 : decide (a3_0 < x12_14) = false := decide_eq_false c32
    clear c32; replace H := Option.bind_eq_some_iff.mp H; obtain ⟨⟨t158, t159⟩, A370, H⟩ := H; replace H : (if t159 = true then (if t158 = 3 then (if x12_14 < a3_0 then (first_one.l0 kj14 a1 a2 x13_1 x13_1 t156 x12_14 (wrap64 (x13_1 + 1)) l0_0 l0_1 a3_0 a3_1 a3_2 a3_3 a3_4 a3_5) else (first_one.l0 kj14 a1 a2 x9_1 x13_1 t156 x12_14 (wrap64 (x13_1 + 1)) l0_0 l0_1 a3_0 a3_1 a3_2 a3_3 a3_4 a3_5)) else (first_one.l0 kj14 a1 a2 x13_1 x13_1 t156 x12_14 (wrap64 (x13_1 + 1)) l0_0 l0_1 a3_0 a3_1 a3_2 a3_3 a3_4 a3_5)) else (first_one.l0 kj14 a1 a2 x9_1 x13_1 t156 x12_14 (wrap64 (x13_1 + 1)) l0_0 l0_1 a3_0 a3_1 a3_2 a3_3 a3_4 a3_5)) = some (r1, r2, r3, r4) := H; have A37 := zA.mk A370; clear A370; by_cases c38 : t159 = true
    rotate_left
    ·replace c38 := Bool.eq_false_iff.mpr c38
     subst c38; have H1 : (first_one.l0 kj14 a1 a2 x9_1 x13_1 t156 x12_14 (wrap64 (x13_1 + 1)) l0_0 l0_1 a3_0 a3_1 a3_2 a3_3 a3_4 a3_5) = some (r1, r2, r3, r4) := by rw [if_neg (show ¬ (false = true) by decide)] at H; exact H
     clear H; have H := H1; clear H1; have H' := zA.mk H
     clear H; have hnb67 := NB152_151.out; have hnc67 := NB151_152.out; have hnb68 := NB152_153.out; have hnc68 := NB153_152.out; have hnb69 := NB152_155.out; have hnc69 := NB155_152.out; obtain ⟨hcz70_0, hcz70_1, hcz70_2, hcz70_3, hcz70_4, hcz70_5, hfz70_0, hfz70_1, hfz70_2, hfz70_3, hfz70_4, hfz70_5⟩ := aC6 BK152; have hnb71 := NB151_153.out; have hnc71 := NB153_151.out; have hnb72 := NB151_155.out; have hnc72 := NB155_151.out; obtain ⟨hcz73_0, hcz73_1, hfz73_0, hfz73_1⟩ := aC2 BK151; go_wp2_with (first | ((with_reducible refine gate_callee (f := 40) rfl ?_); refine goesL_ (some 54) rfl rfl Try.func40 (by kernel_rfl) rfl #[.agg #[.slice (some ad154) l0_0.length c0_0, .slice A0_1 l0_1.length c0_1], .int .i64 x13_1] rfl aT ?_; (with_reducible refine (span_Ends.calls _ _ l0_0 _ _ l0_1 x13_1 t158 false _ ?side1 ?side2 ?side3 ?side4 A37.out).mono ?_); (case side1 => exact aA HR0_0 HB); (case side2 => exact HC0_0.out); (case side3 => exact aA HR0_1 HB); (case side4 => exact HC0_1.out); rintro e w74 ⟨rfl, hb⟩; refine ⟨_, rfl, ?_⟩; replace BK151 := zA.mk (zC (aB BK151) hb); replace BK152 := zA.mk (zC (aB BK152) hb); replace BK153 := zA.mk (zC (aB BK153) hb); replace BK155 := zA.mk (zC (aB BK155) hb); replace HB := zA.mk (zD (aL HB) hb); (try clear hb); (try clear hb2); (try clear hk); (try clear hi)))
     go_roundg kj14
     case measure => have := HK1.out; have := HJ14.out; omega
     case rel => exact ⟨(x9_1), (x13_1), (t156), (x12_14), (wrap64 (x13_1 + 1)), aZ, aZ, aZ, aZ, aZ, H', ⟨by have := HK1.out; have := HJ14.out; omega⟩, ⟨aB BK151⟩, ⟨aB BK152⟩, ⟨aB BK153⟩, ⟨aL HB⟩⟩
    subst c38; have H1 : (if t158 = 3 then (if x12_14 < a3_0 then (first_one.l0 kj14 a1 a2 x13_1 x13_1 t156 x12_14 (wrap64 (x13_1 + 1)) l0_0 l0_1 a3_0 a3_1 a3_2 a3_3 a3_4 a3_5) else (first_one.l0 kj14 a1 a2 x9_1 x13_1 t156 x12_14 (wrap64 (x13_1 + 1)) l0_0 l0_1 a3_0 a3_1 a3_2 a3_3 a3_4 a3_5)) else (first_one.l0 kj14 a1 a2 x13_1 x13_1 t156 x12_14 (wrap64 (x13_1 + 1)) l0_0 l0_1 a3_0 a3_1 a3_2 a3_3 a3_4 a3_5)) = some (r1, r2, r3, r4) := by rw [if_pos rfl] at H; exact H
    clear H; have H := H1; clear H1; by_cases c39 : t158 = 3
    rotate_left
    ·rw [if_neg c39] at H
     have c39b0 : (t158 == 3) = false := beq_eq_false_iff_ne.mpr c39
     have c39b1 : (t158 != 3) = true := bne_iff_ne.mpr c39
     have H' := zA.mk H
     clear H; have hnb59 := NB152_151.out; have hnc59 := NB151_152.out; have hnb60 := NB152_153.out; have hnc60 := NB153_152.out; have hnb61 := NB152_155.out; have hnc61 := NB155_152.out; obtain ⟨hcz62_0, hcz62_1, hcz62_2, hcz62_3, hcz62_4, hcz62_5, hfz62_0, hfz62_1, hfz62_2, hfz62_3, hfz62_4, hfz62_5⟩ := aC6 BK152; have hnb63 := NB151_153.out; have hnc63 := NB153_151.out; have hnb64 := NB151_155.out; have hnc64 := NB155_151.out; obtain ⟨hcz65_0, hcz65_1, hfz65_0, hfz65_1⟩ := aC2 BK151; go_wp2_with (first | ((with_reducible refine gate_callee (f := 40) rfl ?_); refine goesL_ (some 54) rfl rfl Try.func40 (by kernel_rfl) rfl #[.agg #[.slice (some ad154) l0_0.length c0_0, .slice A0_1 l0_1.length c0_1], .int .i64 x13_1] rfl aT ?_; (with_reducible refine (span_Ends.calls _ _ l0_0 _ _ l0_1 x13_1 t158 true _ ?side1 ?side2 ?side3 ?side4 A37.out).mono ?_); (case side1 => exact aA HR0_0 HB); (case side2 => exact HC0_0.out); (case side3 => exact aA HR0_1 HB); (case side4 => exact HC0_1.out); rintro e w66 ⟨rfl, hb⟩; refine ⟨_, rfl, ?_⟩; replace BK151 := zA.mk (zC (aB BK151) hb); replace BK152 := zA.mk (zC (aB BK152) hb); replace BK153 := zA.mk (zC (aB BK153) hb); replace BK155 := zA.mk (zC (aB BK155) hb); replace HB := zA.mk (zD (aL HB) hb); (try clear hb); (try clear hb2); (try clear hk); (try clear hi)))
     go_roundg kj14
     case measure => have := HK1.out; have := HJ14.out; omega
     case rel => exact ⟨(x13_1), (x13_1), (t156), (x12_14), (wrap64 (x13_1 + 1)), aZ, aZ, aZ, aZ, aZ, H', ⟨by have := HK1.out; have := HJ14.out; omega⟩, ⟨aB BK151⟩, ⟨aB BK152⟩, ⟨aB BK153⟩, ⟨aL HB⟩⟩
    rw [if_pos c39] at H; have c39b0 : (t158 == 3) = true := beq_iff_eq.mpr c39
    have c39b1 : (t158 != 3) = false := bne_eq_false_iff_eq.mpr c39
    clear c39; by_cases c40 : x12_14 < a3_0
    ·rw [if_pos c40] at H
     have c40b0 : decide (x12_14 < a3_0) = true := decide_eq_true c40
     clear c40; have H' := zA.mk H
     clear H; have hnb41 := NB152_151.out; have hnc41 := NB151_152.out; have hnb42 := NB152_153.out; have hnc42 := NB153_152.out; have hnb43 := NB152_155.out; have hnc43 := NB155_152.out; obtain ⟨hcz44_0, hcz44_1, hcz44_2, hcz44_3, hcz44_4, hcz44_5, hfz44_0, hfz44_1, hfz44_2, hfz44_3, hfz44_4, hfz44_5⟩ := aC6 BK152; have hnb45 := NB151_153.out; have hnc45 := NB153_151.out; have hnb46 := NB151_155.out; have hnc46 := NB155_151.out; obtain ⟨hcz47_0, hcz47_1, hfz47_0, hfz47_1⟩ := aC2 BK151; go_wp2_with (first | ((with_reducible refine gate_callee (f := 40) rfl ?_); refine goesL_ (some 54) rfl rfl Try.func40 (by kernel_rfl) rfl #[.agg #[.slice (some ad154) l0_0.length c0_0, .slice A0_1 l0_1.length c0_1], .int .i64 x13_1] rfl aT ?_; (with_reducible refine (span_Ends.calls _ _ l0_0 _ _ l0_1 x13_1 t158 true _ ?side1 ?side2 ?side3 ?side4 A37.out).mono ?_); (case side1 => exact aA HR0_0 HB); (case side2 => exact HC0_0.out); (case side3 => exact aA HR0_1 HB); (case side4 => exact HC0_1.out); rintro e w48 ⟨rfl, hb⟩; refine ⟨_, rfl, ?_⟩; replace BK151 := zA.mk (zC (aB BK151) hb); replace BK152 := zA.mk (zC (aB BK152) hb); replace BK153 := zA.mk (zC (aB BK153) hb); replace BK155 := zA.mk (zC (aB BK155) hb); replace HB := zA.mk (zD (aL HB) hb); (try clear hb); (try clear hb2); (try clear hk); (try clear hi); obtain ⟨hcz49_0, hcz49_1, hcz49_2, hcz49_3, hcz49_4, hcz49_5, hfz49_0, hfz49_1, hfz49_2, hfz49_3, hfz49_4, hfz49_5⟩ := aC6 BK152))
     go_roundg kj14
     case measure => have := HK1.out; have := HJ14.out; omega
     case rel => exact ⟨(x13_1), (x13_1), (t156), (x12_14), (wrap64 (x13_1 + 1)), aZ, aZ, aZ, aZ, aZ, H', ⟨by have := HK1.out; have := HJ14.out; omega⟩, ⟨aB BK151⟩, ⟨aB BK152⟩, ⟨aB BK153⟩, ⟨aL HB⟩⟩
    rw [if_neg c40] at H; have c40b0 : decide (x12_14 < a3_0) = false := decide_eq_false c40
    clear c40; have H' := zA.mk H
    clear H; have hnb50 := NB152_151.out; have hnc50 := NB151_152.out; have hnb51 := NB152_153.out; have hnc51 := NB153_152.out; have hnb52 := NB152_155.out; have hnc52 := NB155_152.out; obtain ⟨hcz53_0, hcz53_1, hcz53_2, hcz53_3, hcz53_4, hcz53_5, hfz53_0, hfz53_1, hfz53_2, hfz53_3, hfz53_4, hfz53_5⟩ := aC6 BK152; have hnb54 := NB151_153.out; have hnc54 := NB153_151.out; have hnb55 := NB151_155.out; have hnc55 := NB155_151.out; obtain ⟨hcz56_0, hcz56_1, hfz56_0, hfz56_1⟩ := aC2 BK151; go_wp2_with (first | ((with_reducible refine gate_callee (f := 40) rfl ?_); refine goesL_ (some 54) rfl rfl Try.func40 (by kernel_rfl) rfl #[.agg #[.slice (some ad154) l0_0.length c0_0, .slice A0_1 l0_1.length c0_1], .int .i64 x13_1] rfl aT ?_; (with_reducible refine (span_Ends.calls _ _ l0_0 _ _ l0_1 x13_1 t158 true _ ?side1 ?side2 ?side3 ?side4 A37.out).mono ?_); (case side1 => exact aA HR0_0 HB); (case side2 => exact HC0_0.out); (case side3 => exact aA HR0_1 HB); (case side4 => exact HC0_1.out); rintro e w57 ⟨rfl, hb⟩; refine ⟨_, rfl, ?_⟩; replace BK151 := zA.mk (zC (aB BK151) hb); replace BK152 := zA.mk (zC (aB BK152) hb); replace BK153 := zA.mk (zC (aB BK153) hb); replace BK155 := zA.mk (zC (aB BK155) hb); replace HB := zA.mk (zD (aL HB) hb); (try clear hb); (try clear hb2); (try clear hk); (try clear hi); obtain ⟨hcz58_0, hcz58_1, hcz58_2, hcz58_3, hcz58_4, hcz58_5, hfz58_0, hfz58_1, hfz58_2, hfz58_3, hfz58_4, hfz58_5⟩ := aC6 BK152))
    go_roundg kj14
    case measure => have := HK1.out; have := HJ14.out; omega
    case rel => exact ⟨(x9_1), (x13_1), (t156), (x12_14), (wrap64 (x13_1 + 1)), aZ, aZ, aZ, aZ, aZ, H', ⟨by have := HK1.out; have := HJ14.out; omega⟩, ⟨aB BK151⟩, ⟨aB BK152⟩, ⟨aB BK153⟩, ⟨aL HB⟩⟩
 clear HC5; obtain ⟨kq, x9_4, x10_4, rfl, rfl, HA, HJ4, BK151, BK152, BK153, HB⟩ := hcut; cases kq with
 | zero => exact absurd HA.out (by simp [first_one.j2])
 | succ kj4 =>
  have H := HA.out; clear HA; simp only [first_one.j2] at H; by_cases c75 : x9_4 ≥ 0
  ·rw [if_pos c75] at H
   have c75b0 : decide (0 ≤ x9_4) = true := decide_eq_true c75
   clear c75; by_cases c76 : 0 ≤ x9_4
   rotate_left
   ·rw [if_neg c76] at H
    exact absurd H (by simp)
   rw [if_pos c76] at H; have c76b0 : decide (0 ≤ x9_4) = true := decide_eq_true c76
   clear c76; by_cases c77 : x9_4 < (l0_1.length : Int)
   rotate_left
   ·rw [if_neg c77] at H
    exact absurd H (by simp)
   rw [if_pos c77] at H; have c77b0 : decide (x9_4 < (l0_1.length : Int)) = true := decide_eq_true c77
   clear c77; replace H := Option.bind_eq_some_iff.mp H; obtain ⟨⟨t161, t162, t163, t164⟩, A780, H⟩ := H; replace H : (some (t161, t162, t163, t164)) = some (r1, r2, r3, r4) := H; have A78 := zA.mk A780; clear A780; simp only [Option.some.injEq, Prod.mk.injEq] at H; obtain ⟨rfl, rfl, rfl, rfl⟩ := H; try go_wp2
   replace BK151 := zA.mk (zF BK151.out); replace BK152 := zA.mk (zF BK152.out); replace BK153 := zA.mk (zF BK153.out); replace HB := zA.mk (below_drew1 HB.out); have p160 : 0 ≤ (x9_4 : Int) := aD
   have q160 : x9_4 < (l0_1.length : Int) := aD
   obtain ⟨ad160, e160, hx160_0⟩ := Kd.at_int HR0_1.out x9_4 p160 q160; have hw160_0 := hx160_0; cases e160
   replace hx160_0 := (HB.out.cell (World.block_lt_of_cell? w _ hx160_0)).trans hx160_0; replace p160 := eq_true p160; replace q160 := eq_true q160; refine start_ (n := 12) (S := fun w' => w'.cell? ⟨gb151, 0, none⟩ = some (.slice A0_0 l0_0.length c0_0) ∧ w'.cell? ⟨gb151, 1, none⟩ = some (.slice (some ad160) l0_1.length c0_1) ∧ w'.cell? ⟨gb152, 0, none⟩ = some (.int .i64 a3_0) ∧ w'.cell? ⟨gb152, 1, none⟩ = some (.int .i64 a3_1) ∧ w'.cell? ⟨gb152, 2, none⟩ = some (.int .u8 a3_2) ∧ w'.cell? ⟨gb152, 3, none⟩ = some (.int .i64 a3_3) ∧ w'.cell? ⟨gb152, 4, none⟩ = some (.int .i64 a3_4) ∧ w'.cell? ⟨gb152, 5, none⟩ = some (.float .f64 a3_5) ∧ w'.cell? (ad160.add (x9_4).toNat) = some (.int .u8 (rd l0_1 x9_4))) (ds := []) #[false, false, false, false, false, false, false, false, false, false, false, false] (by kernel_rfl) rfl rfl ⟨(zB BK151.out 0).trans rfl, (zB BK151.out 1).trans rfl, (zB BK152.out 0).trans rfl, (zB BK152.out 1).trans rfl, (zB BK152.out 2).trans rfl, (zB BK152.out 3).trans rfl, (zB BK152.out 4).trans rfl, (zB BK152.out 5).trans rfl, ((HB.out.cell (World.block_lt_of_cell? w _ hw160_0)).trans hw160_0)⟩ (fun hHeld => ?_); refine with_tabW first_one.tab16 first_one.bits16 (fun HT_ HW_ => ?_)
   generalize wc.drew = w79 at BK151 BK152 BK153 HB hx160_0 hHeld ⊢
   refine aP 1 (some 72) (tb_ 2 12) HT_ ?_
   refine aP 2 (some 73) (tb_ 6 12) HT_ ?_
   refine aP 3 (some 74) (tb_ 14 12) HT_ ?_
   refine aP 5 (some 76) (tb_ 46 12) HT_ ?_
   refine aP 8 (some 79) (tb_ 302 12) HT_ ?_
   refine take_ (i := 0) (N := some 71) (v := ?_) (a' := ?_) (tb_ 303 12) rfl rfl (take_ofW HT_.out HW_.out (by kernel_rfl)) (fun _ _ _ h => h) (Or.inl ⟨by rfl, ?_⟩) hHeld ?_ ?_
   rotate_left
   ·rintro w' ⟨s0, s1, s2, s3, s4, s5, s6, s7, s8⟩
    go_simp
    with_reducible rfl
   rotate_left
   ·simp only [Act.put, sA_, sB_, sC_, i64_w, i32_w]
    rfl
   refine take_ (i := 4) (N := some 75) (v := ?_) (a' := ?_) (tb_ 319 12) rfl rfl (take_ofW HT_.out HW_.out (by kernel_rfl)) (fun _ _ _ h => h) (Or.inl ⟨by rfl, ?_⟩) hHeld ?_ ?_
   rotate_left
   ·rintro w' ⟨s0, s1, s2, s3, s4, s5, s6, s7, s8⟩
    go_simp
    with_reducible rfl
   rotate_left
   ·simp only [Act.put, sA_, sB_, sC_, i64_w, i32_w]
    rfl
   refine aP 6 (some 77) (tb_ 383 12) HT_ ?_
   refine take_ (i := 7) (N := some 78) (v := ?_) (a' := ?_) (tf_ 9 12) rfl rfl (take_ofW HT_.out HW_.out (by kernel_rfl)) (fun _ _ _ h => h) (Or.inl ⟨by rfl, ?_⟩) hHeld ?_ ?_
   rotate_left
   ·rintro w' ⟨s0, s1, s2, s3, s4, s5, s6, s7, s8⟩
    go_simp
    with_reducible rfl
   rotate_left
   ·simp only [Act.put, sA_, sB_, sC_, i64_w, i32_w]
    rfl
   refine take_ (i := 9) (N := some 80) (v := ?_) (a' := ?_) (tf_ 10 12) rfl rfl (take_ofW HT_.out HW_.out (by kernel_rfl)) (fun _ _ _ h => h) (Or.inl ⟨by rfl, ?_⟩) hHeld ?_ ?_
   rotate_left
   ·rintro w' ⟨s0, s1, s2, s3, s4, s5, s6, s7, s8⟩
    go_simp
    with_reducible rfl
   rotate_left
   ·simp only [Act.put, sA_, sB_, sC_, i64_w, i32_w]
    rfl
   refine one_ (i := 10) (N := some 81) (tb_ 2047 12) rfl rfl (one_of HT_.out (by kernel_rfl)) (by decide) (fun K hK => ?_)
   refine goes_ Try.func30 (by kernel_rfl) rfl #[.agg #[.slice A0_0 l0_0.length c0_0, .slice (some ad160) l0_1.length c0_1], .int .i64 a1, .int .i64 x9_4, .int .u8 (rd l0_1 x9_4), .int .i64 a3_1] (by rfl) rfl rfl aT ?_
   with_reducible refine (span_Make.calls kj4 _ _ l0_0 _ _ l0_1 a1 x9_4 (rd l0_1 x9_4) a3_1 t161 t162 t163 t164 _ ?side1 ?side2 ?side3 ?side4 A78.out).mono ?_
   (case side1 => exact aA HR0_0 HB)
   (case side2 => exact HC0_0.out)
   (case side3 => exact aA HR0_1 HB)
   (case side4 => exact HC0_1.out)
   rintro e w80 ⟨rfl, hb⟩
   refine ⟨_, rfl, ?_⟩
   replace BK151 := zA.mk (zC (aB BK151) hb); replace BK152 := zA.mk (zC (aB BK152) hb); replace BK153 := zA.mk (zC (aB BK153) hb); replace HB := zA.mk (zD (aL HB) hb); (try clear hb)
   (try clear hb2)
   (try clear hk)
   (try clear hi)
   refine hK.out _ _ ⟨(zB BK151.out 0).trans rfl, (zB BK151.out 1).trans rfl, (zB BK152.out 0).trans rfl, (zB BK152.out 1).trans rfl, (zB BK152.out 2).trans rfl, (zB BK152.out 3).trans rfl, (zB BK152.out 4).trans rfl, (zB BK152.out 5).trans rfl, ((HB.out.cell (World.block_lt_of_cell? w _ hw160_0)).trans hw160_0)⟩ (fun hHeld => ?_)
   clear hK K; refine norm_ (a' := ?_) ?_ ?_
   rotate_left
   ·show Act.put _ (some 81) _ = _
    simp only [Act.put, sA_, sB_, sC_, i64_w, i32_w]; rfl
   refine one_ (i := 11) (N := none) (tb_ 4095 12) rfl rfl (one_of HT_.out (by kernel_rfl)) (by decide) (fun K hK => ?_)
   have hs81 : w80.cell? ⟨gb153, 0, none⟩ = some (.int .i64 0) := (zB BK153.out 0).trans rfl
   have hfs81 := blk_frozen BK153.out 0; have hns81_0 := NB151_153.out; have hns81_1 := NB152_153.out; have hms81_0 := NB153_151.out; have hms81_1 := NB153_152.out; have hs82 : w80.cell? ⟨gb153, 1, none⟩ = some (.int .i64 0) := (zB BK153.out 1).trans rfl
   have hfs82 := blk_frozen BK153.out 1; have hns82_0 := NB151_153.out; have hns82_1 := NB152_153.out; have hms82_0 := NB153_151.out; have hms82_1 := NB153_152.out; have hs83 : w80.cell? ⟨gb153, 2, none⟩ = some (.int .i64 0) := (zB BK153.out 2).trans rfl
   have hfs83 := blk_frozen BK153.out 2; have hns83_0 := NB151_153.out; have hns83_1 := NB152_153.out; have hms83_0 := NB153_151.out; have hms83_1 := NB153_152.out; have hs84 : w80.cell? ⟨gb153, 3, none⟩ = some (.int .u8 0) := (zB BK153.out 3).trans rfl
   have hfs84 := blk_frozen BK153.out 3; have hns84_0 := NB151_153.out; have hns84_1 := NB152_153.out; have hms84_0 := NB153_151.out; have hms84_1 := NB153_152.out; refine skip_ (w1 := ?_) (by rfl) rfl ?_ ?_
   rotate_left
   ·go_simp
    rfl
   refine hK.out _ _ ⟨((zG (p := ⟨gb153, _, none⟩) NB151_153.out _).trans (((zG (p := ⟨gb153, _, none⟩) NB151_153.out _).trans (((zG (p := ⟨gb153, _, none⟩) NB151_153.out _).trans (((zG (p := ⟨gb153, _, none⟩) NB151_153.out _).trans (hHeld.1)))))))), ((zG (p := ⟨gb153, _, none⟩) NB151_153.out _).trans (((zG (p := ⟨gb153, _, none⟩) NB151_153.out _).trans (((zG (p := ⟨gb153, _, none⟩) NB151_153.out _).trans (((zG (p := ⟨gb153, _, none⟩) NB151_153.out _).trans (hHeld.2.1)))))))), ((zG (p := ⟨gb153, _, none⟩) NB152_153.out _).trans (((zG (p := ⟨gb153, _, none⟩) NB152_153.out _).trans (((zG (p := ⟨gb153, _, none⟩) NB152_153.out _).trans (((zG (p := ⟨gb153, _, none⟩) NB152_153.out _).trans (hHeld.2.2.1)))))))), ((zG (p := ⟨gb153, _, none⟩) NB152_153.out _).trans (((zG (p := ⟨gb153, _, none⟩) NB152_153.out _).trans (((zG (p := ⟨gb153, _, none⟩) NB152_153.out _).trans (((zG (p := ⟨gb153, _, none⟩) NB152_153.out _).trans (hHeld.2.2.2.1)))))))), ((zG (p := ⟨gb153, _, none⟩) NB152_153.out _).trans (((zG (p := ⟨gb153, _, none⟩) NB152_153.out _).trans (((zG (p := ⟨gb153, _, none⟩) NB152_153.out _).trans (((zG (p := ⟨gb153, _, none⟩) NB152_153.out _).trans (hHeld.2.2.2.2.1)))))))), ((zG (p := ⟨gb153, _, none⟩) NB152_153.out _).trans (((zG (p := ⟨gb153, _, none⟩) NB152_153.out _).trans (((zG (p := ⟨gb153, _, none⟩) NB152_153.out _).trans (((zG (p := ⟨gb153, _, none⟩) NB152_153.out _).trans (hHeld.2.2.2.2.2.1)))))))), ((zG (p := ⟨gb153, _, none⟩) NB152_153.out _).trans (((zG (p := ⟨gb153, _, none⟩) NB152_153.out _).trans (((zG (p := ⟨gb153, _, none⟩) NB152_153.out _).trans (((zG (p := ⟨gb153, _, none⟩) NB152_153.out _).trans (hHeld.2.2.2.2.2.2.1)))))))), ((zG (p := ⟨gb153, _, none⟩) NB152_153.out _).trans (((zG (p := ⟨gb153, _, none⟩) NB152_153.out _).trans (((zG (p := ⟨gb153, _, none⟩) NB152_153.out _).trans (((zG (p := ⟨gb153, _, none⟩) NB152_153.out _).trans (hHeld.2.2.2.2.2.2.2.1)))))))), ((zG (p := ⟨gb153, _, none⟩) (aE hw160_0 GW153) _).trans (((zG (p := ⟨gb153, _, none⟩) (aE hw160_0 GW153) _).trans (((zG (p := ⟨gb153, _, none⟩) (aE hw160_0 GW153) _).trans (((zG (p := ⟨gb153, _, none⟩) (aE hw160_0 GW153) _).trans (hHeld.2.2.2.2.2.2.2.2))))))))⟩ (fun hHeld => ?_)
   clear hK K; refine done_ (done_of HT_.out (by kernel_rfl)) ?_
   try go_wp2
   refine bodyPost_ret (results_cell_row rfl _ _ gb153 54 #[.int .i64 t161, .int .i64 t162, .int .i64 t163, .int .u8 t164] (0, 0) _ rfl (by (with_reducible repeat (first | refine zI ?_ _ | refine zF ?_ | refine zE ?_ _)); refine blk_put (cs := #[.int .i64 t161, .int .i64 t162, .int .i64 t163, .int .u8 0]) ?_ 3 _ rfl; (with_reducible repeat (first | refine zI ?_ _ | refine zF ?_ | refine zE ?_ _)); refine blk_put (cs := #[.int .i64 t161, .int .i64 t162, .int .i64 0, .int .u8 0]) ?_ 2 _ rfl; (with_reducible repeat (first | refine zI ?_ _ | refine zF ?_ | refine zE ?_ _)); refine blk_put (cs := #[.int .i64 t161, .int .i64 0, .int .i64 0, .int .u8 0]) ?_ 1 _ rfl; (with_reducible repeat (first | refine zI ?_ _ | refine zF ?_ | refine zE ?_ _)); refine blk_put (cs := #[.int .i64 0, .int .i64 0, .int .i64 0, .int .u8 0]) ?_ 0 _ rfl; (with_reducible repeat (first | refine zI ?_ _ | refine zF ?_ | refine zE ?_ _)); exact BK153.out) Try.underlying54 rfl (by kernel_rfl)) rfl ?_
   exact ⟨aX, aL HB⟩
  rw [if_neg c75] at H; have c75b0 : decide (0 ≤ x9_4) = false := decide_eq_false c75
  clear c75; by_cases c85 : x10_4 = a2
  rotate_left
  ·rw [if_neg c85] at H
   have c85b0 : (x10_4 == a2) = false := beq_eq_false_iff_ne.mpr c85
   have c85b1 : (x10_4 != a2) = true := bne_iff_ne.mpr c85
   by_cases c119 : x10_4 < a2
   rotate_left
   ·rw [if_neg c119] at H
    have c119b0 : decide (x10_4 < a2) = false := decide_eq_false c119
    clear c119; replace H := Option.bind_eq_some_iff.mp H; obtain ⟨⟨t188, t189, t190, t191⟩, A1410, H⟩ := H; replace H : (some (t188, t189, t190, t191)) = some (r1, r2, r3, r4) := H; have A141 := zA.mk A1410; clear A1410; simp only [Option.some.injEq, Prod.mk.injEq] at H; obtain ⟨rfl, rfl, rfl, rfl⟩ := H; have hnb142 := NB151_152.out; have hnc142 := NB152_151.out; have hnb143 := NB151_153.out; have hnc143 := NB153_151.out; obtain ⟨hcz144_0, hcz144_1, hfz144_0, hfz144_1⟩ := aC2 BK151; have hnb145 := NB152_153.out; have hnc145 := NB153_152.out; obtain ⟨hcz146_0, hcz146_1, hcz146_2, hcz146_3, hcz146_4, hcz146_5, hfz146_0, hfz146_1, hfz146_2, hfz146_3, hfz146_4, hfz146_5⟩ := aC6 BK152; go_wp2_with (first | ((with_reducible refine gate_callee (f := 30) rfl ?_); refine goesL_ (some 107) rfl rfl Try.func30 (by kernel_rfl) rfl #[.agg #[.slice A0_0 l0_0.length c0_0, .slice A0_1 l0_1.length c0_1], .int .i64 a1, .int .i64 x10_4, .int .u8 4, .int .i64 a3_1] rfl aT ?_; (with_reducible refine (span_Make.calls kj4 _ _ l0_0 _ _ l0_1 a1 x10_4 4 a3_1 t188 t189 t190 t191 _ ?side1 ?side2 ?side3 ?side4 A141.out).mono ?_); (case side1 => exact aA HR0_0 HB); (case side2 => exact HC0_0.out); (case side3 => exact aA HR0_1 HB); (case side4 => exact HC0_1.out); rintro e w147 ⟨rfl, hb⟩; refine ⟨_, rfl, ?_⟩; replace BK151 := zA.mk (zC (aB BK151) hb); replace BK152 := zA.mk (zC (aB BK152) hb); replace BK153 := zA.mk (zC (aB BK153) hb); replace HB := zA.mk (zD (aL HB) hb); (try clear hb); (try clear hb2); (try clear hk); (try clear hi); obtain ⟨hcz148_0, hcz148_1, hcz148_2, hcz148_3, hfz148_0, hfz148_1, hfz148_2, hfz148_3⟩ := aC4 BK153) | ((with_reducible refine gate_store (t := 54) (p := 8) rfl ?_); refine store_event (t := 54) (p := 8) (v := ?vo_w149) (w1 := ((((w147.setCell ⟨gb153, 0, none⟩ (.int .i64 t188)).setCell ⟨gb153, 1, none⟩ (.int .i64 t189)).setCell ⟨gb153, 2, none⟩ (.int .i64 t190)).setCell ⟨gb153, 3, none⟩ (.int .u8 t191))) ?hg ?ho ?hn ?hr ?_; (case ho => rfl); (case hg => rfl); (case hn => rfl); (case hr => first | (go_simp; done) | (go_simp; rfl)); intro w149 hw; have n0_ : zA (w149.heap[gb151]? = some (.cells #[.slice A0_0 l0_0.length c0_0, .slice A0_1 l0_1.length c0_1] 31 (0, 0))) := ⟨(by rw [hw]; exact (aB BK151))⟩; have n1_ : zA (w149.heap[gb152]? = some (.cells #[.int .i64 a3_0, .int .i64 a3_1, .int .u8 a3_2, .int .i64 a3_3, .int .i64 a3_4, .float .f64 a3_5] 35 (0, 0))) := ⟨(by rw [hw]; exact (aB BK152))⟩; have n2_ : zA (w149.heap[gb153]? = some (.cells #[.int .i64 t188, .int .i64 t189, .int .i64 t190, .int .u8 t191] 54 (0, 0))) := ⟨(by rw [hw]; exact (by (with_reducible repeat (first | refine zI ?_ _ | refine zF ?_ | refine zE ?_ _)); refine blk_put (cs := #[.int .i64 t188, .int .i64 t189, .int .i64 t190, .int .u8 0]) ?_ 3 _ rfl; (with_reducible repeat (first | refine zI ?_ _ | refine zF ?_ | refine zE ?_ _)); refine blk_put (cs := #[.int .i64 t188, .int .i64 t189, .int .i64 0, .int .u8 0]) ?_ 2 _ rfl; (with_reducible repeat (first | refine zI ?_ _ | refine zF ?_ | refine zE ?_ _)); refine blk_put (cs := #[.int .i64 t188, .int .i64 0, .int .i64 0, .int .u8 0]) ?_ 1 _ rfl; (with_reducible repeat (first | refine zI ?_ _ | refine zF ?_ | refine zE ?_ _)); refine blk_put (cs := #[.int .i64 0, .int .i64 0, .int .i64 0, .int .u8 0]) ?_ 0 _ rfl; (with_reducible repeat (first | refine zI ?_ _ | refine zF ?_ | refine zE ?_ _)); exact BK153.out))⟩; have n3_ : zA (Below w.heap.size w w149) := ⟨(by rw [hw]; exact (aL HB))⟩; clear hw; clear BK151; clear BK152; clear BK153; clear HB; have BK151 := n0_; have BK152 := n1_; have BK153 := n2_; have HB := n3_; clear n0_ n1_ n2_ n3_))
    refine bodyPost_ret (results_cell_row rfl _ _ gb153 54 #[.int .i64 t188, .int .i64 t189, .int .i64 t190, .int .u8 t191] (0, 0) _ rfl (aB BK153) Try.underlying54 rfl (by kernel_rfl)) rfl ?_
    exact ⟨aX, aL HB⟩
   rw [if_pos c119] at H; have c119b0 : decide (x10_4 < a2) = true := decide_eq_true c119
   clear c119; by_cases c120 : 0 ≤ x10_4
   rotate_left
   ·rw [if_neg c120] at H
    exact absurd H (by simp)
   rw [if_pos c120] at H; have c120b0 : decide (0 ≤ x10_4) = true := decide_eq_true c120
   clear c120; by_cases c121 : x10_4 < (l0_1.length : Int)
   rotate_left
   ·rw [if_neg c121] at H
    exact absurd H (by simp)
   rw [if_pos c121] at H; have c121b0 : decide (x10_4 < (l0_1.length : Int)) = true := decide_eq_true c121
   clear c121; by_cases c122 : (rd l0_1 x10_4) = 1
   ·rw [if_pos c122] at H
    have c122b0 : ((rd l0_1 x10_4) == 1) = true := beq_iff_eq.mpr c122
    have c122b1 : ((rd l0_1 x10_4) != 1) = false := bne_eq_false_iff_eq.mpr c122
    clear c122; replace H := Option.bind_eq_some_iff.mp H; obtain ⟨⟨t180, t181, t182, t183⟩, A1230, H⟩ := H; replace H : (some (t180, t181, t182, t183)) = some (r1, r2, r3, r4) := H; have A123 := zA.mk A1230; clear A1230; simp only [Option.some.injEq, Prod.mk.injEq] at H; obtain ⟨rfl, rfl, rfl, rfl⟩ := H; have hnb124 := NB151_152.out; have hnc124 := NB152_151.out; have hnb125 := NB151_153.out; have hnc125 := NB153_151.out; obtain ⟨hcz126_0, hcz126_1, hfz126_0, hfz126_1⟩ := aC2 BK151; have p179 : 0 ≤ (x10_4 : Int) := aD
    have q179 : x10_4 < (l0_1.length : Int) := aD
    obtain ⟨ad179, e179, hx179_0⟩ := Kd.at_int HR0_1.out x10_4 p179 q179; cases e179
    replace hx179_0 := (HB.out.cell (World.block_lt_of_cell? w _ hx179_0)).trans hx179_0; replace p179 := eq_true p179; replace q179 := eq_true q179; have hnb127 := NB152_153.out; have hnc127 := NB153_152.out; obtain ⟨hcz128_0, hcz128_1, hcz128_2, hcz128_3, hcz128_4, hcz128_5, hfz128_0, hfz128_1, hfz128_2, hfz128_3, hfz128_4, hfz128_5⟩ := aC6 BK152; go_wp2_with (first | ((with_reducible refine gate_callee (f := 30) rfl ?_); refine goesL_ (some 107) rfl rfl Try.func30 (by kernel_rfl) rfl #[.agg #[.slice A0_0 l0_0.length c0_0, .slice (some ad179) l0_1.length c0_1], .int .i64 a1, .int .i64 x10_4, .int .u8 1, .int .i64 a3_1] rfl aT ?_; (with_reducible refine (span_Make.calls kj4 _ _ l0_0 _ _ l0_1 a1 x10_4 1 a3_1 t180 t181 t182 t183 _ ?side1 ?side2 ?side3 ?side4 A123.out).mono ?_); (case side1 => exact aA HR0_0 HB); (case side2 => exact HC0_0.out); (case side3 => exact aA HR0_1 HB); (case side4 => exact HC0_1.out); rintro e w129 ⟨rfl, hb⟩; refine ⟨_, rfl, ?_⟩; replace BK151 := zA.mk (zC (aB BK151) hb); replace BK152 := zA.mk (zC (aB BK152) hb); replace BK153 := zA.mk (zC (aB BK153) hb); replace HB := zA.mk (zD (aL HB) hb); (try clear hb); (try clear hb2); (try clear hk); (try clear hi); obtain ⟨hcz130_0, hcz130_1, hcz130_2, hcz130_3, hfz130_0, hfz130_1, hfz130_2, hfz130_3⟩ := aC4 BK153) | ((with_reducible refine gate_store (t := 54) (p := 8) rfl ?_); refine store_event (t := 54) (p := 8) (v := ?vo_w131) (w1 := ((((w129.setCell ⟨gb153, 0, none⟩ (.int .i64 t180)).setCell ⟨gb153, 1, none⟩ (.int .i64 t181)).setCell ⟨gb153, 2, none⟩ (.int .i64 t182)).setCell ⟨gb153, 3, none⟩ (.int .u8 t183))) ?hg ?ho ?hn ?hr ?_; (case ho => rfl); (case hg => rfl); (case hn => rfl); (case hr => first | (go_simp; done) | (go_simp; rfl)); intro w131 hw; have n0_ : zA (w131.heap[gb151]? = some (.cells #[.slice A0_0 l0_0.length c0_0, .slice (some ad179) l0_1.length c0_1] 31 (0, 0))) := ⟨(by rw [hw]; exact (aB BK151))⟩; have n1_ : zA (w131.heap[gb152]? = some (.cells #[.int .i64 a3_0, .int .i64 a3_1, .int .u8 a3_2, .int .i64 a3_3, .int .i64 a3_4, .float .f64 a3_5] 35 (0, 0))) := ⟨(by rw [hw]; exact (aB BK152))⟩; have n2_ : zA (w131.heap[gb153]? = some (.cells #[.int .i64 t180, .int .i64 t181, .int .i64 t182, .int .u8 t183] 54 (0, 0))) := ⟨(by rw [hw]; exact (by (with_reducible repeat (first | refine zI ?_ _ | refine zF ?_ | refine zE ?_ _)); refine blk_put (cs := #[.int .i64 t180, .int .i64 t181, .int .i64 t182, .int .u8 0]) ?_ 3 _ rfl; (with_reducible repeat (first | refine zI ?_ _ | refine zF ?_ | refine zE ?_ _)); refine blk_put (cs := #[.int .i64 t180, .int .i64 t181, .int .i64 0, .int .u8 0]) ?_ 2 _ rfl; (with_reducible repeat (first | refine zI ?_ _ | refine zF ?_ | refine zE ?_ _)); refine blk_put (cs := #[.int .i64 t180, .int .i64 0, .int .i64 0, .int .u8 0]) ?_ 1 _ rfl; (with_reducible repeat (first | refine zI ?_ _ | refine zF ?_ | refine zE ?_ _)); refine blk_put (cs := #[.int .i64 0, .int .i64 0, .int .i64 0, .int .u8 0]) ?_ 0 _ rfl; (with_reducible repeat (first | refine zI ?_ _ | refine zF ?_ | refine zE ?_ _)); exact BK153.out))⟩; have n3_ : zA (Below w.heap.size w w131) := ⟨(by rw [hw]; exact (aL HB))⟩; clear hw; clear BK151; clear BK152; clear BK153; clear HB; have BK151 := n0_; have BK152 := n1_; have BK153 := n2_; have HB := n3_; clear n0_ n1_ n2_ n3_))
    refine bodyPost_ret (results_cell_row rfl _ _ gb153 54 #[.int .i64 t180, .int .i64 t181, .int .i64 t182, .int .u8 t183] (0, 0) _ rfl (aB BK153) Try.underlying54 rfl (by kernel_rfl)) rfl ?_
    exact ⟨aX, aL HB⟩
   rw [if_neg c122] at H; have c122b0 : ((rd l0_1 x10_4) == 1) = false := beq_eq_false_iff_ne.mpr c122
   have c122b1 : ((rd l0_1 x10_4) != 1) = true := bne_iff_ne.mpr c122
   replace H := Option.bind_eq_some_iff.mp H; obtain ⟨⟨t184, t185, t186, t187⟩, A1320, H⟩ := H; replace H : (some (t184, t185, t186, t187)) = some (r1, r2, r3, r4) := H; have A132 := zA.mk A1320; clear A1320; simp only [Option.some.injEq, Prod.mk.injEq] at H; obtain ⟨rfl, rfl, rfl, rfl⟩ := H; have hnb133 := NB151_152.out; have hnc133 := NB152_151.out; have hnb134 := NB151_153.out; have hnc134 := NB153_151.out; obtain ⟨hcz135_0, hcz135_1, hfz135_0, hfz135_1⟩ := aC2 BK151; have p179 : 0 ≤ (x10_4 : Int) := aD
   have q179 : x10_4 < (l0_1.length : Int) := aD
   obtain ⟨ad179, e179, hx179_0⟩ := Kd.at_int HR0_1.out x10_4 p179 q179; cases e179
   replace hx179_0 := (HB.out.cell (World.block_lt_of_cell? w _ hx179_0)).trans hx179_0; replace p179 := eq_true p179; replace q179 := eq_true q179; have hnb136 := NB152_153.out; have hnc136 := NB153_152.out; obtain ⟨hcz137_0, hcz137_1, hcz137_2, hcz137_3, hcz137_4, hcz137_5, hfz137_0, hfz137_1, hfz137_2, hfz137_3, hfz137_4, hfz137_5⟩ := aC6 BK152; go_wp2_with (first | ((with_reducible refine gate_callee (f := 30) rfl ?_); refine goesL_ (some 107) rfl rfl Try.func30 (by kernel_rfl) rfl #[.agg #[.slice A0_0 l0_0.length c0_0, .slice (some ad179) l0_1.length c0_1], .int .i64 a1, .int .i64 x10_4, .int .u8 4, .int .i64 a3_1] rfl aT ?_; (with_reducible refine (span_Make.calls kj4 _ _ l0_0 _ _ l0_1 a1 x10_4 4 a3_1 t184 t185 t186 t187 _ ?side1 ?side2 ?side3 ?side4 A132.out).mono ?_); (case side1 => exact aA HR0_0 HB); (case side2 => exact HC0_0.out); (case side3 => exact aA HR0_1 HB); (case side4 => exact HC0_1.out); rintro e w138 ⟨rfl, hb⟩; refine ⟨_, rfl, ?_⟩; replace BK151 := zA.mk (zC (aB BK151) hb); replace BK152 := zA.mk (zC (aB BK152) hb); replace BK153 := zA.mk (zC (aB BK153) hb); replace HB := zA.mk (zD (aL HB) hb); (try clear hb); (try clear hb2); (try clear hk); (try clear hi); obtain ⟨hcz139_0, hcz139_1, hcz139_2, hcz139_3, hfz139_0, hfz139_1, hfz139_2, hfz139_3⟩ := aC4 BK153) | ((with_reducible refine gate_store (t := 54) (p := 8) rfl ?_); refine store_event (t := 54) (p := 8) (v := ?vo_w140) (w1 := ((((w138.setCell ⟨gb153, 0, none⟩ (.int .i64 t184)).setCell ⟨gb153, 1, none⟩ (.int .i64 t185)).setCell ⟨gb153, 2, none⟩ (.int .i64 t186)).setCell ⟨gb153, 3, none⟩ (.int .u8 t187))) ?hg ?ho ?hn ?hr ?_; (case ho => rfl); (case hg => rfl); (case hn => rfl); (case hr => first | (go_simp; done) | (go_simp; rfl)); intro w140 hw; have n0_ : zA (w140.heap[gb151]? = some (.cells #[.slice A0_0 l0_0.length c0_0, .slice (some ad179) l0_1.length c0_1] 31 (0, 0))) := ⟨(by rw [hw]; exact (aB BK151))⟩; have n1_ : zA (w140.heap[gb152]? = some (.cells #[.int .i64 a3_0, .int .i64 a3_1, .int .u8 a3_2, .int .i64 a3_3, .int .i64 a3_4, .float .f64 a3_5] 35 (0, 0))) := ⟨(by rw [hw]; exact (aB BK152))⟩; have n2_ : zA (w140.heap[gb153]? = some (.cells #[.int .i64 t184, .int .i64 t185, .int .i64 t186, .int .u8 t187] 54 (0, 0))) := ⟨(by rw [hw]; exact (by (with_reducible repeat (first | refine zI ?_ _ | refine zF ?_ | refine zE ?_ _)); refine blk_put (cs := #[.int .i64 t184, .int .i64 t185, .int .i64 t186, .int .u8 0]) ?_ 3 _ rfl; (with_reducible repeat (first | refine zI ?_ _ | refine zF ?_ | refine zE ?_ _)); refine blk_put (cs := #[.int .i64 t184, .int .i64 t185, .int .i64 0, .int .u8 0]) ?_ 2 _ rfl; (with_reducible repeat (first | refine zI ?_ _ | refine zF ?_ | refine zE ?_ _)); refine blk_put (cs := #[.int .i64 t184, .int .i64 0, .int .i64 0, .int .u8 0]) ?_ 1 _ rfl; (with_reducible repeat (first | refine zI ?_ _ | refine zF ?_ | refine zE ?_ _)); refine blk_put (cs := #[.int .i64 0, .int .i64 0, .int .i64 0, .int .u8 0]) ?_ 0 _ rfl; (with_reducible repeat (first | refine zI ?_ _ | refine zF ?_ | refine zE ?_ _)); exact BK153.out))⟩; have n3_ : zA (Below w.heap.size w w140) := ⟨(by rw [hw]; exact (aL HB))⟩; clear hw; clear BK151; clear BK152; clear BK153; clear HB; have BK151 := n0_; have BK152 := n1_; have BK153 := n2_; have HB := n3_; clear n0_ n1_ n2_ n3_))
   refine bodyPost_ret (results_cell_row rfl _ _ gb153 54 #[.int .i64 t184, .int .i64 t185, .int .i64 t186, .int .u8 t187] (0, 0) _ rfl (aB BK153) Try.underlying54 rfl (by kernel_rfl)) rfl ?_
   exact ⟨aX, aL HB⟩
  rw [if_pos c85] at H; have c85b0 : (x10_4 == a2) = true := beq_iff_eq.mpr c85
  have c85b1 : (x10_4 != a2) = false := bne_eq_false_iff_eq.mpr c85
  clear c85; by_cases c86 : 0 ≤ a2
  rotate_left
  ·rw [if_neg c86] at H
   exact absurd H (by simp)
  rw [if_pos c86] at H; have c86b0 : decide (0 ≤ a2) = true := decide_eq_true c86
  clear c86; by_cases c87 : a2 < (l0_1.length : Int)
  rotate_left
  ·rw [if_neg c87] at H
   exact absurd H (by simp)
  rw [if_pos c87] at H; have c87b0 : decide (a2 < (l0_1.length : Int)) = true := decide_eq_true c87
  clear c87; by_cases c88 : x10_4 < a2
  rotate_left
  ·rw [if_neg c88] at H
   have c88b0 : decide (x10_4 < a2) = false := decide_eq_false c88
   clear c88; replace H := Option.bind_eq_some_iff.mp H; obtain ⟨⟨t175, t176, t177, t178⟩, A1100, H⟩ := H; replace H : (some (t175, t176, t177, t178)) = some (r1, r2, r3, r4) := H; have A110 := zA.mk A1100; clear A1100; simp only [Option.some.injEq, Prod.mk.injEq] at H; obtain ⟨rfl, rfl, rfl, rfl⟩ := H; have hnb111 := NB151_152.out; have hnc111 := NB152_151.out; have hnb112 := NB151_153.out; have hnc112 := NB153_151.out; obtain ⟨hcz113_0, hcz113_1, hfz113_0, hfz113_1⟩ := aC2 BK151; have p165 : 0 ≤ (a2 : Int) := aD
   have q165 : a2 < (l0_1.length : Int) := aD
   obtain ⟨ad165, e165, hx165_0⟩ := Kd.at_int HR0_1.out a2 p165 q165; cases e165
   replace hx165_0 := (HB.out.cell (World.block_lt_of_cell? w _ hx165_0)).trans hx165_0; replace p165 := eq_true p165; replace q165 := eq_true q165; have hnb114 := NB152_153.out; have hnc114 := NB153_152.out; obtain ⟨hcz115_0, hcz115_1, hcz115_2, hcz115_3, hcz115_4, hcz115_5, hfz115_0, hfz115_1, hfz115_2, hfz115_3, hfz115_4, hfz115_5⟩ := aC6 BK152; go_wp2_with (first | ((with_reducible refine gate_callee (f := 30) rfl ?_); refine goesL_ (some 107) rfl rfl Try.func30 (by kernel_rfl) rfl #[.agg #[.slice A0_0 l0_0.length c0_0, .slice (some ad165) l0_1.length c0_1], .int .i64 a1, .int .i64 x10_4, .int .u8 (rd l0_1 a2), .int .i64 a3_1] rfl aT ?_; (with_reducible refine (span_Make.calls kj4 _ _ l0_0 _ _ l0_1 a1 x10_4 (rd l0_1 a2) a3_1 t175 t176 t177 t178 _ ?side1 ?side2 ?side3 ?side4 A110.out).mono ?_); (case side1 => exact aA HR0_0 HB); (case side2 => exact HC0_0.out); (case side3 => exact aA HR0_1 HB); (case side4 => exact HC0_1.out); rintro e w116 ⟨rfl, hb⟩; refine ⟨_, rfl, ?_⟩; replace BK151 := zA.mk (zC (aB BK151) hb); replace BK152 := zA.mk (zC (aB BK152) hb); replace BK153 := zA.mk (zC (aB BK153) hb); replace HB := zA.mk (zD (aL HB) hb); (try clear hb); (try clear hb2); (try clear hk); (try clear hi); obtain ⟨hcz117_0, hcz117_1, hcz117_2, hcz117_3, hfz117_0, hfz117_1, hfz117_2, hfz117_3⟩ := aC4 BK153) | ((with_reducible refine gate_store (t := 54) (p := 8) rfl ?_); refine store_event (t := 54) (p := 8) (v := ?vo_w118) (w1 := ((((w116.setCell ⟨gb153, 0, none⟩ (.int .i64 t175)).setCell ⟨gb153, 1, none⟩ (.int .i64 t176)).setCell ⟨gb153, 2, none⟩ (.int .i64 t177)).setCell ⟨gb153, 3, none⟩ (.int .u8 t178))) ?hg ?ho ?hn ?hr ?_; (case ho => rfl); (case hg => rfl); (case hn => rfl); (case hr => first | (go_simp; done) | (go_simp; rfl)); intro w118 hw; have n0_ : zA (w118.heap[gb151]? = some (.cells #[.slice A0_0 l0_0.length c0_0, .slice (some ad165) l0_1.length c0_1] 31 (0, 0))) := ⟨(by rw [hw]; exact (aB BK151))⟩; have n1_ : zA (w118.heap[gb152]? = some (.cells #[.int .i64 a3_0, .int .i64 a3_1, .int .u8 a3_2, .int .i64 a3_3, .int .i64 a3_4, .float .f64 a3_5] 35 (0, 0))) := ⟨(by rw [hw]; exact (aB BK152))⟩; have n2_ : zA (w118.heap[gb153]? = some (.cells #[.int .i64 t175, .int .i64 t176, .int .i64 t177, .int .u8 t178] 54 (0, 0))) := ⟨(by rw [hw]; exact (by (with_reducible repeat (first | refine zI ?_ _ | refine zF ?_ | refine zE ?_ _)); refine blk_put (cs := #[.int .i64 t175, .int .i64 t176, .int .i64 t177, .int .u8 0]) ?_ 3 _ rfl; (with_reducible repeat (first | refine zI ?_ _ | refine zF ?_ | refine zE ?_ _)); refine blk_put (cs := #[.int .i64 t175, .int .i64 t176, .int .i64 0, .int .u8 0]) ?_ 2 _ rfl; (with_reducible repeat (first | refine zI ?_ _ | refine zF ?_ | refine zE ?_ _)); refine blk_put (cs := #[.int .i64 t175, .int .i64 0, .int .i64 0, .int .u8 0]) ?_ 1 _ rfl; (with_reducible repeat (first | refine zI ?_ _ | refine zF ?_ | refine zE ?_ _)); refine blk_put (cs := #[.int .i64 0, .int .i64 0, .int .i64 0, .int .u8 0]) ?_ 0 _ rfl; (with_reducible repeat (first | refine zI ?_ _ | refine zF ?_ | refine zE ?_ _)); exact BK153.out))⟩; have n3_ : zA (Below w.heap.size w w118) := ⟨(by rw [hw]; exact (aL HB))⟩; clear hw; clear BK151; clear BK152; clear BK153; clear HB; have BK151 := n0_; have BK152 := n1_; have BK153 := n2_; have HB := n3_; clear n0_ n1_ n2_ n3_))
   refine bodyPost_ret (results_cell_row rfl _ _ gb153 54 #[.int .i64 t175, .int .i64 t176, .int .i64 t177, .int .u8 t178] (0, 0) _ rfl (aB BK153) Try.underlying54 rfl (by kernel_rfl)) rfl ?_
   exact ⟨aX, aL HB⟩
  rw [if_pos c88] at H; have c88b0 : decide (x10_4 < a2) = true := decide_eq_true c88
  clear c88; by_cases c89 : 0 ≤ x10_4
  rotate_left
  ·rw [if_neg c89] at H
   exact absurd H (by simp)
  rw [if_pos c89] at H; have c89b0 : decide (0 ≤ x10_4) = true := decide_eq_true c89
  clear c89; by_cases c90 : x10_4 < (l0_1.length : Int)
  rotate_left
  ·rw [if_neg c90] at H
   exact absurd H (by simp)
  rw [if_pos c90] at H; have c90b0 : decide (x10_4 < (l0_1.length : Int)) = true := decide_eq_true c90
  clear c90; by_cases c91 : (rd l0_1 x10_4) = 1
  ·rw [if_pos c91] at H
   have c91b0 : ((rd l0_1 x10_4) == 1) = true := beq_iff_eq.mpr c91
   have c91b1 : ((rd l0_1 x10_4) != 1) = false := bne_eq_false_iff_eq.mpr c91
   clear c91; replace H := Option.bind_eq_some_iff.mp H; obtain ⟨⟨t167, t168, t169, t170⟩, A920, H⟩ := H; replace H : (some (t167, t168, t169, t170)) = some (r1, r2, r3, r4) := H; have A92 := zA.mk A920; clear A920; simp only [Option.some.injEq, Prod.mk.injEq] at H; obtain ⟨rfl, rfl, rfl, rfl⟩ := H; have hnb93 := NB151_152.out; have hnc93 := NB152_151.out; have hnb94 := NB151_153.out; have hnc94 := NB153_151.out; obtain ⟨hcz95_0, hcz95_1, hfz95_0, hfz95_1⟩ := aC2 BK151; have p165 : 0 ≤ (a2 : Int) := aD
   have q165 : a2 < (l0_1.length : Int) := aD
   obtain ⟨ad165, e165, hx165_0⟩ := Kd.at_int HR0_1.out a2 p165 q165; cases e165
   replace hx165_0 := (HB.out.cell (World.block_lt_of_cell? w _ hx165_0)).trans hx165_0; replace p165 := eq_true p165; replace q165 := eq_true q165; have p166 : 0 ≤ (x10_4 : Int) := aD
   have q166 : x10_4 < (l0_1.length : Int) := aD
   obtain ⟨ad166, e166, hx166_0⟩ := Kd.at_int HR0_1.out x10_4 p166 q166; obtain rfl : ad165 = ad166 := (by injection e166)
   replace hx166_0 := (HB.out.cell (World.block_lt_of_cell? w _ hx166_0)).trans hx166_0; replace p166 := eq_true p166; replace q166 := eq_true q166; have hnb96 := NB152_153.out; have hnc96 := NB153_152.out; obtain ⟨hcz97_0, hcz97_1, hcz97_2, hcz97_3, hcz97_4, hcz97_5, hfz97_0, hfz97_1, hfz97_2, hfz97_3, hfz97_4, hfz97_5⟩ := aC6 BK152; go_wp2_with (first | ((with_reducible refine gate_callee (f := 30) rfl ?_); refine goesL_ (some 107) rfl rfl Try.func30 (by kernel_rfl) rfl #[.agg #[.slice A0_0 l0_0.length c0_0, .slice (some ad165) l0_1.length c0_1], .int .i64 a1, .int .i64 x10_4, .int .u8 1, .int .i64 a3_1] rfl aT ?_; (with_reducible refine (span_Make.calls kj4 _ _ l0_0 _ _ l0_1 a1 x10_4 1 a3_1 t167 t168 t169 t170 _ ?side1 ?side2 ?side3 ?side4 A92.out).mono ?_); (case side1 => exact aA HR0_0 HB); (case side2 => exact HC0_0.out); (case side3 => exact aA HR0_1 HB); (case side4 => exact HC0_1.out); rintro e w98 ⟨rfl, hb⟩; refine ⟨_, rfl, ?_⟩; replace BK151 := zA.mk (zC (aB BK151) hb); replace BK152 := zA.mk (zC (aB BK152) hb); replace BK153 := zA.mk (zC (aB BK153) hb); replace HB := zA.mk (zD (aL HB) hb); (try clear hb); (try clear hb2); (try clear hk); (try clear hi); obtain ⟨hcz99_0, hcz99_1, hcz99_2, hcz99_3, hfz99_0, hfz99_1, hfz99_2, hfz99_3⟩ := aC4 BK153) | ((with_reducible refine gate_store (t := 54) (p := 8) rfl ?_); refine store_event (t := 54) (p := 8) (v := ?vo_w100) (w1 := ((((w98.setCell ⟨gb153, 0, none⟩ (.int .i64 t167)).setCell ⟨gb153, 1, none⟩ (.int .i64 t168)).setCell ⟨gb153, 2, none⟩ (.int .i64 t169)).setCell ⟨gb153, 3, none⟩ (.int .u8 t170))) ?hg ?ho ?hn ?hr ?_; (case ho => rfl); (case hg => rfl); (case hn => rfl); (case hr => first | (go_simp; done) | (go_simp; rfl)); intro w100 hw; have n0_ : zA (w100.heap[gb151]? = some (.cells #[.slice A0_0 l0_0.length c0_0, .slice (some ad165) l0_1.length c0_1] 31 (0, 0))) := ⟨(by rw [hw]; exact (aB BK151))⟩; have n1_ : zA (w100.heap[gb152]? = some (.cells #[.int .i64 a3_0, .int .i64 a3_1, .int .u8 a3_2, .int .i64 a3_3, .int .i64 a3_4, .float .f64 a3_5] 35 (0, 0))) := ⟨(by rw [hw]; exact (aB BK152))⟩; have n2_ : zA (w100.heap[gb153]? = some (.cells #[.int .i64 t167, .int .i64 t168, .int .i64 t169, .int .u8 t170] 54 (0, 0))) := ⟨(by rw [hw]; exact (by (with_reducible repeat (first | refine zI ?_ _ | refine zF ?_ | refine zE ?_ _)); refine blk_put (cs := #[.int .i64 t167, .int .i64 t168, .int .i64 t169, .int .u8 0]) ?_ 3 _ rfl; (with_reducible repeat (first | refine zI ?_ _ | refine zF ?_ | refine zE ?_ _)); refine blk_put (cs := #[.int .i64 t167, .int .i64 t168, .int .i64 0, .int .u8 0]) ?_ 2 _ rfl; (with_reducible repeat (first | refine zI ?_ _ | refine zF ?_ | refine zE ?_ _)); refine blk_put (cs := #[.int .i64 t167, .int .i64 0, .int .i64 0, .int .u8 0]) ?_ 1 _ rfl; (with_reducible repeat (first | refine zI ?_ _ | refine zF ?_ | refine zE ?_ _)); refine blk_put (cs := #[.int .i64 0, .int .i64 0, .int .i64 0, .int .u8 0]) ?_ 0 _ rfl; (with_reducible repeat (first | refine zI ?_ _ | refine zF ?_ | refine zE ?_ _)); exact BK153.out))⟩; have n3_ : zA (Below w.heap.size w w100) := ⟨(by rw [hw]; exact (aL HB))⟩; clear hw; clear BK151; clear BK152; clear BK153; clear HB; have BK151 := n0_; have BK152 := n1_; have BK153 := n2_; have HB := n3_; clear n0_ n1_ n2_ n3_))
   refine bodyPost_ret (results_cell_row rfl _ _ gb153 54 #[.int .i64 t167, .int .i64 t168, .int .i64 t169, .int .u8 t170] (0, 0) _ rfl (aB BK153) Try.underlying54 rfl (by kernel_rfl)) rfl ?_
   exact ⟨aX, aL HB⟩
  rw [if_neg c91] at H; have c91b0 : ((rd l0_1 x10_4) == 1) = false := beq_eq_false_iff_ne.mpr c91
  have c91b1 : ((rd l0_1 x10_4) != 1) = true := bne_iff_ne.mpr c91
  replace H := Option.bind_eq_some_iff.mp H; obtain ⟨⟨t171, t172, t173, t174⟩, A1010, H⟩ := H; replace H : (some (t171, t172, t173, t174)) = some (r1, r2, r3, r4) := H; have A101 := zA.mk A1010; clear A1010; simp only [Option.some.injEq, Prod.mk.injEq] at H; obtain ⟨rfl, rfl, rfl, rfl⟩ := H; have hnb102 := NB151_152.out; have hnc102 := NB152_151.out; have hnb103 := NB151_153.out; have hnc103 := NB153_151.out; obtain ⟨hcz104_0, hcz104_1, hfz104_0, hfz104_1⟩ := aC2 BK151; have p165 : 0 ≤ (a2 : Int) := aD
  have q165 : a2 < (l0_1.length : Int) := aD
  obtain ⟨ad165, e165, hx165_0⟩ := Kd.at_int HR0_1.out a2 p165 q165; cases e165
  replace hx165_0 := (HB.out.cell (World.block_lt_of_cell? w _ hx165_0)).trans hx165_0; replace p165 := eq_true p165; replace q165 := eq_true q165; have p166 : 0 ≤ (x10_4 : Int) := aD
  have q166 : x10_4 < (l0_1.length : Int) := aD
  obtain ⟨ad166, e166, hx166_0⟩ := Kd.at_int HR0_1.out x10_4 p166 q166; obtain rfl : ad165 = ad166 := (by injection e166)
  replace hx166_0 := (HB.out.cell (World.block_lt_of_cell? w _ hx166_0)).trans hx166_0; replace p166 := eq_true p166; replace q166 := eq_true q166; have hnb105 := NB152_153.out; have hnc105 := NB153_152.out; obtain ⟨hcz106_0, hcz106_1, hcz106_2, hcz106_3, hcz106_4, hcz106_5, hfz106_0, hfz106_1, hfz106_2, hfz106_3, hfz106_4, hfz106_5⟩ := aC6 BK152; go_wp2_with (first | ((with_reducible refine gate_callee (f := 30) rfl ?_); refine goesL_ (some 107) rfl rfl Try.func30 (by kernel_rfl) rfl #[.agg #[.slice A0_0 l0_0.length c0_0, .slice (some ad165) l0_1.length c0_1], .int .i64 a1, .int .i64 x10_4, .int .u8 (rd l0_1 a2), .int .i64 a3_1] rfl aT ?_; (with_reducible refine (span_Make.calls kj4 _ _ l0_0 _ _ l0_1 a1 x10_4 (rd l0_1 a2) a3_1 t171 t172 t173 t174 _ ?side1 ?side2 ?side3 ?side4 A101.out).mono ?_); (case side1 => exact aA HR0_0 HB); (case side2 => exact HC0_0.out); (case side3 => exact aA HR0_1 HB); (case side4 => exact HC0_1.out); rintro e w107 ⟨rfl, hb⟩; refine ⟨_, rfl, ?_⟩; replace BK151 := zA.mk (zC (aB BK151) hb); replace BK152 := zA.mk (zC (aB BK152) hb); replace BK153 := zA.mk (zC (aB BK153) hb); replace HB := zA.mk (zD (aL HB) hb); (try clear hb); (try clear hb2); (try clear hk); (try clear hi); obtain ⟨hcz108_0, hcz108_1, hcz108_2, hcz108_3, hfz108_0, hfz108_1, hfz108_2, hfz108_3⟩ := aC4 BK153) | ((with_reducible refine gate_store (t := 54) (p := 8) rfl ?_); refine store_event (t := 54) (p := 8) (v := ?vo_w109) (w1 := ((((w107.setCell ⟨gb153, 0, none⟩ (.int .i64 t171)).setCell ⟨gb153, 1, none⟩ (.int .i64 t172)).setCell ⟨gb153, 2, none⟩ (.int .i64 t173)).setCell ⟨gb153, 3, none⟩ (.int .u8 t174))) ?hg ?ho ?hn ?hr ?_; (case ho => rfl); (case hg => rfl); (case hn => rfl); (case hr => first | (go_simp; done) | (go_simp; rfl)); intro w109 hw; have n0_ : zA (w109.heap[gb151]? = some (.cells #[.slice A0_0 l0_0.length c0_0, .slice (some ad165) l0_1.length c0_1] 31 (0, 0))) := ⟨(by rw [hw]; exact (aB BK151))⟩; have n1_ : zA (w109.heap[gb152]? = some (.cells #[.int .i64 a3_0, .int .i64 a3_1, .int .u8 a3_2, .int .i64 a3_3, .int .i64 a3_4, .float .f64 a3_5] 35 (0, 0))) := ⟨(by rw [hw]; exact (aB BK152))⟩; have n2_ : zA (w109.heap[gb153]? = some (.cells #[.int .i64 t171, .int .i64 t172, .int .i64 t173, .int .u8 t174] 54 (0, 0))) := ⟨(by rw [hw]; exact (by (with_reducible repeat (first | refine zI ?_ _ | refine zF ?_ | refine zE ?_ _)); refine blk_put (cs := #[.int .i64 t171, .int .i64 t172, .int .i64 t173, .int .u8 0]) ?_ 3 _ rfl; (with_reducible repeat (first | refine zI ?_ _ | refine zF ?_ | refine zE ?_ _)); refine blk_put (cs := #[.int .i64 t171, .int .i64 t172, .int .i64 0, .int .u8 0]) ?_ 2 _ rfl; (with_reducible repeat (first | refine zI ?_ _ | refine zF ?_ | refine zE ?_ _)); refine blk_put (cs := #[.int .i64 t171, .int .i64 0, .int .i64 0, .int .u8 0]) ?_ 1 _ rfl; (with_reducible repeat (first | refine zI ?_ _ | refine zF ?_ | refine zE ?_ _)); refine blk_put (cs := #[.int .i64 0, .int .i64 0, .int .i64 0, .int .u8 0]) ?_ 0 _ rfl; (with_reducible repeat (first | refine zI ?_ _ | refine zF ?_ | refine zE ?_ _)); exact BK153.out))⟩; have n3_ : zA (Below w.heap.size w w109) := ⟨(by rw [hw]; exact (aL HB))⟩; clear hw; clear BK151; clear BK152; clear BK153; clear HB; have BK151 := n0_; have BK152 := n1_; have BK153 := n2_; have HB := n3_; clear n0_ n1_ n2_ n3_))
  refine bodyPost_ret (results_cell_row rfl _ _ gb153 54 #[.int .i64 t171, .int .i64 t172, .int .i64 t173, .int .u8 t174] (0, 0) _ rfl (aB BK153) Try.underlying54 rfl (by kernel_rfl)) rfl ?_
  exact ⟨aX, aL HB⟩
def first_Break.l0 : Nat → Int → Int → List (S54) → List (S66) → List Int → Int → Int → Int → Int → Int → Nat → Option ((List (S54)))
 | 0, _, _, _, _, _, _, _, _, _, _, _ => none
 | k + 1, x1, x2, x9, x193000, x193001, x194000, x194001, x194002, x194003, x194004, x194005 => if x1 < x2 then ((first_one.f k x193000 x193001 x1 x2 x194000 x194001 x194002 x194003 x194004 x194005).bind fun bt194 => (if x9.length < 4398046511104 then (first_Break.l0 k bt194.2.1 x2 (x9 ++ [(⟨bt194.1, bt194.2.1, bt194.2.2.1, bt194.2.2.2⟩ : S54)]) x193000 x193001 x194000 x194001 x194002 x194003 x194004 x194005) else (none))) else (some x9)
def first_Break.f (k : Nat) (l0_0 : List (S66)) (l0_1 : List Int) (a1 : Int) (a2 : Int) (a3_0 : Int) (a3_1 : Int) (a3_2 : Int) (a3_3 : Int) (a3_4 : Int) (a3_5 : Nat) : Option ((List (S54))) := first_Break.l0 k a1 a2 ([] : List (S54)) l0_0 l0_1 a3_0 a3_1 a3_2 a3_3 a3_4 a3_5
theorem first_Break.mono_l : ∀ k, (∀ y0 y1 y2 y3 y4 y5 y6 y7 y8 y9 y10, LeO (first_Break.l0 k y0 y1 y2 y3 y4 y5 y6 y7 y8 y9 y10) (first_Break.l0 (k + 1) y0 y1 y2 y3 y4 y5 y6 y7 y8 y9 y10))
 | 0 => fun _ _ _ _ _ _ _ _ _ _ _ r h => by simp [first_Break.l0] at h
 | k + 1 => by
  have ih0 := first_Break.mono_l k
  ·intro y0 y1 y2 y3 y4 y5 y6 y7 y8 y9 y10
   unfold first_Break.l0
   repeat' (with_reducible first | exact ih0 _ _ _ _ _ _ _ _ _ _ _ | exact first_one.mono _ _ _ _ _ _ _ _ _ _ _ | exact LeO.refl _ | exact LeO.none _ | refine LeO.ite ?_ ?_ | refine LeO.bind ?_ (fun _ => ?_))
theorem first_Break.mono : ∀ a0 a1 a2 a3 a4 a5 a6 a7 a8 a9 k, LeO (first_Break.f k a0 a1 a2 a3 a4 a5 a6 a7 a8 a9) (first_Break.f (k + 1) a0 a1 a2 a3 a4 a5 a6 a7 a8 a9) := by
 intro a0 a1 a2 a3 a4 a5 a6 a7 a8 a9 k
 have ih0 := first_Break.mono_l k; unfold first_Break.f
 repeat' (with_reducible first | exact ih0 _ _ _ _ _ _ _ _ _ _ _ | exact first_one.mono _ _ _ _ _ _ _ _ _ _ _ | exact LeO.refl _ | exact LeO.none _ | refine LeO.ite ?_ ?_ | refine LeO.bind ?_ (fun _ => ?_))
set_option maxHeartbeats 8000000 in
set_option maxRecDepth 100000 in
theorem first_Break.calls (k : Nat) (A0_0 : Option Addr) (c0_0 : Nat) (l0_0 : List (S66)) (A0_1 : Option Addr) (c0_1 : Nat) (l0_1 : List Int) (a1 : Int) (a2 : Int) (a3_0 : Int) (a3_1 : Int) (a3_2 : Int) (a3_3 : Int) (a3_4 : Int) (a3_5 : Nat) (r : List (S54)) (w : World) (hr0_0 : Kd.C k66 w A0_0 l0_0.length l0_0) (hc0_0 : l0_0.length ≤ c0_0) (hr0_1 : Kd.C (Kd.int .u8) w A0_1 l0_1.length l0_1) (hc0_1 : l0_1.length ≤ c0_1) (h : first_Break.f k l0_0 l0_1 a1 a2 a3_0 a3_1 a3_2 a3_3 a3_4 a3_5 = some r) :
  Calls Try.prog 20 #[.agg #[.slice A0_0 l0_0.length c0_0, .slice A0_1 l0_1.length c0_1], .int .i64 a1, .int .i64 a2, .agg #[.int .i64 a3_0, .int .i64 a3_1, .int .u8 a3_2, .int .i64 a3_3, .int .i64 a3_4, .float .f64 a3_5]] w fun e w' => ∃ v0_ : Value, e = .returned (v0_) ∧ Kd.R k54 54 w' w.heap.size (fun _ => True) v0_ r ∧ Below w.heap.size w w' := by
 have hu31 := Try.underlying31; have hu35 := Try.underlying35; have hu54 := Try.underlying54; have HR0_0 := zA.mk hr0_0; have HC0_0 := zA.mk hc0_0; clear hr0_0 hc0_0; have HR0_1 := zA.mk hr0_1; have HC0_1 := zA.mk hc0_1; clear hr0_1 hc0_1; have HB := zA.mk (Below.refl w.heap.size w); have H : (first_Break.l0 k a1 a2 ([] : List (S54)) l0_0 l0_1 a3_0 a3_1 a3_2 a3_3 a3_4 a3_5) = some r := h
 clear h; have H' := zA.mk H
 clear H; go_enter Try.func20, Try.ntmps20
 go_wp2_with (first | ((with_reducible refine gate_dst (N := 4) rfl ?_); refine box_event ?hg (N := 4) ?hd (cs := #[.slice A0_0 l0_0.length c0_0, .slice A0_1 l0_1.length c0_1]) (t := 31) ?hr ?_; (case hd => rfl); (case hg => rfl); (case hr => first | (go_simp; done) | (go_simp; rfl)); intro gb192 hg w5 hbox hb; have BK192 := zA.mk (hbox); have GW192 := zA.mk ((by rw [hg]; exact (zH (aL HB)) : w.heap.size ≤ gb192)); replace HB := zA.mk (zD (aL HB) hb); have GE192 := GW192; clear hb hbox hg) | ((with_reducible refine gate_dst (N := 7) rfl ?_); refine box_event ?hg (N := 7) ?hd (cs := #[.int .i64 a3_0, .int .i64 a3_1, .int .u8 a3_2, .int .i64 a3_3, .int .i64 a3_4, .float .f64 a3_5]) (t := 35) ?hr ?_; (case hd => rfl); (case hg => rfl); (case hr => first | (go_simp; done) | (go_simp; rfl)); intro gb193 hg w6 hbox hb; have BK193 := zA.mk (hbox); have GW193 := zA.mk ((by rw [hg]; exact (zH (aL HB)) : w.heap.size ≤ gb193)); replace HB := zA.mk (zD (aL HB) hb); have GE193 := GW193; have NB192_193 := zA.mk ((by rw [hg]; exact Nat.ne_of_lt (blk_lt (aB BK192)) : gb192 ≠ gb193)); have NB193_192 := zA.mk ((by rw [hg]; exact Nat.ne_of_gt (blk_lt (g := gb192) (o := .cells #[.slice A0_0 l0_0.length c0_0, .slice A0_1 l0_1.length c0_1] 31 (0, 0)) (aB BK192)) : gb193 ≠ gb192)); replace BK192 := zA.mk (zC (aB BK192) hb); clear hb hbox hg))
 go_loopg [1, 9] k (fun kq v1 v9 w' => ∃ (x1_1 : Int) (x9_1 : List (S54)), v1 = .int .i64 x1_1 ∧ zA (first_Break.l0 kq x1_1 a2 x9_1 l0_0 l0_1 a3_0 a3_1 a3_2 a3_3 a3_4 a3_5 = some r) ∧ zA (kq ≤ k) ∧ zA (Kd.R k54 54 w' w.heap.size (fun _ => True) v9 x9_1) ∧ zA (w'.heap[gb192]? = some (.cells #[(.slice A0_0 l0_0.length c0_0), (.slice A0_1 l0_1.length c0_1)] 31 (0, 0))) ∧ zA (w'.heap[gb193]? = some (.cells #[.int .i64 a3_0, .int .i64 a3_1, .int .u8 a3_2, .int .i64 a3_3, .int .i64 a3_4, .float .f64 a3_5] 35 (0, 0))) ∧ zA (Below w.heap.size w w'))
 case atStart => exact ⟨(a1), (([] : List (S54))), aZ, H', ⟨Nat.le_refl _⟩, ⟨by first | exact Kd.R_nil _ _ _ _ _ | exact Kd.N_nil _ _ _ _ _ | exact Kd.V_nil _ _ _ _ _ | exact Kd.Q_nil _ _ _ _ _ | exact Kd.S_nil _ _ _ _ _⟩, ⟨aB BK192⟩, ⟨aB BK193⟩, ⟨aL HB⟩⟩
 clear H'; obtain ⟨x1_1, x9_1, rfl, HA, HK1, HO_9, BK192, BK193, HB⟩ := hrel; cases gk with
 | zero => exact absurd HA.out (by simp [first_Break.l0])
 | succ k1 =>
  have H := HA.out; clear HA; simp only [first_Break.l0] at H; by_cases c7 : x1_1 < a2
  rotate_left
  ·rw [if_neg c7] at H
   have c7b0 : decide (x1_1 < a2) = false := decide_eq_false c7
   clear c7; obtain rfl := Option.some.inj H
   go_wp2
   go_ret
   exact ⟨_, aX, aR HO_9, aL HB⟩
  rw [if_pos c7] at H; have c7b0 : decide (x1_1 < a2) = true := decide_eq_true c7
  clear c7; replace H := Option.bind_eq_some_iff.mp H; obtain ⟨⟨t194, t195, t196, t197⟩, A80, H⟩ := H; replace H : (if x9_1.length < 4398046511104 then (first_Break.l0 k1 t195 a2 (x9_1 ++ [(⟨t194, t195, t196, t197⟩ : S54)]) l0_0 l0_1 a3_0 a3_1 a3_2 a3_3 a3_4 a3_5) else (none)) = some r := H; have A8 := zA.mk A80; clear A80; by_cases c9 : x9_1.length < 4398046511104
  rotate_left
  ·rw [if_neg c9] at H
   exact absurd H (by simp)
  rw [if_pos c9] at H; have LMc9 := zA.mk c9; clear c9; obtain ⟨y199, hy199⟩ : ∃ y_ : List (S54), y_ = (x9_1 ++ [(⟨t194, t195, t196, t197⟩ : S54)]) := ⟨_, rfl⟩; replace H : (first_Break.l0 k1 t195 a2 y199 l0_0 l0_1 a3_0 a3_1 a3_2 a3_3 a3_4 a3_5) = some r := by first | (rw [hy199]; with_reducible exact H) | (have H2_ := (Option.bind_some _ _).symm.trans H; rw [hy199]; with_reducible exact H2_) | (have H2_ := (Option.bind_some _ _).symm.trans H; with_reducible exact H2_) | with_reducible exact H | (rw [hy199]; exact H) | exact H
  have Ny199 := zA.mk hy199; clear hy199; have H' := zA.mk H
  clear H; have hnb10 := NB192_193.out; have hnc10 := NB193_192.out; obtain ⟨hcz11_0, hcz11_1, hfz11_0, hfz11_1⟩ := aC2 BK192; obtain ⟨hcz12_0, hcz12_1, hcz12_2, hcz12_3, hcz12_4, hcz12_5, hfz12_0, hfz12_1, hfz12_2, hfz12_3, hfz12_4, hfz12_5⟩ := aC6 BK193; go_wp2_with (first | ((with_reducible refine gate_callee (f := 28) rfl ?_); refine goesL_ (some 18) rfl rfl Try.func28 (by kernel_rfl) rfl #[.agg #[.slice A0_0 l0_0.length c0_0, .slice A0_1 l0_1.length c0_1], .int .i64 x1_1, .int .i64 a2, .agg #[.int .i64 a3_0, .int .i64 a3_1, .int .u8 a3_2, .int .i64 a3_3, .int .i64 a3_4, .float .f64 a3_5]] rfl aT ?_; (with_reducible refine (first_one.calls k1 _ _ l0_0 _ _ l0_1 x1_1 a2 a3_0 a3_1 a3_2 a3_3 a3_4 a3_5 t194 t195 t196 t197 _ ?side1 ?side2 ?side3 ?side4 A8.out).mono ?_); (case side1 => exact aA HR0_0 HB); (case side2 => exact HC0_0.out); (case side3 => exact aA HR0_1 HB); (case side4 => exact HC0_1.out); rintro e w13 ⟨rfl, hb⟩; refine ⟨_, rfl, ?_⟩; replace HO_9 := zA.mk (Kd.zR (aR HO_9) hb); replace BK192 := zA.mk (zC (aB BK192) hb); replace BK193 := zA.mk (zC (aB BK193) hb); replace HB := zA.mk (zD (aL HB) hb); (try clear hb); (try clear hb2); (try clear hk); (try clear hi)) | ((with_reducible refine gate_dst (N := 10) rfl ?_); refine box_event ?hg (N := 10) ?hd (cs := #[.int .i64 0, .int .i64 0, .int .i64 0, .int .u8 0]) (t := 54) ?hr ?_; (case hd => rfl); (case hg => rfl); (case hr => first | (go_simp; done) | (go_simp; rfl)); intro gb198 hg w14 hbox hb; replace HO_9 := zA.mk (Kd.zR (Kd.R_elderB (aR HO_9) gb198 (Nat.le_of_eq hg.symm)) hb); have BK198 := zA.mk (hbox); have GW198 := zA.mk ((by rw [hg]; exact (zH (aL HB)) : w.heap.size ≤ gb198)); replace HB := zA.mk (zD (aL HB) hb); have GE198 := GW198; have NB192_198 := zA.mk ((by rw [hg]; exact Nat.ne_of_lt (blk_lt (aB BK192)) : gb192 ≠ gb198)); have NB198_192 := zA.mk ((by rw [hg]; exact Nat.ne_of_gt (blk_lt (g := gb192) (o := .cells #[.slice A0_0 l0_0.length c0_0, .slice A0_1 l0_1.length c0_1] 31 (0, 0)) (aB BK192)) : gb198 ≠ gb192)); replace BK192 := zA.mk (zC (aB BK192) hb); have NB193_198 := zA.mk ((by rw [hg]; exact Nat.ne_of_lt (blk_lt (aB BK193)) : gb193 ≠ gb198)); have NB198_193 := zA.mk ((by rw [hg]; exact Nat.ne_of_gt (blk_lt (g := gb193) (o := .cells #[.int .i64 a3_0, .int .i64 a3_1, .int .u8 a3_2, .int .i64 a3_3, .int .i64 a3_4, .float .f64 a3_5] 35 (0, 0)) (aB BK193)) : gb198 ≠ gb193)); replace BK193 := zA.mk (zC (aB BK193) hb); clear hb hbox hg; have hnb15 := NB198_192.out; have hnc15 := NB192_198.out; have hnb16 := NB198_193.out; have hnc16 := NB193_198.out; obtain ⟨hcz17_0, hcz17_1, hcz17_2, hcz17_3, hfz17_0, hfz17_1, hfz17_2, hfz17_3⟩ := aC4 BK198) | ((with_reducible refine gate_store (t := 54) (p := 10) rfl ?_); refine store_event (t := 54) (p := 10) (v := ?vo_w18) (w1 := ((((w14.setCell ⟨gb198, 0, none⟩ (.int .i64 t194)).setCell ⟨gb198, 1, none⟩ (.int .i64 t195)).setCell ⟨gb198, 2, none⟩ (.int .i64 t196)).setCell ⟨gb198, 3, none⟩ (.int .u8 t197))) ?hg ?ho ?hn ?hr ?_; (case ho => rfl); (case hg => rfl); (case hn => rfl); (case hr => first | (go_simp; done) | (go_simp; rfl)); intro w18 hw; have n0_ : zA (Kd.R k54 54 w18 w.heap.size (fun k_ => k_ ≠ gb198) u9 x9_1) := ⟨(by rw [hw]; exact (by (with_reducible repeat (first | apply Kd.zJ | apply Kd.zK | apply Kd.zL)); exact Kd.zV (Kd.zS (p := ⟨gb198, 3, none⟩) (Kd.zS (p := ⟨gb198, 2, none⟩) (Kd.zS (p := ⟨gb198, 1, none⟩) (Kd.zS (p := ⟨gb198, 0, none⟩) (Kd.zV HO_9.out (fun k_ hk => (⟨hk, hk.2⟩ : _ ∧ k_ ≠ gb198))) (fun _ hk => hk.2) (.int .i64 t194)) (fun _ hk => hk.2) (.int .i64 t195)) (fun _ hk => hk.2) (.int .i64 t196)) (fun _ hk => hk.2) (.int .u8 t197)) (fun _ hk => hk.1.2)))⟩; have n1_ : zA (w18.heap[gb192]? = some (.cells #[.slice A0_0 l0_0.length c0_0, .slice A0_1 l0_1.length c0_1] 31 (0, 0))) := ⟨(by rw [hw]; exact (aB BK192))⟩; have n2_ : zA (w18.heap[gb193]? = some (.cells #[.int .i64 a3_0, .int .i64 a3_1, .int .u8 a3_2, .int .i64 a3_3, .int .i64 a3_4, .float .f64 a3_5] 35 (0, 0))) := ⟨(by rw [hw]; exact (aB BK193))⟩; have n3_ : zA (w18.heap[gb198]? = some (.cells #[.int .i64 t194, .int .i64 t195, .int .i64 t196, .int .u8 t197] 54 (0, 0))) := ⟨(by rw [hw]; exact (by (with_reducible repeat (first | refine zI ?_ _ | refine zF ?_ | refine zE ?_ _)); refine blk_put (cs := #[.int .i64 t194, .int .i64 t195, .int .i64 t196, .int .u8 0]) ?_ 3 _ rfl; (with_reducible repeat (first | refine zI ?_ _ | refine zF ?_ | refine zE ?_ _)); refine blk_put (cs := #[.int .i64 t194, .int .i64 t195, .int .i64 0, .int .u8 0]) ?_ 2 _ rfl; (with_reducible repeat (first | refine zI ?_ _ | refine zF ?_ | refine zE ?_ _)); refine blk_put (cs := #[.int .i64 t194, .int .i64 0, .int .i64 0, .int .u8 0]) ?_ 1 _ rfl; (with_reducible repeat (first | refine zI ?_ _ | refine zF ?_ | refine zE ?_ _)); refine blk_put (cs := #[.int .i64 0, .int .i64 0, .int .i64 0, .int .u8 0]) ?_ 0 _ rfl; (with_reducible repeat (first | refine zI ?_ _ | refine zF ?_ | refine zE ?_ _)); exact BK198.out))⟩; have n4_ : zA (Below w.heap.size w w18) := ⟨(by rw [hw]; exact (aL HB))⟩; clear hw; clear HO_9; clear BK192; clear BK193; clear BK198; clear HB; have HO_9 := n0_; have BK192 := n1_; have BK193 := n2_; have BK198 := n3_; have HB := n4_; clear n0_ n1_ n2_ n3_ n4_; obtain ⟨hcz19_0, hcz19_1, hcz19_2, hcz19_3, hfz19_0, hfz19_1, hfz19_2, hfz19_3⟩ := aC4 BK198) | ((with_reducible refine gate_builtin (b := .append) (xs := #[.tmp 19, .tmp 21]) rfl ?_); at_builtin; refine Kd.R_append k54 (w0 := w) w.heap.size rfl (.tmp 19) (.tmp 21) 37 54 (.agg #[(.int .i64 0), (.int .i64 0), (.int .i64 0), (.int .u8 0)]) 32 rfl Try.underlying37 info54 rfl (by decide) (by omega) u9 x9_1 (⟨t194, t195, t196, t197⟩ : S54) [.int .i64 t194, .int .i64 t195, .int .i64 t196, .int .u8 t197] (fun k_ => k_ ≠ gb198) (fun _ => False) rfl rfl ?aP (fun _ hk => hk.elim) ?aF ?aO ?aB ?aS ?aL ?_; (case aP => exact k54_mkM _ _ _ (⟨t194, t195, t196, t197⟩ : S54)); (case aB => exact (aL HB)); (case aF => exact (fun k_ hk => Kd.freshB (g := gb198) (o := .cells #[.int .i64 t194, .int .i64 t195, .int .i64 t196, .int .u8 t197] 54 (0, 0)) (aB BK198) k_ hk)); (case aO => exact (aR HO_9)); (case aS => exact (zH (aL HB))); (case aL => have := LMc9.out; omega); intro v200 w20 ho hb hg hat; rw [← Ny199.out] at ho; replace BK192 := zA.mk (blk_grown (g := gb192) (o := .cells #[.slice A0_0 l0_0.length c0_0, .slice A0_1 l0_1.length c0_1] 31 (0, 0)) (aB BK192) hg (Kd.R_ne HO_9.out BK192.out (by decide))); replace BK193 := zA.mk (blk_grown (g := gb193) (o := .cells #[.int .i64 a3_0, .int .i64 a3_1, .int .u8 a3_2, .int .i64 a3_3, .int .i64 a3_4, .float .f64 a3_5] 35 (0, 0)) (aB BK193) hg (Kd.R_ne HO_9.out BK193.out (by decide))); replace BK198 := zA.mk (blk_grown (g := gb198) (o := .cells #[.int .i64 t194, .int .i64 t195, .int .i64 t196, .int .u8 t197] 54 (0, 0)) (aB BK198) hg (Kd.R_away HO_9.out (fun _ hk => hk))); replace HB := zA.mk (hb); have HO201 := zA.mk (ho); clear HO_9; clear ho hb hg hat; obtain ⟨hcz21_0, hcz21_1, hcz21_2, hcz21_3, hfz21_0, hfz21_1, hfz21_2, hfz21_3⟩ := aC4 BK198))
  go_roundg k1
  case measure => have := HK1.out; omega
  case rel => exact ⟨(t195), (y199), aZ, H', ⟨by have := HK1.out; omega⟩, ⟨by (with_reducible repeat (first | apply Kd.zJ | apply Kd.zK | apply Kd.zL)); exact Kd.zV HO201.out (fun _ hk => trivial)⟩, ⟨aB BK192⟩, ⟨aB BK193⟩, ⟨aL HB⟩⟩
def ratio_Of.f (a0 : Int) (a1 : Int) : Option Nat := some (fop .quo (floatOfInt .f64 a0) (floatOfInt .f64 a1))
set_option maxHeartbeats 8000000 in
set_option maxRecDepth 100000 in
theorem ratio_Of.calls (a0 : Int) (a1 : Int) (r : Nat) (w : World) (h : ratio_Of.f a0 a1 = some r) :
  Calls Try.prog 50 #[.int .i64 a0, .int .i64 a1] w fun e w' => ∃ b_ : Nat, e = .returned (.float .f64 b_) ∧ Drawn0 w w' ∧ FR r b_ := by
 have hu3 : (Try.prog.underlying 3).isSome = true := by kernel_rfl
 have hu24 := Try.underlying24; obtain rfl := Option.some.inj h
 obtain ⟨b, m, hrun, hb⟩ := run_rough (P := Try.prog) w .quo (by simp) 24 (floatOfInt .f64 a0) (floatOfInt .f64 a1)
 go_enter Try.func50, Try.ntmps50
 go_wp2
 go_ret
 exact ⟨b, rfl, ⟨⟨m, rfl⟩⟩, fr_fop hb⟩
def ratio_Fits.f (a0 : Nat) (a1 : Nat) : Option Bool := some (!(FloatKind.f64.format.order a0 a1 == some .gt))
set_option maxHeartbeats 8000000 in
set_option maxRecDepth 100000 in
theorem ratio_Fits.calls (a0 : Nat) (a1 : Nat) (r : Bool) (w : World) (h : ratio_Fits.f a0 a1 = some r) {b0_ : Nat} (hf0_ : zA (FR a0 b0_) := by first | assumption | exact ⟨FR.same _⟩) {b1_ : Nat} (hf1_ : zA (FR a1 b1_) := by first | assumption | exact ⟨FR.same _⟩) :
  Calls Try.prog 51 #[.float .f64 b0_, .float .f64 b1_] w fun e w' => e = .returned (.bool r) ∧ Drawn0 w w' := by
 have hu24 := Try.underlying24; obtain rfl := Option.some.inj h
 go_enter Try.func51, Try.ntmps51
 go_wp2
 go_ret
 exact ⟨by rw [hf0_.out.order_l, hf1_.out.order_r]; rfl, Drawn0.refl _⟩
def absb (x : Nat) : Nat := (Go.bits .andNot .u64 (x : Int) 9223372036854775808).toNat
def cube (x : Nat) : Nat := fop .mul (fop .mul (fop .mul 4636737291354636288 (absb x)) (absb x)) (absb x)
def ratio_Badness.f (a0 : Nat) : Option Int := if isNan a0 = true then some 0 else if (FloatKind.f64.format.order (cube a0) 4666723172467343360 == some .lt) = true then floatToIntVal .f64 (cube a0) .i64 else some 10000
set_option maxHeartbeats 8000000 in
set_option maxRecDepth 100000 in
theorem ratio_Badness.calls (a0 : Nat) (r : Int) (w : World) (h : ratio_Badness.f a0 = some r) {b0_ : Nat} (hf0_ : zA (FR a0 b0_) := by first | assumption | exact ⟨FR.same _⟩) :
  Calls Try.prog 52 #[.float .f64 b0_] w fun e w' => e = .returned (.int .i64 r) ∧ Drawn0 w w' := by
 have hu24 := Try.underlying24; have hu3 := Try.underlying3; have hA : ∀ (b : Nat) (W : World), (callFunc 56 #[.float .f64 b]).run Try.prog W = .ok (.value (.int .u64 b)) W := fun b W => by rw [run_callFunc_extern (fn := Try.f56) (e := Extern.MathFloatBits.float64bits) (by kernel_rfl) (by kernel_rfl) (by kernel_rfl) (by rfl) (by rfl)]; rfl
 have hB : ∀ (b : Int) (W : World), (callFunc 59 #[.int .u64 b]).run Try.prog W = .ok (.value (.float .f64 b.toNat)) W := fun b W => by rw [run_callFunc_extern (fn := Try.f59) (e := Extern.MathFloatBits.float64frombits) (by kernel_rfl) (by kernel_rfl) (by kernel_rfl) (by rfl) (by rfl)]; rfl
 unfold ratio_Badness.f at h
 by_cases hx : isNan a0 = true
 ·rw [if_pos hx] at h
  obtain rfl := Option.some.inj h
  have ho := order_nan_l (b := b0_) (y := b0_) (by rw [← hf0_.out.nan]; exact hx)
  go_enter Try.func52, Try.ntmps52
  go_wp2
  go_ret
  exact ⟨rfl, Drawn0.refl _⟩
 rw [if_neg hx] at h; have hx' : isNan a0 = false := by simpa using hx
 obtain rfl := hf0_.out.eq_of hx'
 have ho := order_self hx'; obtain ⟨p1, m1, hr1, hp1⟩ := run_rough (P := Try.prog) w .mul (by simp) 24 4636737291354636288 (absb a0)
 obtain ⟨p2, m2, hr2, hp2⟩ := run_rough (P := Try.prog) (w.drewN m1) .mul (by simp) 24 p1 (absb a0)
 obtain ⟨p3, m3, hr3, hp3⟩ := run_rough (P := Try.prog) (w.drewN (m1 + m2)) .mul (by simp) 24 p2 (absb a0)
 have hc : FR (cube a0) p3 := ((fr_fop hp1).fop_l (fr_fop hp2)).fop_l (fr_fop hp3)
 have hd : Drawn0 w (w.drewN (m1 + m2 + m3)) := ⟨⟨_, rfl⟩⟩
 rw [← hc.order_l] at h; unfold absb at hr1 hr2 hr3
 by_cases hl : (FloatKind.f64.format.order p3 4666723172467343360 == some .lt) = true
 rotate_left
 ·rw [if_neg hl] at h
  obtain rfl := Option.some.inj h
  have hl' := Bool.eq_false_iff.mpr hl
  go_enter Try.func52, Try.ntmps52
  go_wp2
  go_ret
  exact ⟨rfl, hd⟩
 rw [if_pos hl] at h; have hn : isNan (cube a0) = false := by
  rcases Bool.eq_false_or_eq_true (isNan (cube a0)) with hh | hh
  ·rw [hc.order_l, order_nan_l hh] at hl; cases hl
  ·exact hh
 rw [hc.eq_of hn] at h; have hk := fun W => run_convert_float_int (P := Try.prog) W 24 3 .f64 .i64 p3 r (by kernel_rfl) hu3 h
 go_enter Try.func52, Try.ntmps52
 go_wp2
 go_ret
 exact ⟨rfl, hd⟩
def best_price.j0 : Nat → Int → Int → Int → List (S66) → List Int → Int → Int → Int → Int → Int → Nat → Option (Int × Bool)
 | 0, _, _, _, _, _, _, _, _, _, _, _ => none
 | k + 1, x1, x2, x16, x203000, x203001, x204000, x204001, x204002, x204003, x204004, x204005 => if x2 = 3 then (if 0 ≤ x1 then (if x1 < (x203001.length : Int) then (if (rd x203001 x1) = 3 then (some (wrap64 ((wrap64 ((wrap64 ((wrap64 (10 + x16)) * (wrap64 (10 + x16)))) + x204003)) + x204004), true)) else (some (wrap64 ((wrap64 ((wrap64 (10 + x16)) * (wrap64 (10 + x16)))) + x204003), true))) else (none)) else (none)) else (some (wrap64 ((wrap64 (10 + x16)) * (wrap64 (10 + x16))), true))
def best_price.f (k : Nat) (l0_0 : List (S66)) (l0_1 : List Int) (a1 : Int) (a2 : Int) (a3 : Int) (a4 : Int) (a5 : Bool) (a6_0 : Int) (a6_1 : Int) (a6_2 : Int) (a6_3 : Int) (a6_4 : Int) (a6_5 : Nat) : Option (Int × Bool) := if a3 > a6_0 then (some (0, false)) else (if a5 = true then (best_price.j0 k a1 a2 0 l0_0 l0_1 a6_0 a6_1 a6_2 a6_3 a6_4 a6_5) else ((ratio_Of.f (wrap64 (a6_0 - a3)) a4).bind fun t204 => ((ratio_Fits.f t204 a6_5).bind fun t205 => (if t205 = true then ((ratio_Badness.f t204).bind fun t206 => (best_price.j0 k a1 a2 t206 l0_0 l0_1 a6_0 a6_1 a6_2 a6_3 a6_4 a6_5)) else (some (0, false))))))
theorem best_price.mono_l : ∀ k, (∀ y0 y1 y2 y3 y4 y5 y6 y7 y8 y9 y10, LeO (best_price.j0 k y0 y1 y2 y3 y4 y5 y6 y7 y8 y9 y10) (best_price.j0 (k + 1) y0 y1 y2 y3 y4 y5 y6 y7 y8 y9 y10))
 | 0 => fun _ _ _ _ _ _ _ _ _ _ _ r h => by simp [best_price.j0] at h
 | k + 1 => by
  have ih0 := best_price.mono_l k
  ·intro y0 y1 y2 y3 y4 y5 y6 y7 y8 y9 y10
   unfold best_price.j0
   repeat' (with_reducible first | exact ih0 _ _ _ _ _ _ _ _ _ _ _ | exact LeO.refl _ | exact LeO.none _ | refine LeO.ite ?_ ?_ | refine LeO.bind ?_ (fun _ => ?_))
theorem best_price.mono : ∀ a0 a1 a2 a3 a4 a5 a6 a7 a8 a9 a10 a11 a12 k, LeO (best_price.f k a0 a1 a2 a3 a4 a5 a6 a7 a8 a9 a10 a11 a12) (best_price.f (k + 1) a0 a1 a2 a3 a4 a5 a6 a7 a8 a9 a10 a11 a12) := by
 intro a0 a1 a2 a3 a4 a5 a6 a7 a8 a9 a10 a11 a12 k
 have ih0 := best_price.mono_l k; unfold best_price.f
 repeat' (with_reducible first | exact ih0 _ _ _ _ _ _ _ _ _ _ _ | exact LeO.refl _ | exact LeO.none _ | refine LeO.ite ?_ ?_ | refine LeO.bind ?_ (fun _ => ?_))
set_option maxHeartbeats 8000000 in
set_option maxRecDepth 100000 in
theorem best_price.calls (k : Nat) (A0_0 : Option Addr) (c0_0 : Nat) (l0_0 : List (S66)) (A0_1 : Option Addr) (c0_1 : Nat) (l0_1 : List Int) (a1 : Int) (a2 : Int) (a3 : Int) (a4 : Int) (a5 : Bool) (a6_0 : Int) (a6_1 : Int) (a6_2 : Int) (a6_3 : Int) (a6_4 : Int) (a6_5 : Nat) (r1 : Int) (r2 : Bool) (w : World) (hr0_0 : Kd.C k66 w A0_0 l0_0.length l0_0) (hc0_0 : l0_0.length ≤ c0_0) (hr0_1 : Kd.C (Kd.int .u8) w A0_1 l0_1.length l0_1) (hc0_1 : l0_1.length ≤ c0_1) (h : best_price.f k l0_0 l0_1 a1 a2 a3 a4 a5 a6_0 a6_1 a6_2 a6_3 a6_4 a6_5 = some (r1, r2)) :
  Calls Try.prog 41 #[.agg #[.slice A0_0 l0_0.length c0_0, .slice A0_1 l0_1.length c0_1], .int .i64 a1, .int .u8 a2, .int .i64 a3, .int .i64 a4, .bool a5, .agg #[.int .i64 a6_0, .int .i64 a6_1, .int .u8 a6_2, .int .i64 a6_3, .int .i64 a6_4, .float .f64 a6_5]] w fun e w' => e = .returned (.tuple #[.int .i64 r1, .bool r2]) ∧ Below w.heap.size w w' := by
 have hu31 := Try.underlying31; have hu35 := Try.underlying35; have HR0_0 := zA.mk hr0_0; have HC0_0 := zA.mk hc0_0; clear hr0_0 hc0_0; have HR0_1 := zA.mk hr0_1; have HC0_1 := zA.mk hc0_1; clear hr0_1 hc0_1; have HB := zA.mk (Below.refl w.heap.size w); have H : (if a3 > a6_0 then (some (0, false)) else (if a5 = true then (best_price.j0 k a1 a2 0 l0_0 l0_1 a6_0 a6_1 a6_2 a6_3 a6_4 a6_5) else ((ratio_Of.f (wrap64 (a6_0 - a3)) a4).bind fun t204 => ((ratio_Fits.f t204 a6_5).bind fun t205 => (if t205 = true then ((ratio_Badness.f t204).bind fun t206 => (best_price.j0 k a1 a2 t206 l0_0 l0_1 a6_0 a6_1 a6_2 a6_3 a6_4 a6_5)) else (some (0, false))))))) = some (r1, r2) := h
 clear h; by_cases c8 : a3 > a6_0
 ·rw [if_pos c8] at H
  have c8b0 : decide (a6_0 < a3) = true := decide_eq_true c8
  clear c8; simp only [Option.some.injEq, Prod.mk.injEq] at H; obtain ⟨rfl, rfl⟩ := H; go_enter Try.func41, Try.ntmps41
  go_wp2_with (first | ((with_reducible refine gate_dst (N := 7) rfl ?_); refine box_event ?hg (N := 7) ?hd (cs := #[.slice A0_0 l0_0.length c0_0, .slice A0_1 l0_1.length c0_1]) (t := 31) ?hr ?_; (case hd => rfl); (case hg => rfl); (case hr => first | (go_simp; done) | (go_simp; rfl)); intro gb202 hg w9 hbox hb; have BK202 := zA.mk (hbox); have GW202 := zA.mk ((by rw [hg]; exact (zH (aL HB)) : w.heap.size ≤ gb202)); replace HB := zA.mk (zD (aL HB) hb); have GE202 := GW202; clear hb hbox hg) | ((with_reducible refine gate_dst (N := 13) rfl ?_); refine box_event ?hg (N := 13) ?hd (cs := #[.int .i64 a6_0, .int .i64 a6_1, .int .u8 a6_2, .int .i64 a6_3, .int .i64 a6_4, .float .f64 a6_5]) (t := 35) ?hr ?_; (case hd => rfl); (case hg => rfl); (case hr => first | (go_simp; done) | (go_simp; rfl)); intro gb203 hg w10 hbox hb; have BK203 := zA.mk (hbox); have GW203 := zA.mk ((by rw [hg]; exact (zH (aL HB)) : w.heap.size ≤ gb203)); replace HB := zA.mk (zD (aL HB) hb); have GE203 := GW203; have NB202_203 := zA.mk ((by rw [hg]; exact Nat.ne_of_lt (blk_lt (aB BK202)) : gb202 ≠ gb203)); have NB203_202 := zA.mk ((by rw [hg]; exact Nat.ne_of_gt (blk_lt (g := gb202) (o := .cells #[.slice A0_0 l0_0.length c0_0, .slice A0_1 l0_1.length c0_1] 31 (0, 0)) (aB BK202)) : gb203 ≠ gb202)); replace BK202 := zA.mk (zC (aB BK202) hb); clear hb hbox hg; have hnb11 := NB203_202.out; have hnc11 := NB202_203.out; obtain ⟨hcz12_0, hcz12_1, hcz12_2, hcz12_3, hcz12_4, hcz12_5, hfz12_0, hfz12_1, hfz12_2, hfz12_3, hfz12_4, hfz12_5⟩ := aC6 BK203))
  go_ret2
  exact ⟨aX, aL HB⟩
 rw [if_neg c8] at H; have c8b0 : decide (a6_0 < a3) = false := decide_eq_false c8
 clear c8; have HC13 := zA.mk H; clear H; go_enter Try.func41, Try.ntmps41
 go_upto_if 24 with (first | ((with_reducible refine gate_dst (N := 7) rfl ?_); refine box_event ?hg (N := 7) ?hd (cs := #[.slice A0_0 l0_0.length c0_0, .slice A0_1 l0_1.length c0_1]) (t := 31) ?hr ?_; (case hd => rfl); (case hg => rfl); (case hr => first | (go_simp; done) | (go_simp; rfl)); intro gb202 hg w14 hbox hb; have BK202 := zA.mk (hbox); have GW202 := zA.mk ((by rw [hg]; exact (zH (aL HB)) : w.heap.size ≤ gb202)); replace HB := zA.mk (zD (aL HB) hb); have GE202 := GW202; clear hb hbox hg) | ((with_reducible refine gate_dst (N := 13) rfl ?_); refine box_event ?hg (N := 13) ?hd (cs := #[.int .i64 a6_0, .int .i64 a6_1, .int .u8 a6_2, .int .i64 a6_3, .int .i64 a6_4, .float .f64 a6_5]) (t := 35) ?hr ?_; (case hd => rfl); (case hg => rfl); (case hr => first | (go_simp; done) | (go_simp; rfl)); intro gb203 hg w15 hbox hb; have BK203 := zA.mk (hbox); have GW203 := zA.mk ((by rw [hg]; exact (zH (aL HB)) : w.heap.size ≤ gb203)); replace HB := zA.mk (zD (aL HB) hb); have GE203 := GW203; have NB202_203 := zA.mk ((by rw [hg]; exact Nat.ne_of_lt (blk_lt (aB BK202)) : gb202 ≠ gb203)); have NB203_202 := zA.mk ((by rw [hg]; exact Nat.ne_of_gt (blk_lt (g := gb202) (o := .cells #[.slice A0_0 l0_0.length c0_0, .slice A0_1 l0_1.length c0_1] 31 (0, 0)) (aB BK202)) : gb203 ≠ gb202)); replace BK202 := zA.mk (zC (aB BK202) hb); clear hb hbox hg; have hnb16 := NB203_202.out; have hnc16 := NB202_203.out; obtain ⟨hcz17_0, hcz17_1, hcz17_2, hcz17_3, hcz17_4, hcz17_5, hfz17_0, hfz17_1, hfz17_2, hfz17_3, hfz17_4, hfz17_5⟩ := aC6 BK203))
 (try simp only [Act.put, sA_, sB_, sC_])
 go_cut [16] (fun v16 wc => ∃ (kq : Nat) (x16_12 : Int), v16 = .int .i64 x16_12 ∧ zA (best_price.j0 kq a1 a2 x16_12 l0_0 l0_1 a6_0 a6_1 a6_2 a6_3 a6_4 a6_5 = some (r1, r2)) ∧ zA (kq ≤ k) ∧ zA (wc.heap[gb202]? = some (.cells #[(.slice A0_0 l0_0.length c0_0), (.slice A0_1 l0_1.length c0_1)] 31 (0, 0))) ∧ zA (wc.heap[gb203]? = some (.cells #[.int .i64 a6_0, .int .i64 a6_1, .int .u8 a6_2, .int .i64 a6_3, .int .i64 a6_4, .float .f64 a6_5] 35 (0, 0))) ∧ zA (Below w.heap.size w wc))
 case first =>
  have H := HC13.out; clear HC13; by_cases c18 : a5 = true
  ·subst c18
   have H1 : (best_price.j0 k a1 a2 0 l0_0 l0_1 a6_0 a6_1 a6_2 a6_3 a6_4 a6_5) = some (r1, r2) := by rw [if_pos rfl] at H; exact H
   clear H; have H := H1; clear H1; have H' := zA.mk H
   clear H; go_wp2
   go_meet
   case rel => exact ⟨_, (0), aZ, H', ⟨by first | omega | exact Nat.le_refl _⟩, ⟨aB BK202⟩, ⟨aB BK203⟩, ⟨aL HB⟩⟩
  replace c18 := Bool.eq_false_iff.mpr c18; subst c18; have H1 : ((ratio_Of.f (wrap64 (a6_0 - a3)) a4).bind fun t204 => ((ratio_Fits.f t204 a6_5).bind fun t205 => (if t205 = true then ((ratio_Badness.f t204).bind fun t206 => (best_price.j0 k a1 a2 t206 l0_0 l0_1 a6_0 a6_1 a6_2 a6_3 a6_4 a6_5)) else (some (0, false))))) = some (r1, r2) := by rw [if_neg (show ¬ (false = true) by decide)] at H; exact H
  clear H; have H := H1; clear H1; replace H := Option.bind_eq_some_iff.mp H; obtain ⟨t204, A190, H⟩ := H; replace H : ((ratio_Fits.f t204 a6_5).bind fun t205 => (if t205 = true then ((ratio_Badness.f t204).bind fun t206 => (best_price.j0 k a1 a2 t206 l0_0 l0_1 a6_0 a6_1 a6_2 a6_3 a6_4 a6_5)) else (some (0, false)))) = some (r1, r2) := H
  have A19 := zA.mk A190; clear A190; replace H := Option.bind_eq_some_iff.mp H; obtain ⟨t205, A200, H⟩ := H; replace H : (if t205 = true then ((ratio_Badness.f t204).bind fun t206 => (best_price.j0 k a1 a2 t206 l0_0 l0_1 a6_0 a6_1 a6_2 a6_3 a6_4 a6_5)) else (some (0, false))) = some (r1, r2) := H
  have A20 := zA.mk A200; clear A200; by_cases c21 : t205 = true
  rotate_left
  ·replace c21 := Bool.eq_false_iff.mpr c21
   subst c21; have H1 : (some (0, false)) = some (r1, r2) := by rw [if_neg (show ¬ (false = true) by decide)] at H; exact H
   clear H; have H := H1; clear H1; simp only [Option.some.injEq, Prod.mk.injEq] at H; obtain ⟨rfl, rfl⟩ := H; have hnb25 := NB203_202.out; have hnc25 := NB202_203.out; obtain ⟨hcz26_0, hcz26_1, hcz26_2, hcz26_3, hcz26_4, hcz26_5, hfz26_0, hfz26_1, hfz26_2, hfz26_3, hfz26_4, hfz26_5⟩ := aC6 BK203; go_wp2_with (first | ((with_reducible refine gate_callee (f := 50) rfl ?_); refine goesL_ (some 30) rfl rfl Try.func50 (by kernel_rfl) rfl #[.int .i64 (wrap64 (a6_0 - a3)), .int .i64 a4] rfl aT ?_; (with_reducible refine (ratio_Of.calls (wrap64 (a6_0 - a3)) a4 t204 _ A19.out).mono ?_); rintro e w' ⟨bt_t204, rfl, ⟨nd, rfl⟩, hfr_⟩; have HF_t204 := zA.mk hfr_; clear hfr_; refine ⟨_, rfl, ?_⟩) | ((with_reducible refine gate_callee (f := 51) rfl ?_); refine goesL_ (some 34) rfl rfl Try.func51 (by kernel_rfl) rfl #[.float .f64 bt_t204, .float .f64 a6_5] rfl aT ?_; (with_reducible refine (ratio_Fits.calls t204 a6_5 false _ A20.out).mono ?_); rintro e w' ⟨rfl, ⟨nd, rfl⟩⟩; refine ⟨_, rfl, ?_⟩))
   go_ret2
   exact ⟨aX, aL HB⟩
  subst c21; have H1 : ((ratio_Badness.f t204).bind fun t206 => (best_price.j0 k a1 a2 t206 l0_0 l0_1 a6_0 a6_1 a6_2 a6_3 a6_4 a6_5)) = some (r1, r2) := by rw [if_pos rfl] at H; exact H
  clear H; have H := H1; clear H1; replace H := Option.bind_eq_some_iff.mp H; obtain ⟨t206, A220, H⟩ := H; replace H : (best_price.j0 k a1 a2 t206 l0_0 l0_1 a6_0 a6_1 a6_2 a6_3 a6_4 a6_5) = some (r1, r2) := H; have A22 := zA.mk A220; clear A220; have H' := zA.mk H
  clear H; have hnb23 := NB203_202.out; have hnc23 := NB202_203.out; obtain ⟨hcz24_0, hcz24_1, hcz24_2, hcz24_3, hcz24_4, hcz24_5, hfz24_0, hfz24_1, hfz24_2, hfz24_3, hfz24_4, hfz24_5⟩ := aC6 BK203; go_wp2_with (first | ((with_reducible refine gate_callee (f := 50) rfl ?_); refine goesL_ (some 30) rfl rfl Try.func50 (by kernel_rfl) rfl #[.int .i64 (wrap64 (a6_0 - a3)), .int .i64 a4] rfl aT ?_; (with_reducible refine (ratio_Of.calls (wrap64 (a6_0 - a3)) a4 t204 _ A19.out).mono ?_); rintro e w' ⟨bt_t204, rfl, ⟨nd, rfl⟩, hfr_⟩; have HF_t204 := zA.mk hfr_; clear hfr_; refine ⟨_, rfl, ?_⟩) | ((with_reducible refine gate_callee (f := 51) rfl ?_); refine goesL_ (some 34) rfl rfl Try.func51 (by kernel_rfl) rfl #[.float .f64 bt_t204, .float .f64 a6_5] rfl aT ?_; (with_reducible refine (ratio_Fits.calls t204 a6_5 true _ A20.out).mono ?_); rintro e w' ⟨rfl, ⟨nd, rfl⟩⟩; refine ⟨_, rfl, ?_⟩) | ((with_reducible refine gate_callee (f := 52) rfl ?_); refine goesL_ (some 37) rfl rfl Try.func52 (by kernel_rfl) rfl #[.float .f64 bt_t204] rfl aT ?_; (with_reducible refine (ratio_Badness.calls t204 t206 _ A22.out).mono ?_); rintro e w' ⟨rfl, ⟨nd, rfl⟩⟩; refine ⟨_, rfl, ?_⟩))
  go_meet
  case rel => exact ⟨_, (t206), aZ, H', ⟨by first | omega | exact Nat.le_refl _⟩, ⟨aB BK202⟩, ⟨aB BK203⟩, ⟨aL HB⟩⟩
 clear HC13; obtain ⟨kq, x16_12, rfl, HA, HJ12, BK202, BK203, HB⟩ := hcut; cases kq with
 | zero => exact absurd HA.out (by simp [best_price.j0])
 | succ kj12 =>
  have H := HA.out; clear HA; simp only [best_price.j0] at H; by_cases c27 : a2 = 3
  rotate_left
  ·rw [if_neg c27] at H
   have c27b0 : (a2 == 3) = false := beq_eq_false_iff_ne.mpr c27
   have c27b1 : (a2 != 3) = true := bne_iff_ne.mpr c27
   simp only [Option.some.injEq, Prod.mk.injEq] at H; obtain ⟨rfl, rfl⟩ := H; go_wp2
   go_ret2
   exact ⟨aX, aL HB⟩
  rw [if_pos c27] at H; have c27b0 : (a2 == 3) = true := beq_iff_eq.mpr c27
  have c27b1 : (a2 != 3) = false := bne_eq_false_iff_eq.mpr c27
  clear c27; by_cases c28 : 0 ≤ a1
  rotate_left
  ·rw [if_neg c28] at H
   exact absurd H (by simp)
  rw [if_pos c28] at H; have c28b0 : decide (0 ≤ a1) = true := decide_eq_true c28
  clear c28; by_cases c29 : a1 < (l0_1.length : Int)
  rotate_left
  ·rw [if_neg c29] at H
   exact absurd H (by simp)
  rw [if_pos c29] at H; have c29b0 : decide (a1 < (l0_1.length : Int)) = true := decide_eq_true c29
  clear c29; by_cases c30 : (rd l0_1 a1) = 3
  ·rw [if_pos c30] at H
   have c30b0 : ((rd l0_1 a1) == 3) = true := beq_iff_eq.mpr c30
   have c30b1 : ((rd l0_1 a1) != 3) = false := bne_eq_false_iff_eq.mpr c30
   clear c30; simp only [Option.some.injEq, Prod.mk.injEq] at H; obtain ⟨rfl, rfl⟩ := H; have hnb31 := NB203_202.out; have hnc31 := NB202_203.out; obtain ⟨hcz32_0, hcz32_1, hcz32_2, hcz32_3, hcz32_4, hcz32_5, hfz32_0, hfz32_1, hfz32_2, hfz32_3, hfz32_4, hfz32_5⟩ := aC6 BK203; obtain ⟨hcz33_0, hcz33_1, hfz33_0, hfz33_1⟩ := aC2 BK202; have p207 : 0 ≤ (a1 : Int) := aD
   have q207 : a1 < (l0_1.length : Int) := aD
   obtain ⟨ad207, e207, hx207_0⟩ := Kd.at_int HR0_1.out a1 p207 q207; cases e207
   replace hx207_0 := (HB.out.cell (World.block_lt_of_cell? w _ hx207_0)).trans hx207_0; replace p207 := eq_true p207; replace q207 := eq_true q207; go_wp2
   go_ret2
   exact ⟨aX, aL HB⟩
  rw [if_neg c30] at H; have c30b0 : ((rd l0_1 a1) == 3) = false := beq_eq_false_iff_ne.mpr c30
  have c30b1 : ((rd l0_1 a1) != 3) = true := bne_iff_ne.mpr c30
  simp only [Option.some.injEq, Prod.mk.injEq] at H; obtain ⟨rfl, rfl⟩ := H; have hnb34 := NB203_202.out; have hnc34 := NB202_203.out; obtain ⟨hcz35_0, hcz35_1, hcz35_2, hcz35_3, hcz35_4, hcz35_5, hfz35_0, hfz35_1, hfz35_2, hfz35_3, hfz35_4, hfz35_5⟩ := aC6 BK203; obtain ⟨hcz36_0, hcz36_1, hfz36_0, hfz36_1⟩ := aC2 BK202; have p207 : 0 ≤ (a1 : Int) := aD
  have q207 : a1 < (l0_1.length : Int) := aD
  obtain ⟨ad207, e207, hx207_0⟩ := Kd.at_int HR0_1.out a1 p207 q207; cases e207
  replace hx207_0 := (HB.out.cell (World.block_lt_of_cell? w _ hx207_0)).trans hx207_0; replace p207 := eq_true p207; replace q207 := eq_true q207; go_wp2
  go_ret2
  exact ⟨aX, aL HB⟩
end Go.Proofs.Ytcnblneghbgjgaa.F
end
