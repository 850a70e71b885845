/- Printed by a program: Lean functions that answer as the Go functions do, and the proofs of it. -/
import Derived.Test.YtmpnnpibpodmkaaProg
import Derived.Below
import Derived.Deep.Draws
import Derived.Deep.AppendLies
import Derived.Maps.AppendAt
import Derived.OwnWalk
import Derived.Laws.BytesArg
import Derived.Laws.MakeOwn
import Derived.Laws.OwnMore
import Derived.Deep.OwnRows
import Derived.Tactics
import Derived.Lib.ConvBytes
import Derived.Laws.Slices
import Derived.WalkKit
import Derived.KernelRfl
import Derived.RowKit3
import Derived.Deep.LoopGhost
import Derived.Deep.QuietTactic
import Derived.BigQuiet
import Derived.WideLaws
import Derived.Deep.DeepCutAuto
import Derived.Deep.CutBlock
import Derived.Deep.RegionHeld3
import Derived.Laws.Rows
import Derived.Lib.AppendStr
import Derived.ArgAppend
import Derived.Laws.IdiomCopy
import Derived.OrdersHeld
import Derived.Laws.BitsLemmas
import Derived.RowKit
import Derived.Laws.FloatArith
import Derived.Laws.CopyOwn
import Derived.Deep.RegionLaw
import Derived.Laws.MathBits
import Derived.Test.YtmpnnpibpodmkaaXRatioWhole0
section
namespace Go.Proofs.Ytmpnnpibpodmkaa.F
open Go.RowKit Go.Proofs.YtmpnnpibpodmkaaW.PrintWords Go.Proofs.YtmpnnpibpodmkaaW.PrintLast Go.Proofs.YtmpnnpibpodmkaaW.PrintMore
attribute [local go_sem] max2_int min2_int max_two min_two max_three min_three max_four min_four   -- for this text's walks alone
set_option linter.unusedVariables false
set_option linter.unusedSimpArgs false
def errW : Option Int → Value
 | none => .nilIface
 | some c => .iface 0 (.int .i64 c)
theorem errW_none : errW none = .nilIface := rfl
theorem errW_some (c : Int) : errW (some c) = .iface 0 (.int .i64 c) := rfl
theorem info28 : (Try.prog.info? 28).map (fun i => (i.zero, i.size, i.bytes)) = some (some (.agg #[(.float .f64 0), (.float .f64 0), (.float .f64 0)]), 3, 24) := by kernel_rfl
structure S28 where
 f0 : Nat
 f1 : Nat
 f2 : Nat
def z28 : S28 := ⟨(0 : Nat), (0 : Nat), (0 : Nat)⟩
def k28 : Kd S28 := Kd.iso (Kd.pair Kd.f64 (Kd.pair Kd.f64 Kd.f64)) (fun x : S28 => (x.f0, x.f1, x.f2))
theorem k28_open {w : World} {x : S28} {cs : List Value} (h : k28.K w x cs) : cs = [.float .f64 x.f0, .float .f64 x.f1, .float .f64 x.f2] := by
 obtain ⟨_, _, rfl, rfl, ⟨_, _, rfl, rfl, rfl⟩⟩ := h; exact rfl
theorem k28_openM {w : World} {base : Nat} {ok : Nat → Prop} {x : S28} {cs : List Value} (h : k28.M w base ok x cs) : cs = [.float .f64 x.f0, .float .f64 x.f1, .float .f64 x.f2] := by
 obtain ⟨_, _, rfl, rfl, ⟨_, _, rfl, rfl, rfl⟩⟩ := h; exact rfl
theorem k28_mk (w : World) (x : S28)  : k28.K w x [.float .f64 x.f0, .float .f64 x.f1, .float .f64 x.f2] := ⟨[.float .f64 x.f0], [.float .f64 x.f1, .float .f64 x.f2], rfl, rfl, ⟨[.float .f64 x.f1], [.float .f64 x.f2], rfl, rfl, rfl⟩⟩
theorem k28_mkM (w : World) (base : Nat) (ok : Nat → Prop) (x : S28)  : k28.M w base ok x [.float .f64 x.f0, .float .f64 x.f1, .float .f64 x.f2] := ⟨[.float .f64 x.f0], [.float .f64 x.f1, .float .f64 x.f2], rfl, rfl, ⟨[.float .f64 x.f1], [.float .f64 x.f2], rfl, rfl, rfl⟩⟩
def rd_T28 (xs : List S28) (i : Int) : S28 := xs.getD i.toNat z28
theorem at_T28 {w : World} {A : Option Addr} {n : Nat} {xs : List S28} (h : Kd.C k28 w A n xs) (i : Int) (h0 : 0 ≤ i) (h1 : i < n) : ∃ ad , A = some ad ∧ w.cell? (ad.add (i.toNat * 3)) = some (.float .f64 (rd_T28 xs i).f0) ∧ w.cell? ⟨(ad.add (i.toNat * 3)).block, (ad.add (i.toNat * 3)).off + 1, none⟩ = some (.float .f64 (rd_T28 xs i).f1) ∧ w.cell? ⟨(ad.add (i.toNat * 3)).block, (ad.add (i.toNat * 3)).off + 2, none⟩ = some (.float .f64 (rd_T28 xs i).f2) := by
 obtain ⟨ad, c, e, _, hK, hc0⟩ := Kd.C_get h z28 i h0 h1; have hc : ∀ j u, c[j]? = some u → w.cell? (ad.add (i.toNat * 3 + j)) = some u := hc0
 obtain rfl := k28_open hK
 exact ⟨ad, e, hc 0 _ rfl, by rw [← add_field _ _ 1 (by omega)]; exact hc 1 _ rfl, by rw [← add_field _ _ 2 (by omega)]; exact hc 2 _ rfl⟩
def math_IsNaN.f (a0 : Nat) : Option Bool := some (isNan a0)
set_option maxHeartbeats 8000000 in
set_option maxRecDepth 100000 in
theorem math_IsNaN.calls (a0 : Nat) (r : Bool) (w : World) (h : math_IsNaN.f a0 = some r) {b0_ : Nat} (hf0_ : Aside0 (FR a0 b0_) := by first | assumption | exact ⟨FR.same _⟩) :
  Calls Try.prog 31 #[.float .f64 b0_] w fun e w' => e = .returned (.bool r) ∧ Drawn0 w w' := by
 have hu := Try.underlying22; obtain rfl := Option.some.inj h
 rw [hf0_.out.nan]; by_cases hx : isNan b0_ = true
 ·have ho := order_nan_l (b := b0_) (y := b0_) hx
  go_enter Try.func31, Try.ntmps31
  go_wp2
  go_ret
  exact ⟨by rw [hx]; rfl, Drawn0.refl _⟩
 have hx' : isNan b0_ = false := by simpa using hx
 have ho := order_self hx'; go_enter Try.func31, Try.ntmps31
 go_wp2
 go_ret
 exact ⟨by rw [hx']; rfl, Drawn0.refl _⟩
def ratio_truth.f (a0 : Bool) : Option (Int) := if a0 = true then (some 1) else (some 0)
set_option maxHeartbeats 8000000 in
set_option maxRecDepth 100000 in
theorem ratio_truth.calls (a0 : Bool) (r : Int) (w : World) (h : ratio_truth.f a0 = some r) :
  Calls Try.prog 32 #[.bool a0] w fun e w' => e = .returned (.int .i64 r) ∧ Drawn0 w w' := by
 have H : (if a0 = true then (some 1) else (some 0)) = some r := h
 clear h; by_cases c2 : a0 = true
 ·subst c2
  have H1 : (some 1) = some r := by rw [if_pos rfl] at H; exact H
  clear H; have H := H1; clear H1; obtain rfl := Option.some.inj H
  go_enter Try.func32, Try.ntmps32
  go_wp2
  go_ret
  exact ⟨by first | rfl | (simp; done) | (simp [*]; done), by repeat (first | exact Drawn0.refl _ | apply Drawn0.step)⟩
 replace c2 := Bool.eq_false_iff.mpr c2; subst c2; have H1 : (some 0) = some r := by rw [if_neg (show ¬ (false = true) by decide)] at H; exact H
 clear H; have H := H1; clear H1; obtain rfl := Option.some.inj H
 go_enter Try.func32, Try.ntmps32
 go_wp2
 go_ret
 exact ⟨by first | rfl | (simp; done) | (simp [*]; done), by repeat (first | exact Drawn0.refl _ | apply Drawn0.step)⟩
def math_Signbit.f (a0 : Nat) : Option Bool := some (decide (wrap64 (a0 : Int) < 0))
set_option maxHeartbeats 8000000 in
set_option maxRecDepth 100000 in
theorem math_Signbit.calls (a0 : Nat) (r : Bool) (w : World) (h : math_Signbit.f a0 = some r) :
  Calls Try.prog 33 #[.float .f64 a0] w fun e w' => e = .returned (.bool r) ∧ Drawn0 w w' := by
 have hu := Try.underlying22; have hu2 := Try.underlying12; have hA : ∀ (b : Nat) (W : World), (callFunc 37 #[.float .f64 b]).run Try.prog W = .ok (.value (.int .u64 b)) W := fun b W => by rw [run_callFunc_extern (fn := Try.f37) (e := Extern.MathFloatBits.float64bits) (by kernel_rfl) (by kernel_rfl) (by kernel_rfl) (by rfl) (by rfl)]; rfl
 obtain rfl := Option.some.inj h
 go_enter Try.func33, Try.ntmps33
 go_wp2
 go_ret
 exact ⟨rfl, Drawn0.refl _⟩
def ratio_Order.j0 : Nat → Nat → Nat → Bool → Option (Int)
 | 0, _, _, _ => none
 | k + 1, x0, x1, x5 => if x5 = true then ((math_IsNaN.f x1).bind fun t103 => ((ratio_truth.f t103).bind fun t104 => ((math_IsNaN.f x0).bind fun t105 => ((ratio_truth.f t105).bind fun t106 => (some (wrap64 (t104 - t106))))))) else (if (FloatKind.f64.format.order x0 x1 == some .lt) = true then (some (-1)) else (if (FloatKind.f64.format.order x0 x1 == some .gt) = true then (some 1) else ((math_Signbit.f x1).bind fun t107 => ((ratio_truth.f t107).bind fun t108 => ((math_Signbit.f x0).bind fun t109 => ((ratio_truth.f t109).bind fun t110 => (some (wrap64 (t108 - t110)))))))))
def ratio_Order.f (k : Nat) (a0 : Nat) (a1 : Nat) : Option (Int) := (math_IsNaN.f a0).bind fun t101 => (if t101 = true then (ratio_Order.j0 k a0 a1 true) else ((math_IsNaN.f a1).bind fun t102 => (ratio_Order.j0 k a0 a1 t102)))
theorem ratio_Order.mono_l : ∀ k, (∀ y0 y1 y2, LeO (ratio_Order.j0 k y0 y1 y2) (ratio_Order.j0 (k + 1) y0 y1 y2))
 | 0 => fun _ _ _ r h => by simp [ratio_Order.j0] at h
 | k + 1 => by
  have ih0 := ratio_Order.mono_l k
  ·intro y0 y1 y2
   unfold ratio_Order.j0
   repeat' (with_reducible first | exact ih0 _ _ _ | exact LeO.refl _ | exact LeO.none _ | refine LeO.ite ?_ ?_ | refine LeO.bind ?_ (fun _ => ?_))
theorem ratio_Order.mono : ∀ a0 a1 k, LeO (ratio_Order.f k a0 a1) (ratio_Order.f (k + 1) a0 a1) := by
 intro a0 a1 k
 have ih0 := ratio_Order.mono_l k; unfold ratio_Order.f
 repeat' (with_reducible first | exact ih0 _ _ _ | exact LeO.refl _ | exact LeO.none _ | refine LeO.ite ?_ ?_ | refine LeO.bind ?_ (fun _ => ?_))
set_option maxHeartbeats 8000000 in
set_option maxRecDepth 100000 in
theorem ratio_Order.calls (k : Nat) (a0 : Nat) (a1 : Nat) (r : Int) (w : World) (h : ratio_Order.f k a0 a1 = some r) :
  Calls Try.prog 12 #[.float .f64 a0, .float .f64 a1] w fun e w' => e = .returned (.int .i64 r) ∧ Drawn0 w w' := by
 have H : ((math_IsNaN.f a0).bind fun t101 => (if t101 = true then (ratio_Order.j0 k a0 a1 true) else ((math_IsNaN.f a1).bind fun t102 => (ratio_Order.j0 k a0 a1 t102)))) = some r := h
 clear h; have HC3 := Aside0.mk H; clear H; go_enter Try.func12, Try.ntmps12
 go_upto_region 1 with (fail)
 go_cut [5] (fun v5 wc => ∃ (kq : Nat) (x5_2 : Bool), v5 = .bool x5_2 ∧ Aside0 (ratio_Order.j0 kq a0 a1 x5_2 = some r) ∧ Aside0 (kq ≤ k) ∧ Drawn0 w wc)
 case first =>
  have H := HC3.out; clear HC3; replace H := Option.bind_eq_some_iff.mp H; obtain ⟨t101, A40, H⟩ := H; replace H : (if t101 = true then (ratio_Order.j0 k a0 a1 true) else ((math_IsNaN.f a1).bind fun t102 => (ratio_Order.j0 k a0 a1 t102))) = some r := H
  have A4 := Aside0.mk A40; clear A40; by_cases c5 : t101 = true
  ·subst c5
   have H1 : (ratio_Order.j0 k a0 a1 true) = some r := by rw [if_pos rfl] at H; exact H
   clear H; have H := H1; clear H1; have H' := Aside0.mk H
   clear H; go_wp2_with (first | ((with_reducible refine gate_callee (f := 31) rfl ?_); refine goesL_ (some 7) rfl rfl Try.func31 (by kernel_rfl) rfl #[.float .f64 a0] rfl aT ?_; (with_reducible refine (math_IsNaN.calls a0 true _ A4.out).mono ?_); rintro e w' ⟨rfl, ⟨nd, rfl⟩⟩; refine ⟨_, rfl, ?_⟩))
   go_meet
   case rel => exact ⟨_, (true), aZ, H', ⟨by first | omega | exact Nat.le_refl _⟩, by repeat (first | exact Drawn0.refl _ | apply Drawn0.step)⟩
  replace c5 := Bool.eq_false_iff.mpr c5; subst c5; have H1 : ((math_IsNaN.f a1).bind fun t102 => (ratio_Order.j0 k a0 a1 t102)) = some r := by rw [if_neg (show ¬ (false = true) by decide)] at H; exact H
  clear H; have H := H1; clear H1; replace H := Option.bind_eq_some_iff.mp H; obtain ⟨t102, A60, H⟩ := H; replace H : (ratio_Order.j0 k a0 a1 t102) = some r := H; have A6 := Aside0.mk A60; clear A60; have H' := Aside0.mk H
  clear H; go_wp2_with (first | ((with_reducible refine gate_callee (f := 31) rfl ?_); refine goesL_ (some 7) rfl rfl Try.func31 (by kernel_rfl) rfl #[.float .f64 a0] rfl aT ?_; (with_reducible refine (math_IsNaN.calls a0 false _ A4.out).mono ?_); rintro e w' ⟨rfl, ⟨nd, rfl⟩⟩; refine ⟨_, rfl, ?_⟩) | (go_at_call 31; (with_reducible refine (math_IsNaN.calls a1 t102 _ A6.out).mono ?_); rintro e w' ⟨rfl, ⟨nd, rfl⟩⟩))
  go_meet
  case rel => exact ⟨_, (t102), aZ, H', ⟨by first | omega | exact Nat.le_refl _⟩, by repeat (first | exact Drawn0.refl _ | apply Drawn0.step)⟩
 clear HC3; obtain ⟨kq, x5_2, rfl, HA, HJ2, ⟨mc2, rfl⟩⟩ := hcut; cases kq with
 | zero => exact absurd HA.out (by simp [ratio_Order.j0])
 | succ kj2 =>
  have H := HA.out; clear HA; simp only [ratio_Order.j0] at H; by_cases c7 : x5_2 = true
  ·subst c7
   have H1 : ((math_IsNaN.f a1).bind fun t103 => ((ratio_truth.f t103).bind fun t104 => ((math_IsNaN.f a0).bind fun t105 => ((ratio_truth.f t105).bind fun t106 => (some (wrap64 (t104 - t106))))))) = some r := by rw [if_pos rfl] at H; exact H
   clear H; have H := H1; clear H1; replace H := Option.bind_eq_some_iff.mp H; obtain ⟨t103, A80, H⟩ := H; replace H : ((ratio_truth.f t103).bind fun t104 => ((math_IsNaN.f a0).bind fun t105 => ((ratio_truth.f t105).bind fun t106 => (some (wrap64 (t104 - t106)))))) = some r := H
   have A8 := Aside0.mk A80; clear A80; replace H := Option.bind_eq_some_iff.mp H; obtain ⟨t104, A90, H⟩ := H; replace H : ((math_IsNaN.f a0).bind fun t105 => ((ratio_truth.f t105).bind fun t106 => (some (wrap64 (t104 - t106))))) = some r := H
   have A9 := Aside0.mk A90; clear A90; replace H := Option.bind_eq_some_iff.mp H; obtain ⟨t105, A100, H⟩ := H; replace H : ((ratio_truth.f t105).bind fun t106 => (some (wrap64 (t104 - t106)))) = some r := H
   have A10 := Aside0.mk A100; clear A100; replace H := Option.bind_eq_some_iff.mp H; obtain ⟨t106, A110, H⟩ := H; replace H : (some (wrap64 (t104 - t106))) = some r := H; have A11 := Aside0.mk A110; clear A110; obtain rfl := Option.some.inj H
   go_wp2_with (first | ((with_reducible refine gate_callee (f := 31) rfl ?_); refine goesL_ (some 13) rfl rfl Try.func31 (by kernel_rfl) rfl #[.float .f64 a1] rfl aT ?_; (with_reducible refine (math_IsNaN.calls a1 t103 _ A8.out).mono ?_); rintro e w' ⟨rfl, ⟨nd, rfl⟩⟩; refine ⟨_, rfl, ?_⟩) | ((with_reducible refine gate_callee (f := 32) rfl ?_); refine goesL_ (some 14) rfl rfl Try.func32 (by kernel_rfl) rfl #[.bool t103] rfl aT ?_; (with_reducible refine (ratio_truth.calls t103 t104 _ A9.out).mono ?_); rintro e w' ⟨rfl, ⟨nd, rfl⟩⟩; refine ⟨_, rfl, ?_⟩) | ((with_reducible refine gate_callee (f := 31) rfl ?_); refine goesL_ (some 16) rfl rfl Try.func31 (by kernel_rfl) rfl #[.float .f64 a0] rfl aT ?_; (with_reducible refine (math_IsNaN.calls a0 t105 _ A10.out).mono ?_); rintro e w' ⟨rfl, ⟨nd, rfl⟩⟩; refine ⟨_, rfl, ?_⟩) | ((with_reducible refine gate_callee (f := 32) rfl ?_); refine goesL_ (some 17) rfl rfl Try.func32 (by kernel_rfl) rfl #[.bool t105] rfl aT ?_; (with_reducible refine (ratio_truth.calls t105 t106 _ A11.out).mono ?_); rintro e w' ⟨rfl, ⟨nd, rfl⟩⟩; refine ⟨_, rfl, ?_⟩))
   go_ret
   exact ⟨by first | rfl | (simp; done) | (simp [*]; done), by repeat (first | exact Drawn0.refl _ | apply Drawn0.step)⟩
  replace c7 := Bool.eq_false_iff.mpr c7; subst c7; have H1 : (if (FloatKind.f64.format.order a0 a1 == some .lt) = true then (some (-1)) else (if (FloatKind.f64.format.order a0 a1 == some .gt) = true then (some 1) else ((math_Signbit.f a1).bind fun t107 => ((ratio_truth.f t107).bind fun t108 => ((math_Signbit.f a0).bind fun t109 => ((ratio_truth.f t109).bind fun t110 => (some (wrap64 (t108 - t110))))))))) = some r := by rw [if_neg (show ¬ (false = true) by decide)] at H; exact H
  clear H; have H := H1; clear H1; by_cases c12 : (FloatKind.f64.format.order a0 a1 == some .lt) = true
  ·rw [if_pos c12] at H
   have c12b0 : (FloatKind.f64.format.order a0 a1 == some .lt) = true := c12
   (try (have c12b1 : decide (FloatKind.f64.format.order a0 a1 = some .lt) = true := by simpa using c12))
   (try (have c12b2 : (FloatKind.f64.format.order a0 a1 == some .lt) = true := by simpa using c12))
   clear c12; obtain rfl := Option.some.inj H
   go_wp2
   go_ret
   exact ⟨by first | rfl | (simp; done) | (simp [*]; done), by repeat (first | exact Drawn0.refl _ | apply Drawn0.step)⟩
  rw [if_neg c12] at H; have c12b0 : (FloatKind.f64.format.order a0 a1 == some .lt) = false := by simpa using c12
  (try (have c12b1 : decide (FloatKind.f64.format.order a0 a1 = some .lt) = false := by simpa using c12))
  (try (have c12b2 : (FloatKind.f64.format.order a0 a1 == some .lt) = false := by simpa using c12))
  (try (have c12b3 : ¬ (FloatKind.f64.format.order a0 a1 = some .lt) := by simpa using c12))
  clear c12; by_cases c13 : (FloatKind.f64.format.order a0 a1 == some .gt) = true
  ·rw [if_pos c13] at H
   have c13b0 : (FloatKind.f64.format.order a0 a1 == some .gt) = true := c13
   (try (have c13b1 : decide (FloatKind.f64.format.order a0 a1 = some .gt) = true := by simpa using c13))
   (try (have c13b2 : (FloatKind.f64.format.order a0 a1 == some .gt) = true := by simpa using c13))
   clear c13; obtain rfl := Option.some.inj H
   go_wp2
   go_ret
   exact ⟨by first | rfl | (simp; done) | (simp [*]; done), by repeat (first | exact Drawn0.refl _ | apply Drawn0.step)⟩
  rw [if_neg c13] at H; have c13b0 : (FloatKind.f64.format.order a0 a1 == some .gt) = false := by simpa using c13
  (try (have c13b1 : decide (FloatKind.f64.format.order a0 a1 = some .gt) = false := by simpa using c13))
  (try (have c13b2 : (FloatKind.f64.format.order a0 a1 == some .gt) = false := by simpa using c13))
  (try (have c13b3 : ¬ (FloatKind.f64.format.order a0 a1 = some .gt) := by simpa using c13))
  clear c13; replace H := Option.bind_eq_some_iff.mp H; obtain ⟨t107, A140, H⟩ := H; replace H : ((ratio_truth.f t107).bind fun t108 => ((math_Signbit.f a0).bind fun t109 => ((ratio_truth.f t109).bind fun t110 => (some (wrap64 (t108 - t110)))))) = some r := H
  have A14 := Aside0.mk A140; clear A140; replace H := Option.bind_eq_some_iff.mp H; obtain ⟨t108, A150, H⟩ := H; replace H : ((math_Signbit.f a0).bind fun t109 => ((ratio_truth.f t109).bind fun t110 => (some (wrap64 (t108 - t110))))) = some r := H
  have A15 := Aside0.mk A150; clear A150; replace H := Option.bind_eq_some_iff.mp H; obtain ⟨t109, A160, H⟩ := H; replace H : ((ratio_truth.f t109).bind fun t110 => (some (wrap64 (t108 - t110)))) = some r := H
  have A16 := Aside0.mk A160; clear A160; replace H := Option.bind_eq_some_iff.mp H; obtain ⟨t110, A170, H⟩ := H; replace H : (some (wrap64 (t108 - t110))) = some r := H; have A17 := Aside0.mk A170; clear A170; obtain rfl := Option.some.inj H
  go_wp2_with (first | ((with_reducible refine gate_callee (f := 33) rfl ?_); refine goesL_ (some 28) rfl rfl Try.func33 (by kernel_rfl) rfl #[.float .f64 a1] rfl aT ?_; (with_reducible refine (math_Signbit.calls a1 t107 _ A14.out).mono ?_); rintro e w' ⟨rfl, ⟨nd, rfl⟩⟩; refine ⟨_, rfl, ?_⟩) | ((with_reducible refine gate_callee (f := 32) rfl ?_); refine goesL_ (some 29) rfl rfl Try.func32 (by kernel_rfl) rfl #[.bool t107] rfl aT ?_; (with_reducible refine (ratio_truth.calls t107 t108 _ A15.out).mono ?_); rintro e w' ⟨rfl, ⟨nd, rfl⟩⟩; refine ⟨_, rfl, ?_⟩) | ((with_reducible refine gate_callee (f := 33) rfl ?_); refine goesL_ (some 31) rfl rfl Try.func33 (by kernel_rfl) rfl #[.float .f64 a0] rfl aT ?_; (with_reducible refine (math_Signbit.calls a0 t109 _ A16.out).mono ?_); rintro e w' ⟨rfl, ⟨nd, rfl⟩⟩; refine ⟨_, rfl, ?_⟩) | ((with_reducible refine gate_callee (f := 32) rfl ?_); refine goesL_ (some 32) rfl rfl Try.func32 (by kernel_rfl) rfl #[.bool t109] rfl aT ?_; (with_reducible refine (ratio_truth.calls t109 t110 _ A17.out).mono ?_); rintro e w' ⟨rfl, ⟨nd, rfl⟩⟩; refine ⟨_, rfl, ?_⟩))
  go_ret
  exact ⟨by first | rfl | (simp; done) | (simp [*]; done), by repeat (first | exact Drawn0.refl _ | apply Drawn0.step)⟩
def math_Copysign.f (a0 : Nat) (a1 : Nat) : Option Nat := some (Go.bits .or .u64 (Go.bits .andNot .u64 (a0 : Int) 9223372036854775808) (Go.bits .and .u64 (a1 : Int) 9223372036854775808)).toNat
set_option maxHeartbeats 8000000 in
set_option maxRecDepth 100000 in
theorem math_Copysign.calls (a0 : Nat) (a1 : Nat) (r : Nat) (w : World) (h : math_Copysign.f a0 a1 = some r) :
  Calls Try.prog 14 #[.float .f64 a0, .float .f64 a1] w fun e w' => e = .returned (.float .f64 r) ∧ Drawn0 w w' := by
 have hu := Try.underlying22; have hu2 := Try.underlying12; have hA : ∀ (b : Nat) (W : World), (callFunc 37 #[.float .f64 b]).run Try.prog W = .ok (.value (.int .u64 b)) W := fun b W => by rw [run_callFunc_extern (fn := Try.f37) (e := Extern.MathFloatBits.float64bits) (by kernel_rfl) (by kernel_rfl) (by kernel_rfl) (by rfl) (by rfl)]; rfl
 have hB : ∀ (b : Int) (W : World), (callFunc 36 #[.int .u64 b]).run Try.prog W = .ok (.value (.float .f64 b.toNat)) W := fun b W => by rw [run_callFunc_extern (fn := Try.f36) (e := Extern.MathFloatBits.float64frombits) (by kernel_rfl) (by kernel_rfl) (by kernel_rfl) (by rfl) (by rfl)]; rfl
 obtain rfl := Option.some.inj h
 go_enter Try.func14, Try.ntmps14
 go_wp2
 go_ret
 exact ⟨rfl, Drawn0.refl _⟩
def math_Inf.f (a0 : Int) : Option Nat := some (if 0 ≤ a0 then 9218868437227405312 else 18442240474082181120)
set_option maxHeartbeats 8000000 in
set_option maxRecDepth 100000 in
theorem math_Inf.calls (a0 : Int) (r : Nat) (w : World) (h : math_Inf.f a0 = some r) :
  Calls Try.prog 16 #[.int .i64 a0] w fun e w' => e = .returned (.float .f64 r) ∧ Drawn0 w w' := by
 have hu := Try.underlying22; have hu2 := Try.underlying12; have hB : ∀ (b : Int) (W : World), (callFunc 36 #[.int .u64 b]).run Try.prog W = .ok (.value (.float .f64 b.toNat)) W := fun b W => by rw [run_callFunc_extern (fn := Try.f36) (e := Extern.MathFloatBits.float64frombits) (by kernel_rfl) (by kernel_rfl) (by kernel_rfl) (by rfl) (by rfl)]; rfl
 obtain rfl := Option.some.inj h
 by_cases hx : 0 ≤ a0
 ·rw [if_pos hx]
  have hd : decide (0 ≤ a0) = true := decide_eq_true hx
  go_enter Try.func16, Try.ntmps16
  go_wp2
  go_ret
  exact ⟨rfl, Drawn0.refl _⟩
 rw [if_neg hx]; have hd : decide (0 ≤ a0) = false := decide_eq_false hx
 go_enter Try.func16, Try.ntmps16
 go_wp2
 go_ret
 exact ⟨rfl, Drawn0.refl _⟩
def ratio_Of.f (a0 : Int) (a1 : Int) : Option Nat := some (fop .quo (floatOfInt .f64 a0) (floatOfInt .f64 a1))
set_option maxHeartbeats 8000000 in
set_option maxRecDepth 100000 in
theorem ratio_Of.calls (a0 : Int) (a1 : Int) (r : Nat) (w : World) (h : ratio_Of.f a0 a1 = some r) :
  Calls Try.prog 18 #[.int .i64 a0, .int .i64 a1] w fun e w' => ∃ b_ : Nat, e = .returned (.float .f64 b_) ∧ Drawn0 w w' ∧ FR r b_ := by
 have hu3 : (Try.prog.underlying 3).isSome = true := by kernel_rfl
 have hu24 := Try.underlying22; obtain rfl := Option.some.inj h
 obtain ⟨b, m, hrun, hb⟩ := run_rough (P := Try.prog) w .quo (by simp) 22 (floatOfInt .f64 a0) (floatOfInt .f64 a1)
 go_enter Try.func18, Try.ntmps18
 go_wp2
 go_ret
 exact ⟨b, rfl, ⟨⟨m, rfl⟩⟩, fr_fop hb⟩
def absb (x : Nat) : Nat := (Go.bits .andNot .u64 (x : Int) 9223372036854775808).toNat
def cube (x : Nat) : Nat := fop .mul (fop .mul (fop .mul 4636737291354636288 (absb x)) (absb x)) (absb x)
def ratio_Badness.f (a0 : Nat) : Option Int := if isNan a0 = true then some 0 else if (FloatKind.f64.format.order (cube a0) 4666723172467343360 == some .lt) = true then floatToIntVal .f64 (cube a0) .i64 else some 10000
set_option maxHeartbeats 8000000 in
set_option maxRecDepth 100000 in
theorem ratio_Badness.calls (a0 : Nat) (r : Int) (w : World) (h : ratio_Badness.f a0 = some r) {b0_ : Nat} (hf0_ : Aside0 (FR a0 b0_) := by first | assumption | exact ⟨FR.same _⟩) :
  Calls Try.prog 19 #[.float .f64 b0_] w fun e w' => e = .returned (.int .i64 r) ∧ Drawn0 w w' := by
 have hu24 := Try.underlying22; have hu3 := Try.underlying3; have hA : ∀ (b : Nat) (W : World), (callFunc 37 #[.float .f64 b]).run Try.prog W = .ok (.value (.int .u64 b)) W := fun b W => by rw [run_callFunc_extern (fn := Try.f37) (e := Extern.MathFloatBits.float64bits) (by kernel_rfl) (by kernel_rfl) (by kernel_rfl) (by rfl) (by rfl)]; rfl
 have hB : ∀ (b : Int) (W : World), (callFunc 36 #[.int .u64 b]).run Try.prog W = .ok (.value (.float .f64 b.toNat)) W := fun b W => by rw [run_callFunc_extern (fn := Try.f36) (e := Extern.MathFloatBits.float64frombits) (by kernel_rfl) (by kernel_rfl) (by kernel_rfl) (by rfl) (by rfl)]; rfl
 unfold ratio_Badness.f at h
 by_cases hx : isNan a0 = true
 ·rw [if_pos hx] at h
  obtain rfl := Option.some.inj h
  have ho := order_nan_l (b := b0_) (y := b0_) (by rw [← hf0_.out.nan]; exact hx)
  go_enter Try.func19, Try.ntmps19
  go_wp2
  go_ret
  exact ⟨rfl, Drawn0.refl _⟩
 rw [if_neg hx] at h; have hx' : isNan a0 = false := by simpa using hx
 obtain rfl := hf0_.out.eq_of hx'
 have ho := order_self hx'; obtain ⟨p1, m1, hr1, hp1⟩ := run_rough (P := Try.prog) w .mul (by simp) 22 4636737291354636288 (absb a0)
 obtain ⟨p2, m2, hr2, hp2⟩ := run_rough (P := Try.prog) (w.drewN m1) .mul (by simp) 22 p1 (absb a0)
 obtain ⟨p3, m3, hr3, hp3⟩ := run_rough (P := Try.prog) (w.drewN (m1 + m2)) .mul (by simp) 22 p2 (absb a0)
 have hc : FR (cube a0) p3 := ((fr_fop hp1).fop_l (fr_fop hp2)).fop_l (fr_fop hp3)
 have hd : Drawn0 w (w.drewN (m1 + m2 + m3)) := ⟨⟨_, rfl⟩⟩
 rw [← hc.order_l] at h; unfold absb at hr1 hr2 hr3
 by_cases hl : (FloatKind.f64.format.order p3 4666723172467343360 == some .lt) = true
 rotate_left
 ·rw [if_neg hl] at h
  obtain rfl := Option.some.inj h
  have hl' := Bool.eq_false_iff.mpr hl
  go_enter Try.func19, Try.ntmps19
  go_wp2
  go_ret
  exact ⟨rfl, hd⟩
 rw [if_pos hl] at h; have hn : isNan (cube a0) = false := by
  rcases Bool.eq_false_or_eq_true (isNan (cube a0)) with hh | hh
  ·rw [hc.order_l, order_nan_l hh] at hl; cases hl
  ·exact hh
 rw [hc.eq_of hn] at h; have hk := fun W => run_convert_float_int (P := Try.prog) W 22 3 .f64 .i64 p3 r (by kernel_rfl) hu3 h
 go_enter Try.func19, Try.ntmps19
 go_wp2
 go_ret
 exact ⟨rfl, hd⟩
theorem bits_nan_r {op : BinOp} {x b : Nat} (h : isNan b = true) : floatBits op .f64 x b = none := by
 unfold isNan Ieee.Datum.isNaN FloatKind.decode at h
 split at h
 ·rename_i hd
  cases op <;> simp [floatBits, Ieee.Format.add, Ieee.Format.sub, Ieee.Format.mul, Ieee.Format.div, hd, Ieee.Datum.sum, Ieee.Datum.product, Ieee.Datum.quotient, Ieee.Datum.opposite] <;> (cases Ieee.Format.read FloatKind.f64.format x <;> rfl)
 cases h
theorem FR.fop_r {op : BinOp} {x y b z : Nat} (h : FR y b) (hz : FR (fop op x b) z) : FR (fop op x y) z := by
 rcases h with rfl | ⟨h1, h2⟩
 ·exact hz
 have e1 : fop op x y = NANB := by unfold fop; rw [bits_nan_r h1]; rfl
 have e2 : fop op x b = NANB := by unfold fop; rw [bits_nan_r h2]; rfl
 rw [e1]; rw [e2] at hz; exact hz
def blendf (a b t : Nat) : Nat := if (FloatKind.f64.format.order t 0 == some .eq) = true then a else if (FloatKind.f64.format.order t 4607182418800017408 == some .eq) = true then b else fop .add (fop .mul a (fop .sub 4607182418800017408 t)) (fop .mul b t)
def ratio_Blend.f (a0 : Nat) (a1 : Nat) (a2 : Nat) : Option Nat := some (blendf a0 a1 a2)
set_option maxHeartbeats 8000000 in
set_option maxRecDepth 100000 in
theorem ratio_Blend.calls (a0 : Nat) (a1 : Nat) (a2 : Nat) (r : Nat) (w : World) (h : ratio_Blend.f a0 a1 a2 = some r) {b0_ : Nat} (hf0_ : Aside0 (FR a0 b0_) := by first | assumption | exact ⟨FR.same _⟩) {b1_ : Nat} (hf1_ : Aside0 (FR a1 b1_) := by first | assumption | exact ⟨FR.same _⟩) {b2_ : Nat} (hf2_ : Aside0 (FR a2 b2_) := by first | assumption | exact ⟨FR.same _⟩) :
  Calls Try.prog 22 #[.float .f64 b0_, .float .f64 b1_, .float .f64 b2_] w fun e w' => ∃ b_ : Nat, e = .returned (.float .f64 b_) ∧ Drawn0 w w' ∧ FR r b_ := by
 have hu := Try.underlying22; obtain rfl := Option.some.inj h
 unfold blendf
 rw [← hf2_.out.order_l 0, ← hf2_.out.order_l 4607182418800017408]; by_cases c0 : (FloatKind.f64.format.order b2_ 0 == some .eq) = true
 ·rw [if_pos c0]
  go_enter Try.func22, Try.ntmps22
  go_wp2
  go_ret
  exact ⟨b0_, rfl, Drawn0.refl _, hf0_.out⟩
 rw [if_neg c0]; have c0' : (FloatKind.f64.format.order b2_ 0 == some .eq) = false := by simpa using c0
 clear c0; by_cases c1 : (FloatKind.f64.format.order b2_ 4607182418800017408 == some .eq) = true
 ·rw [if_pos c1]
  go_enter Try.func22, Try.ntmps22
  go_wp2
  go_ret
  exact ⟨b1_, rfl, Drawn0.refl _, hf1_.out⟩
 rw [if_neg c1]; have c1' : (FloatKind.f64.format.order b2_ 4607182418800017408 == some .eq) = false := by simpa using c1
 clear c1; obtain ⟨p1, m1, hr1, hp1⟩ := run_rough (P := Try.prog) w .sub (by simp) 22 4607182418800017408 b2_
 obtain ⟨p2, m2, hr2, hp2⟩ := run_rough (P := Try.prog) (w.drewN m1) .mul (by simp) 22 b0_ p1
 obtain ⟨p3, m3, hr3, hp3⟩ := run_rough (P := Try.prog) (w.drewN (m1 + m2)) .mul (by simp) 22 b1_ b2_
 obtain ⟨p4, m4, hr4, hp4⟩ := run_rough (P := Try.prog) (w.drewN (m1 + m2 + m3)) .add (by simp) 22 p2 p3
 have hc : FR (fop .add (fop .mul a0 (fop .sub 4607182418800017408 a2)) (fop .mul a1 a2)) p4 :=
  FR.fop_l (hf0_.out.fop_l (FR.fop_r (FR.fop_r hf2_.out (fr_fop hp1)) (fr_fop hp2))) (FR.fop_r (hf1_.out.fop_l (FR.fop_r hf2_.out (fr_fop hp3))) (fr_fop hp4))
 have hd : Drawn0 w (w.drewN (m1 + m2 + m3 + m4)) := ⟨⟨_, rfl⟩⟩
 go_enter Try.func22, Try.ntmps22
 go_wp2
 go_ret
 exact ⟨p4, rfl, hd, hc⟩
def meanf (l : List Nat) : Nat := fop .quo (l.foldl (fop .add) 0) (floatOfInt .f64 (l.length : Int))
theorem mean_step {l : List Nat} {i s p : Nat} (hi : i < l.length) (hs : FR ((l.take i).foldl (fop .add) 0) s) (hp : FR (fop .add s (rdOf (0 : Nat) l (i : Int))) p) : FR ((l.take (i + 1)).foldl (fop .add) 0) p := by
 rw [List.take_succ_eq_append_getElem hi, List.foldl_append]; have e : rdOf (0 : Nat) l (i : Int) = l[i] := by
  show l.getD i 0 = _
  rw [List.getD_eq_getElem?_getD, List.getElem?_eq_getElem hi]; rfl
 rw [e] at hp; exact hs.fop_l hp
def ratio_Mean.f (l0 : List Nat) : Option Nat := some (meanf l0)
set_option maxHeartbeats 8000000 in
set_option maxRecDepth 100000 in
theorem ratio_Mean.calls (A0 : Option Addr) (c0 : Nat) (l0 : List Nat) (r : Nat) (w : World) (hr0 : Kd.C Kd.f64 w A0 l0.length l0) (hc0 : l0.length ≤ c0) (h : ratio_Mean.f l0 = some r) :
  Calls Try.prog 26 #[.slice A0 l0.length c0] w fun e w' => ∃ b_ : Nat, e = .returned (.float .f64 b_) ∧ Drawn0 w w' ∧ FR r b_ := by
 have hu := Try.underlying22; have hu3 : (Try.prog.underlying 3).isSome = true := by kernel_rfl
 obtain rfl := Option.some.inj h
 unfold meanf
 have hlen : (l0.length : Int) ≤ 9223372036854775807 := by have := hr0.2.1; omega
 have HR := Aside0.mk hr0; clear hr0 h; go_enter Try.func26, Try.ntmps26
 go_wp2
 go_loopg [3, 8] l0.length (fun kq v3 v8 w' => ∃ (s i : Nat), v3 = .float .f64 s ∧ v8 = .int .i64 (i : Int) ∧ Aside0 (i + kq = l0.length) ∧ Aside0 (FR ((l0.take i).foldl (fop .add) 0) s) ∧ Drawn0 w w')
 case atStart => exact ⟨0, 0, rfl, rfl, ⟨by omega⟩, ⟨FR.same _⟩, Drawn0.refl _⟩
 obtain ⟨s, i, rfl, rfl, HI, HS, ⟨m1, rfl⟩⟩ := hrel; cases gk with
 | zero =>
  have e : i = l0.length := by have := HI.out; omega
  have c0_ : decide ((i : Int) < (l0.length : Int)) = false := decide_eq_false (by omega)
  have c1_ : decide (i < l0.length) = false := decide_eq_false (by omega)
  have hs := HS.out; rw [e, List.take_length] at hs; obtain ⟨p, m, hr, hp⟩ := run_rough (P := Try.prog) (w.drewN m1) .quo (by simp) 22 s (floatOfInt .f64 (l0.length : Int))
  have hc := hs.fop_l (fr_fop hp); clear hs hp e; go_wp2
  go_ret
  exact ⟨p, rfl, by first | exact ⟨⟨_, rfl⟩⟩ | exact ⟨⟨m1 + m, by simp [World.drewN, Nat.add_assoc]⟩⟩, hc⟩
 | succ k1 =>
  have hi : i < l0.length := by have := HI.out; omega
  have c0_ : decide ((i : Int) < (l0.length : Int)) = true := decide_eq_true (by omega)
  have c1_ : decide (i < l0.length) = true := decide_eq_true (by omega)
  have c2_ : (i < l0.length) = True := eq_true hi
  obtain ⟨ad, e, hx⟩ := Kd.at_f64 HR.out (i : Int) (by omega) (by omega)
  cases e
  rw [Int.toNat_natCast] at hx; have p1_ : (0 ≤ (i : Int)) = True := eq_true (by omega)
  have q1_ : ((i : Int) < (l0.length : Int)) = True := eq_true (by omega)
  obtain ⟨p, m, hr, hp⟩ := run_rough (P := Try.prog) (w.drewN m1) .add (by simp) 22 s (rdOf (0 : Nat) l0 (i : Int))
  have hc := Aside0.mk (mean_step hi HS.out (fr_fop hp)); clear hp; go_wp2
  go_roundg k1
  case measure => omega
  case rel => exact ⟨p, i + 1, rfl, by first | rfl | (congr 1; first | rw [i64_w] | skip; unfold Go.RowKit.wrap64; omega), ⟨by have := HI.out; omega⟩, hc, by first | exact ⟨⟨_, rfl⟩⟩ | exact ⟨⟨m1 + m, by simp [World.drewN, Nat.add_assoc]⟩⟩⟩
def rte (x : Nat) : Nat := FloatKind.f64.encode ((FloatKind.f64.decode x).integral .even)
theorem rte_run (x : Nat) (hx' : isNan x = false) : Extern.MathFloor.toIntegral "math.RoundToEven" .even #[.float .f64 x] = pure (.float .f64 (rte x)) := by
 unfold rte
 have e : ∃ n, Extern.MathFloor.toIntegral "math.RoundToEven" .even #[.float .f64 x] = Extern.MathFloor.toIntegral.match_1 (fun _ => Sem Value) (FloatKind.f64.decode x) n (fun d => pure (.float .f64 (FloatKind.f64.encode (d.integral .even)))) := ⟨_, rfl⟩
 obtain ⟨n, e⟩ := e; rw [e]; unfold isNan at hx'
 cases hd : FloatKind.f64.decode x with
 | nan s f => rw [hd] at hx'; cases hx'
 | number a b c => rfl
 | infinity s => rfl
def ratio_Round.f (a0 : Nat) : Option Int := if isNan a0 = true then some 0 else if (FloatKind.f64.format.order a0 4746794007244308480 == some .gt || FloatKind.f64.format.order a0 4746794007244308480 == some .eq) = true then some 2147483647 else if (FloatKind.f64.format.order a0 13970166044103278592 == some .lt || FloatKind.f64.format.order a0 13970166044103278592 == some .eq) = true then some (-2147483648) else floatToIntVal .f64 (rte a0) .i64
set_option maxHeartbeats 8000000 in
set_option maxRecDepth 100000 in
theorem ratio_Round.calls (a0 : Nat) (r : Int) (w : World) (h : ratio_Round.f a0 = some r) :
  Calls Try.prog 29 #[.float .f64 a0] w fun e w' => e = .returned (.int .i64 r) ∧ Drawn0 w w' := by
 have hu := Try.underlying22; have hu3 := Try.underlying3; unfold ratio_Round.f at h
 have HN : Aside0 (math_IsNaN.f a0 = some (isNan a0)) := ⟨rfl⟩
 by_cases hx : isNan a0 = true
 ·rw [if_pos hx] at h
  rw [hx] at HN; obtain rfl := Option.some.inj h
  go_enter Try.func29, Try.ntmps29
  go_wp2_with (first | (go_at_call 31; (with_reducible refine (math_IsNaN.calls a0 _ _ HN.out).mono ?_); rintro e w' ⟨rfl, ⟨nd, rfl⟩⟩))
  go_ret
  exact ⟨rfl, by repeat (first | exact Drawn0.refl _ | apply Drawn0.step)⟩
 rw [if_neg hx] at h; have hx' : isNan a0 = false := by simpa using hx
 rw [hx'] at HN; clear hx; cases ho1 : FloatKind.f64.format.order a0 4746794007244308480 with
 | none =>
  exfalso
  have h1 : isNan a0 = true := by
   unfold Ieee.Format.order Ieee.Datum.order at ho1
   unfold isNan FloatKind.decode Ieee.Datum.isNaN
   rw [show Ieee.Format.read FloatKind.f64.format 4746794007244308480 = .number false 9007199250546688 (-22) from by decide] at ho1
   revert ho1
   cases Ieee.Format.read FloatKind.f64.format a0 <;> intro ho1 <;> first | rfl | cases ho1
  rw [hx'] at h1; cases h1
 | some o1 =>
  rw [ho1] at h; by_cases hc1 : (some o1 == some Ordering.gt || some o1 == some Ordering.eq) = true
  ·rw [if_pos hc1] at h
   obtain rfl := Option.some.inj h
   cases o1 <;> first | (exfalso; revert hc1; decide) | skip
   all_goals
    clear hc1; go_enter Try.func29, Try.ntmps29
    go_wp2_with (first | (go_at_call 31; (with_reducible refine (math_IsNaN.calls a0 _ _ HN.out).mono ?_); rintro e w' ⟨rfl, ⟨nd, rfl⟩⟩))
    go_ret
    exact ⟨rfl, by repeat (first | exact Drawn0.refl _ | apply Drawn0.step)⟩
  rw [if_neg hc1] at h; have ho1' : o1 = .lt := by cases o1 <;> first | rfl | (exfalso; exact hc1 (by decide))
  subst ho1'; clear hc1; cases ho2 : FloatKind.f64.format.order a0 13970166044103278592 with
  | none =>
   exfalso
   have h1 : isNan a0 = true := by
    unfold Ieee.Format.order Ieee.Datum.order at ho2
    unfold isNan FloatKind.decode Ieee.Datum.isNaN
    rw [show Ieee.Format.read FloatKind.f64.format 13970166044103278592 = .number true 4503599627370496 (-21) from by decide] at ho2
    revert ho2
    cases Ieee.Format.read FloatKind.f64.format a0 <;> intro ho2 <;> first | rfl | cases ho2
   rw [hx'] at h1; cases h1
  | some o2 =>
   rw [ho2] at h; by_cases hc2 : (some o2 == some Ordering.lt || some o2 == some Ordering.eq) = true
   ·rw [if_pos hc2] at h
    obtain rfl := Option.some.inj h
    cases o2 <;> first | (exfalso; revert hc2; decide) | skip
    all_goals
     clear hc2; go_enter Try.func29, Try.ntmps29
     go_wp2_with (first | (go_at_call 31; (with_reducible refine (math_IsNaN.calls a0 _ _ HN.out).mono ?_); rintro e w' ⟨rfl, ⟨nd, rfl⟩⟩))
     go_ret
     exact ⟨rfl, by repeat (first | exact Drawn0.refl _ | apply Drawn0.step)⟩
   rw [if_neg hc2] at h; have ho2' : o2 = .gt := by cases o2 <;> first | rfl | (exfalso; exact hc2 (by decide))
   subst ho2'; clear hc2; have hC : ∀ W : World, (callFunc 39 #[.float .f64 a0]).run Try.prog W = .ok (.value (.float .f64 (rte a0))) W := fun W => by
    rw [run_callFunc_extern (fn := Try.f39) (e := Extern.MathFloor.toIntegral "math.RoundToEven" .even) (by kernel_rfl) (by kernel_rfl) (by kernel_rfl) (by rfl) (by rfl)]
    rw [rte_run a0 hx']; rfl
   have hk := fun W => run_convert_float_int (P := Try.prog) W 22 3 .f64 .i64 (rte a0) r (by kernel_rfl) hu3 h
   clear h hx'; go_enter Try.func29, Try.ntmps29
   go_wp2_with (first | (go_at_call 31; (with_reducible refine (math_IsNaN.calls a0 _ _ HN.out).mono ?_); rintro e w' ⟨rfl, ⟨nd, rfl⟩⟩))
   go_ret
   exact ⟨rfl, by repeat (first | exact Drawn0.refl _ | apply Drawn0.step)⟩
def stanzalaw12_Awake.f (k : Nat)  : Option (Bool) := (math_Inf.f 1).bind fun t111 => ((ratio_Of.f 1 0).bind fun t112 => (if (FloatKind.f64.format.order t112 t111 == some .eq) = true then ((ratio_Badness.f t111).bind fun t113 => (if t113 = 10000 then ((ratio_Of.f 0 0).bind fun t114 => ((ratio_Badness.f t114).bind fun t115 => (if t115 = 0 then ((ratio_Badness.f 4602678819172646912).bind fun t116 => (if t116 = 12 then ((ratio_Badness.f 13830554455654793216).bind fun t117 => (if t117 = 100 then ((ratio_Round.f 4612811918334230528).bind fun t118 => (if t118 = 2 then ((math_Copysign.f 0 13830554455654793216).bind fun t119 => ((ratio_Order.f k t119 0).bind fun t120 => (if t120 = (-1) then ((ratio_Blend.f 4607182418800017408 t111 0).bind fun t121 => (if (FloatKind.f64.format.order t121 4607182418800017408 == some .eq) = true then ((ratio_Mean.f ([] : List Nat)).bind fun t122 => ((math_IsNaN.f t122).bind fun t123 => (some t123))) else (some false))) else (some false)))) else (some false))) else (some false))) else (some false))) else (some false)))) else (some false))) else (some false)))
theorem stanzalaw12_Awake.mono : ∀ k, LeO (stanzalaw12_Awake.f k ) (stanzalaw12_Awake.f (k + 1) ) := by
 intro  k
 unfold stanzalaw12_Awake.f
 repeat' (with_reducible first | exact ratio_Order.mono _ _ _ | exact LeO.refl _ | exact LeO.none _ | refine LeO.ite ?_ ?_ | refine LeO.bind ?_ (fun _ => ?_))
set_option maxHeartbeats 8000000 in
set_option maxRecDepth 100000 in
theorem stanzalaw12_Awake.calls (k : Nat)  (r : Bool) (w : World) (h : stanzalaw12_Awake.f k  = some r) (hrt_ : Aside0 (r = true)) :
  Calls Try.prog 10 #[] w fun e w' => e = .returned (.bool r) ∧ Drawn0 w w' := by
 have H : ((math_Inf.f 1).bind fun t111 => ((ratio_Of.f 1 0).bind fun t112 => (if (FloatKind.f64.format.order t112 t111 == some .eq) = true then ((ratio_Badness.f t111).bind fun t113 => (if t113 = 10000 then ((ratio_Of.f 0 0).bind fun t114 => ((ratio_Badness.f t114).bind fun t115 => (if t115 = 0 then ((ratio_Badness.f 4602678819172646912).bind fun t116 => (if t116 = 12 then ((ratio_Badness.f 13830554455654793216).bind fun t117 => (if t117 = 100 then ((ratio_Round.f 4612811918334230528).bind fun t118 => (if t118 = 2 then ((math_Copysign.f 0 13830554455654793216).bind fun t119 => ((ratio_Order.f k t119 0).bind fun t120 => (if t120 = (-1) then ((ratio_Blend.f 4607182418800017408 t111 0).bind fun t121 => (if (FloatKind.f64.format.order t121 4607182418800017408 == some .eq) = true then ((ratio_Mean.f ([] : List Nat)).bind fun t122 => ((math_IsNaN.f t122).bind fun t123 => (some t123))) else (some false))) else (some false)))) else (some false))) else (some false))) else (some false))) else (some false)))) else (some false))) else (some false)))) = some r := h
 clear h; replace H := Option.bind_eq_some_iff.mp H; obtain ⟨t111, A10, H⟩ := H; replace H : ((ratio_Of.f 1 0).bind fun t112 => (if (FloatKind.f64.format.order t112 t111 == some .eq) = true then ((ratio_Badness.f t111).bind fun t113 => (if t113 = 10000 then ((ratio_Of.f 0 0).bind fun t114 => ((ratio_Badness.f t114).bind fun t115 => (if t115 = 0 then ((ratio_Badness.f 4602678819172646912).bind fun t116 => (if t116 = 12 then ((ratio_Badness.f 13830554455654793216).bind fun t117 => (if t117 = 100 then ((ratio_Round.f 4612811918334230528).bind fun t118 => (if t118 = 2 then ((math_Copysign.f 0 13830554455654793216).bind fun t119 => ((ratio_Order.f k t119 0).bind fun t120 => (if t120 = (-1) then ((ratio_Blend.f 4607182418800017408 t111 0).bind fun t121 => (if (FloatKind.f64.format.order t121 4607182418800017408 == some .eq) = true then ((ratio_Mean.f ([] : List Nat)).bind fun t122 => ((math_IsNaN.f t122).bind fun t123 => (some t123))) else (some false))) else (some false)))) else (some false))) else (some false))) else (some false))) else (some false)))) else (some false))) else (some false))) = some r := H
 have A1 := Aside0.mk A10; clear A10; replace H := Option.bind_eq_some_iff.mp H; obtain ⟨t112, A20, H⟩ := H; replace H : (if (FloatKind.f64.format.order t112 t111 == some .eq) = true then ((ratio_Badness.f t111).bind fun t113 => (if t113 = 10000 then ((ratio_Of.f 0 0).bind fun t114 => ((ratio_Badness.f t114).bind fun t115 => (if t115 = 0 then ((ratio_Badness.f 4602678819172646912).bind fun t116 => (if t116 = 12 then ((ratio_Badness.f 13830554455654793216).bind fun t117 => (if t117 = 100 then ((ratio_Round.f 4612811918334230528).bind fun t118 => (if t118 = 2 then ((math_Copysign.f 0 13830554455654793216).bind fun t119 => ((ratio_Order.f k t119 0).bind fun t120 => (if t120 = (-1) then ((ratio_Blend.f 4607182418800017408 t111 0).bind fun t121 => (if (FloatKind.f64.format.order t121 4607182418800017408 == some .eq) = true then ((ratio_Mean.f ([] : List Nat)).bind fun t122 => ((math_IsNaN.f t122).bind fun t123 => (some t123))) else (some false))) else (some false)))) else (some false))) else (some false))) else (some false))) else (some false)))) else (some false))) else (some false)) = some r := H
 have A2 := Aside0.mk A20; clear A20; by_cases c3 : (FloatKind.f64.format.order t112 t111 == some .eq) = true
 rotate_left
 ·rw [if_neg c3] at H
  have c3b0 : (FloatKind.f64.format.order t112 t111 == some .eq) = false := by simpa using c3
  (try (have c3b1 : decide (FloatKind.f64.format.order t112 t111 = some .eq) = false := by simpa using c3))
  (try (have c3b2 : (FloatKind.f64.format.order t112 t111 == some .eq) = false := by simpa using c3))
  (try (have c3b3 : ¬ (FloatKind.f64.format.order t112 t111 = some .eq) := by simpa using c3))
  clear c3; exact absurd ((Option.some.inj H).trans hrt_.out) (by decide)
 rw [if_pos c3] at H; have c3b0 : (FloatKind.f64.format.order t112 t111 == some .eq) = true := c3
 (try (have c3b1 : decide (FloatKind.f64.format.order t112 t111 = some .eq) = true := by simpa using c3))
 (try (have c3b2 : (FloatKind.f64.format.order t112 t111 == some .eq) = true := by simpa using c3))
 clear c3; replace H := Option.bind_eq_some_iff.mp H; obtain ⟨t113, A40, H⟩ := H; replace H : (if t113 = 10000 then ((ratio_Of.f 0 0).bind fun t114 => ((ratio_Badness.f t114).bind fun t115 => (if t115 = 0 then ((ratio_Badness.f 4602678819172646912).bind fun t116 => (if t116 = 12 then ((ratio_Badness.f 13830554455654793216).bind fun t117 => (if t117 = 100 then ((ratio_Round.f 4612811918334230528).bind fun t118 => (if t118 = 2 then ((math_Copysign.f 0 13830554455654793216).bind fun t119 => ((ratio_Order.f k t119 0).bind fun t120 => (if t120 = (-1) then ((ratio_Blend.f 4607182418800017408 t111 0).bind fun t121 => (if (FloatKind.f64.format.order t121 4607182418800017408 == some .eq) = true then ((ratio_Mean.f ([] : List Nat)).bind fun t122 => ((math_IsNaN.f t122).bind fun t123 => (some t123))) else (some false))) else (some false)))) else (some false))) else (some false))) else (some false))) else (some false)))) else (some false)) = some r := H
 have A4 := Aside0.mk A40; clear A40; by_cases c5 : t113 = 10000
 rotate_left
 ·rw [if_neg c5] at H
  have c5b0 : (t113 == 10000) = false := beq_eq_false_iff_ne.mpr c5
  have c5b1 : (t113 != 10000) = true := bne_iff_ne.mpr c5
  exact absurd ((Option.some.inj H).trans hrt_.out) (by decide)
 rw [if_pos c5] at H; have c5b0 : (t113 == 10000) = true := beq_iff_eq.mpr c5
 have c5b1 : (t113 != 10000) = false := bne_eq_false_iff_eq.mpr c5
 clear c5; replace H := Option.bind_eq_some_iff.mp H; obtain ⟨t114, A60, H⟩ := H; replace H : ((ratio_Badness.f t114).bind fun t115 => (if t115 = 0 then ((ratio_Badness.f 4602678819172646912).bind fun t116 => (if t116 = 12 then ((ratio_Badness.f 13830554455654793216).bind fun t117 => (if t117 = 100 then ((ratio_Round.f 4612811918334230528).bind fun t118 => (if t118 = 2 then ((math_Copysign.f 0 13830554455654793216).bind fun t119 => ((ratio_Order.f k t119 0).bind fun t120 => (if t120 = (-1) then ((ratio_Blend.f 4607182418800017408 t111 0).bind fun t121 => (if (FloatKind.f64.format.order t121 4607182418800017408 == some .eq) = true then ((ratio_Mean.f ([] : List Nat)).bind fun t122 => ((math_IsNaN.f t122).bind fun t123 => (some t123))) else (some false))) else (some false)))) else (some false))) else (some false))) else (some false))) else (some false))) = some r := H
 have A6 := Aside0.mk A60; clear A60; replace H := Option.bind_eq_some_iff.mp H; obtain ⟨t115, A70, H⟩ := H; replace H : (if t115 = 0 then ((ratio_Badness.f 4602678819172646912).bind fun t116 => (if t116 = 12 then ((ratio_Badness.f 13830554455654793216).bind fun t117 => (if t117 = 100 then ((ratio_Round.f 4612811918334230528).bind fun t118 => (if t118 = 2 then ((math_Copysign.f 0 13830554455654793216).bind fun t119 => ((ratio_Order.f k t119 0).bind fun t120 => (if t120 = (-1) then ((ratio_Blend.f 4607182418800017408 t111 0).bind fun t121 => (if (FloatKind.f64.format.order t121 4607182418800017408 == some .eq) = true then ((ratio_Mean.f ([] : List Nat)).bind fun t122 => ((math_IsNaN.f t122).bind fun t123 => (some t123))) else (some false))) else (some false)))) else (some false))) else (some false))) else (some false))) else (some false)) = some r := H
 have A7 := Aside0.mk A70; clear A70; by_cases c8 : t115 = 0
 rotate_left
 ·rw [if_neg c8] at H
  have c8b0 : (t115 == 0) = false := beq_eq_false_iff_ne.mpr c8
  have c8b1 : (t115 != 0) = true := bne_iff_ne.mpr c8
  exact absurd ((Option.some.inj H).trans hrt_.out) (by decide)
 rw [if_pos c8] at H; have c8b0 : (t115 == 0) = true := beq_iff_eq.mpr c8
 have c8b1 : (t115 != 0) = false := bne_eq_false_iff_eq.mpr c8
 clear c8; replace H := Option.bind_eq_some_iff.mp H; obtain ⟨t116, A90, H⟩ := H; replace H : (if t116 = 12 then ((ratio_Badness.f 13830554455654793216).bind fun t117 => (if t117 = 100 then ((ratio_Round.f 4612811918334230528).bind fun t118 => (if t118 = 2 then ((math_Copysign.f 0 13830554455654793216).bind fun t119 => ((ratio_Order.f k t119 0).bind fun t120 => (if t120 = (-1) then ((ratio_Blend.f 4607182418800017408 t111 0).bind fun t121 => (if (FloatKind.f64.format.order t121 4607182418800017408 == some .eq) = true then ((ratio_Mean.f ([] : List Nat)).bind fun t122 => ((math_IsNaN.f t122).bind fun t123 => (some t123))) else (some false))) else (some false)))) else (some false))) else (some false))) else (some false)) = some r := H
 have A9 := Aside0.mk A90; clear A90; by_cases c10 : t116 = 12
 rotate_left
 ·rw [if_neg c10] at H
  have c10b0 : (t116 == 12) = false := beq_eq_false_iff_ne.mpr c10
  have c10b1 : (t116 != 12) = true := bne_iff_ne.mpr c10
  exact absurd ((Option.some.inj H).trans hrt_.out) (by decide)
 rw [if_pos c10] at H; have c10b0 : (t116 == 12) = true := beq_iff_eq.mpr c10
 have c10b1 : (t116 != 12) = false := bne_eq_false_iff_eq.mpr c10
 clear c10; replace H := Option.bind_eq_some_iff.mp H; obtain ⟨t117, A110, H⟩ := H; replace H : (if t117 = 100 then ((ratio_Round.f 4612811918334230528).bind fun t118 => (if t118 = 2 then ((math_Copysign.f 0 13830554455654793216).bind fun t119 => ((ratio_Order.f k t119 0).bind fun t120 => (if t120 = (-1) then ((ratio_Blend.f 4607182418800017408 t111 0).bind fun t121 => (if (FloatKind.f64.format.order t121 4607182418800017408 == some .eq) = true then ((ratio_Mean.f ([] : List Nat)).bind fun t122 => ((math_IsNaN.f t122).bind fun t123 => (some t123))) else (some false))) else (some false)))) else (some false))) else (some false)) = some r := H
 have A11 := Aside0.mk A110; clear A110; by_cases c12 : t117 = 100
 rotate_left
 ·rw [if_neg c12] at H
  have c12b0 : (t117 == 100) = false := beq_eq_false_iff_ne.mpr c12
  have c12b1 : (t117 != 100) = true := bne_iff_ne.mpr c12
  exact absurd ((Option.some.inj H).trans hrt_.out) (by decide)
 rw [if_pos c12] at H; have c12b0 : (t117 == 100) = true := beq_iff_eq.mpr c12
 have c12b1 : (t117 != 100) = false := bne_eq_false_iff_eq.mpr c12
 clear c12; replace H := Option.bind_eq_some_iff.mp H; obtain ⟨t118, A130, H⟩ := H; replace H : (if t118 = 2 then ((math_Copysign.f 0 13830554455654793216).bind fun t119 => ((ratio_Order.f k t119 0).bind fun t120 => (if t120 = (-1) then ((ratio_Blend.f 4607182418800017408 t111 0).bind fun t121 => (if (FloatKind.f64.format.order t121 4607182418800017408 == some .eq) = true then ((ratio_Mean.f ([] : List Nat)).bind fun t122 => ((math_IsNaN.f t122).bind fun t123 => (some t123))) else (some false))) else (some false)))) else (some false)) = some r := H
 have A13 := Aside0.mk A130; clear A130; by_cases c14 : t118 = 2
 rotate_left
 ·rw [if_neg c14] at H
  have c14b0 : (t118 == 2) = false := beq_eq_false_iff_ne.mpr c14
  have c14b1 : (t118 != 2) = true := bne_iff_ne.mpr c14
  exact absurd ((Option.some.inj H).trans hrt_.out) (by decide)
 rw [if_pos c14] at H; have c14b0 : (t118 == 2) = true := beq_iff_eq.mpr c14
 have c14b1 : (t118 != 2) = false := bne_eq_false_iff_eq.mpr c14
 clear c14; replace H := Option.bind_eq_some_iff.mp H; obtain ⟨t119, A150, H⟩ := H; replace H : ((ratio_Order.f k t119 0).bind fun t120 => (if t120 = (-1) then ((ratio_Blend.f 4607182418800017408 t111 0).bind fun t121 => (if (FloatKind.f64.format.order t121 4607182418800017408 == some .eq) = true then ((ratio_Mean.f ([] : List Nat)).bind fun t122 => ((math_IsNaN.f t122).bind fun t123 => (some t123))) else (some false))) else (some false))) = some r := H
 have A15 := Aside0.mk A150; clear A150; replace H := Option.bind_eq_some_iff.mp H; obtain ⟨t120, A160, H⟩ := H; replace H : (if t120 = (-1) then ((ratio_Blend.f 4607182418800017408 t111 0).bind fun t121 => (if (FloatKind.f64.format.order t121 4607182418800017408 == some .eq) = true then ((ratio_Mean.f ([] : List Nat)).bind fun t122 => ((math_IsNaN.f t122).bind fun t123 => (some t123))) else (some false))) else (some false)) = some r := H
 have A16 := Aside0.mk A160; clear A160; by_cases c17 : t120 = (-1)
 rotate_left
 ·rw [if_neg c17] at H
  have c17b0 : (t120 == (-1)) = false := beq_eq_false_iff_ne.mpr c17
  have c17b1 : (t120 != (-1)) = true := bne_iff_ne.mpr c17
  exact absurd ((Option.some.inj H).trans hrt_.out) (by decide)
 rw [if_pos c17] at H; have c17b0 : (t120 == (-1)) = true := beq_iff_eq.mpr c17
 have c17b1 : (t120 != (-1)) = false := bne_eq_false_iff_eq.mpr c17
 clear c17; replace H := Option.bind_eq_some_iff.mp H; obtain ⟨t121, A180, H⟩ := H; replace H : (if (FloatKind.f64.format.order t121 4607182418800017408 == some .eq) = true then ((ratio_Mean.f ([] : List Nat)).bind fun t122 => ((math_IsNaN.f t122).bind fun t123 => (some t123))) else (some false)) = some r := H
 have A18 := Aside0.mk A180; clear A180; by_cases c19 : (FloatKind.f64.format.order t121 4607182418800017408 == some .eq) = true
 rotate_left
 ·rw [if_neg c19] at H
  have c19b0 : (FloatKind.f64.format.order t121 4607182418800017408 == some .eq) = false := by simpa using c19
  (try (have c19b1 : decide (FloatKind.f64.format.order t121 4607182418800017408 = some .eq) = false := by simpa using c19))
  (try (have c19b2 : (FloatKind.f64.format.order t121 4607182418800017408 == some .eq) = false := by simpa using c19))
  (try (have c19b3 : ¬ (FloatKind.f64.format.order t121 4607182418800017408 = some .eq) := by simpa using c19))
  clear c19; exact absurd ((Option.some.inj H).trans hrt_.out) (by decide)
 rw [if_pos c19] at H; have c19b0 : (FloatKind.f64.format.order t121 4607182418800017408 == some .eq) = true := c19
 (try (have c19b1 : decide (FloatKind.f64.format.order t121 4607182418800017408 = some .eq) = true := by simpa using c19))
 (try (have c19b2 : (FloatKind.f64.format.order t121 4607182418800017408 == some .eq) = true := by simpa using c19))
 clear c19; replace H := Option.bind_eq_some_iff.mp H; obtain ⟨t122, A200, H⟩ := H; replace H : ((math_IsNaN.f t122).bind fun t123 => (some t123)) = some r := H
 have A20 := Aside0.mk A200; clear A200; replace H := Option.bind_eq_some_iff.mp H; obtain ⟨t123, A210, H⟩ := H; replace H : (some t123) = some r := H; have A21 := Aside0.mk A210; clear A210; obtain rfl := Option.some.inj H
 go_enter Try.func10, Try.ntmps10
 go_wp2_with (first | ((with_reducible refine gate_callee (f := 16) rfl ?_); refine goesL_ (some 2) rfl rfl Try.func16 (by kernel_rfl) rfl #[.int .i64 1] rfl aT ?_; (with_reducible refine (math_Inf.calls 1 t111 _ A1.out).mono ?_); rintro e w' ⟨rfl, ⟨nd, rfl⟩⟩; refine ⟨_, rfl, ?_⟩) | ((with_reducible refine gate_callee (f := 18) rfl ?_); refine goesL_ (some 3) rfl rfl Try.func18 (by kernel_rfl) rfl #[.int .i64 1, .int .i64 0] rfl aT ?_; (with_reducible refine (ratio_Of.calls 1 0 t112 _ A2.out).mono ?_); rintro e w' ⟨bt_t112, rfl, ⟨nd, rfl⟩, hfr_⟩; have HF_t112 := Aside0.mk hfr_; clear hfr_; have c3b0r : (FloatKind.f64.format.order bt_t112 t111 == some .eq) = true := (by first | (rw [HF_t112.out.order_l]; exact c3b0) | (rw [HF_t112.out.order_r]; exact c3b0)); have c3b1r : decide (FloatKind.f64.format.order bt_t112 t111 = some .eq) = true := (by first | (rw [HF_t112.out.order_l]; exact c3b1) | (rw [HF_t112.out.order_r]; exact c3b1)); have c3b2r : (FloatKind.f64.format.order bt_t112 t111 == some .eq) = true := (by first | (rw [HF_t112.out.order_l]; exact c3b2) | (rw [HF_t112.out.order_r]; exact c3b2)); refine ⟨_, rfl, ?_⟩) | (go_at_call 19; (with_reducible refine (ratio_Badness.calls t111 t113 _ A4.out).mono ?_); rintro e w' ⟨rfl, ⟨nd, rfl⟩⟩) | (go_at_call 18; (with_reducible refine (ratio_Of.calls 0 0 t114 _ A6.out).mono ?_); rintro e w' ⟨bt_t114, rfl, ⟨nd, rfl⟩, hfr_⟩; have HF_t114 := Aside0.mk hfr_; clear hfr_) | (go_at_call 19; (with_reducible refine (ratio_Badness.calls t114 t115 _ A7.out).mono ?_); rintro e w' ⟨rfl, ⟨nd, rfl⟩⟩) | (go_at_call 19; (with_reducible refine (ratio_Badness.calls 4602678819172646912 t116 _ A9.out).mono ?_); rintro e w' ⟨rfl, ⟨nd, rfl⟩⟩) | (go_at_call 19; (with_reducible refine (ratio_Badness.calls 13830554455654793216 t117 _ A11.out).mono ?_); rintro e w' ⟨rfl, ⟨nd, rfl⟩⟩) | (go_at_call 29; (with_reducible refine (ratio_Round.calls 4612811918334230528 t118 _ A13.out).mono ?_); rintro e w' ⟨rfl, ⟨nd, rfl⟩⟩) | (go_at_call 14; (with_reducible refine (math_Copysign.calls 0 13830554455654793216 t119 _ A15.out).mono ?_); rintro e w' ⟨rfl, ⟨nd, rfl⟩⟩) | (go_at_call 12; (with_reducible refine (ratio_Order.calls k t119 0 t120 _ A16.out).mono ?_); rintro e w' ⟨rfl, ⟨nd, rfl⟩⟩) | (go_at_call 22; (with_reducible refine (ratio_Blend.calls 4607182418800017408 t111 0 t121 _ A18.out).mono ?_); rintro e w' ⟨bt_t121, rfl, ⟨nd, rfl⟩, hfr_⟩; have HF_t121 := Aside0.mk hfr_; clear hfr_; have c19b0r : (FloatKind.f64.format.order bt_t121 4607182418800017408 == some .eq) = true := (by first | (rw [HF_t121.out.order_l]; exact c19b0) | (rw [HF_t121.out.order_r]; exact c19b0)); have c19b1r : decide (FloatKind.f64.format.order bt_t121 4607182418800017408 = some .eq) = true := (by first | (rw [HF_t121.out.order_l]; exact c19b1) | (rw [HF_t121.out.order_r]; exact c19b1)); have c19b2r : (FloatKind.f64.format.order bt_t121 4607182418800017408 == some .eq) = true := (by first | (rw [HF_t121.out.order_l]; exact c19b2) | (rw [HF_t121.out.order_r]; exact c19b2))) | (go_at_call 26; (refine (ratio_Mean.calls _ _ ([] : List Nat) t122 _ ?side1 ?side2 A20.out).mono ?_); (case side1 => exact Kd.C_nil _ _); (case side2 => exact Nat.le_refl _); rintro e w' ⟨bt_t122, rfl, ⟨nd, rfl⟩, hfr_⟩; have HF_t122 := Aside0.mk hfr_; clear hfr_) | (go_at_call 31; (with_reducible refine (math_IsNaN.calls t122 t123 _ A21.out).mono ?_); rintro e w' ⟨rfl, ⟨nd, rfl⟩⟩))
 go_ret
 exact ⟨by first | rfl | (simp; done) | (simp [*]; done), by repeat (first | exact Drawn0.refl _ | apply Drawn0.step)⟩
def math_NaN.f : Option Nat := some 9221120237041090561
set_option maxHeartbeats 8000000 in
set_option maxRecDepth 100000 in
theorem math_NaN.calls  (r : Nat) (w : World) (h : math_NaN.f  = some r) :
  Calls Try.prog 15 #[] w fun e w' => e = .returned (.float .f64 r) ∧ Drawn0 w w' := by
 have hu := Try.underlying22; have hu2 := Try.underlying12; have hB : ∀ (b : Int) (W : World), (callFunc 36 #[.int .u64 b]).run Try.prog W = .ok (.value (.float .f64 b.toNat)) W := fun b W => by rw [run_callFunc_extern (fn := Try.f36) (e := Extern.MathFloatBits.float64frombits) (by kernel_rfl) (by kernel_rfl) (by kernel_rfl) (by rfl) (by rfl)]; rfl
 obtain rfl := Option.some.inj h
 go_enter Try.func15, Try.ntmps15
 go_wp2
 go_ret
 exact ⟨rfl, Drawn0.refl _⟩
def r2_None.f (a0 : Nat) : Option (Bool) := some (FloatKind.f64.format.order a0 a0 != some .eq)
set_option maxHeartbeats 8000000 in
set_option maxRecDepth 100000 in
theorem r2_None.calls (a0 : Nat) (r : Bool) (w : World) (h : r2_None.f a0 = some r) :
  Calls Try.prog 34 #[.float .f64 a0] w fun e w' => e = .returned (.bool r) ∧ Drawn0 w w' := by
 have H : (some (FloatKind.f64.format.order a0 a0 != some .eq)) = some r := h
 clear h; obtain rfl := Option.some.inj H
 go_enter Try.func34, Try.ntmps34
 go_wp2
 go_ret
 exact ⟨by first | rfl | (simp; done) | (simp [*]; done), by repeat (first | exact Drawn0.refl _ | apply Drawn0.step)⟩
def samef (a b : Nat) : Bool := isNan a && isNan b || ((a : Int) == (b : Int))
theorem same_fr {a b x y : Nat} (h : FR a x) (k : FR b y) : samef a b = samef x y := by
 unfold samef
 rw [h.nan, k.nan]; rcases h with rfl | ⟨h1, h2⟩
 ·rcases k with rfl | ⟨k1, k2⟩
  ·rfl
  rw [k2]; cases hx : isNan a
  ·have e1 : ((a : Int) == (b : Int)) = false := beq_eq_false_iff_ne.2 (fun e => by rw [Int.ofNat_inj.1 e, k1] at hx; cases hx)
   have e2 : ((a : Int) == (y : Int)) = false := beq_eq_false_iff_ne.2 (fun e => by rw [Int.ofNat_inj.1 e, k2] at hx; cases hx)
   rw [e1, e2]
  rfl
 rw [h2]; rcases k with rfl | ⟨k1, k2⟩
 ·cases hx : isNan b
  ·have e1 : ((a : Int) == (b : Int)) = false := beq_eq_false_iff_ne.2 (fun e => by rw [← Int.ofNat_inj.1 e, h1] at hx; cases hx)
   have e2 : ((x : Int) == (b : Int)) = false := beq_eq_false_iff_ne.2 (fun e => by rw [← Int.ofNat_inj.1 e, h2] at hx; cases hx)
   rw [e1, e2]
  rfl
 rw [k2]; rfl
def r2_Same.f (a0 : Nat) (a1 : Nat) : Option Bool := some (samef a0 a1)
theorem none_nan1 (b : Nat) : r2_None.f b = some (isNan b) := by
 unfold r2_None.f
 cases h : isNan b
 ·rw [order_self h]; rfl
 rw [order_nan_l h]; rfl
set_option maxHeartbeats 8000000 in
set_option maxRecDepth 100000 in
theorem r2_Same.calls (a0 : Nat) (a1 : Nat) (r : Bool) (w : World) (h : r2_Same.f a0 a1 = some r) {b0_ : Nat} (hf0_ : Aside0 (FR a0 b0_) := by first | assumption | exact ⟨FR.same _⟩) {b1_ : Nat} (hf1_ : Aside0 (FR a1 b1_) := by first | assumption | exact ⟨FR.same _⟩) :
  Calls Try.prog 17 #[.float .f64 b0_, .float .f64 b1_] w fun e w' => e = .returned (.bool r) ∧ Drawn0 w w' := by
 have hu := Try.underlying22; have hu2 := Try.underlying12; have hA : ∀ (b : Nat) (W : World), (callFunc 37 #[.float .f64 b]).run Try.prog W = .ok (.value (.int .u64 b)) W := fun b W => by rw [run_callFunc_extern (fn := Try.f37) (e := Extern.MathFloatBits.float64bits) (by kernel_rfl) (by kernel_rfl) (by kernel_rfl) (by rfl) (by rfl)]; rfl
 obtain rfl := Option.some.inj h
 rw [same_fr hf0_.out hf1_.out]; unfold samef
 have HNa := Aside0.mk (none_nan1 b0_); have HNb := Aside0.mk (none_nan1 b1_); cases ea : isNan b0_ <;> cases eb : isNan b1_ <;> rw [ea] at HNa <;> rw [eb] at HNb
 all_goals
  go_enter Try.func17, Try.ntmps17
  go_wp2_with (first | (go_at_call 34; (with_reducible refine (r2_None.calls b0_ _ _ HNa.out).mono ?_); rintro e w' ⟨rfl, ⟨nd, rfl⟩⟩) | (go_at_call 34; (with_reducible refine (r2_None.calls b1_ _ _ HNb.out).mono ?_); rintro e w' ⟨rfl, ⟨nd2, rfl⟩⟩))
  go_ret
  exact ⟨by first | rfl | (simp; done) | (simp [*]; done), by repeat (first | exact Drawn0.refl _ | apply Drawn0.step)⟩
mutual
def stanzalaw12_RatioWhole.l0 : Nat → List (S28) → Int → Int → Option (Bool)
 | 0, _, _, _ => none
 | k + 1, x29, x30, x31 => if x31 < x30 then (if 0 ≤ x31 then (if x31 < (x29.length : Int) then ((ratio_Order.f k ((rd_T28 x29 x31).f0) ((rd_T28 x29 x31).f0)).bind fun t134 => (if t134 = 0 then ((ratio_Order.f k ((rd_T28 x29 x31).f0) ((rd_T28 x29 x31).f1)).bind fun t135 => ((ratio_Order.f k ((rd_T28 x29 x31).f1) ((rd_T28 x29 x31).f0)).bind fun t136 => (if t135 = (wrap64 (-t136)) then ((ratio_Order.f k ((rd_T28 x29 x31).f0) ((rd_T28 x29 x31).f1)).bind fun t137 => ((r2_Same.f ((rd_T28 x29 x31).f0) ((rd_T28 x29 x31).f1)).bind fun t138 => (stanzalaw12_RatioWhole.j1 k ((rd_T28 x29 x31).f0) ((rd_T28 x29 x31).f1) ((rd_T28 x29 x31).f2) x29 x30 x31 ((t137 == 0) != t138)))) else (stanzalaw12_RatioWhole.j1 k ((rd_T28 x29 x31).f0) ((rd_T28 x29 x31).f1) ((rd_T28 x29 x31).f2) x29 x30 x31 true)))) else (stanzalaw12_RatioWhole.j1 k ((rd_T28 x29 x31).f0) ((rd_T28 x29 x31).f1) ((rd_T28 x29 x31).f2) x29 x30 x31 true))) else (none)) else (none)) else (some true)
def stanzalaw12_RatioWhole.j1 : Nat → Nat → Nat → Nat → List (S28) → Int → Int → Bool → Option (Bool)
 | 0, _, _, _, _, _, _, _ => none
 | k + 1, x9, x10, x11, x29, x30, x31, x64 => if x64 = true then (some false) else ((ratio_Order.f k x9 x10).bind fun t139 => (if t139 ≤ 0 then ((ratio_Order.f k x10 x11).bind fun t140 => (if t140 ≤ 0 then ((ratio_Order.f k x9 x11).bind fun t141 => (if t141 > 0 then (some false) else (stanzalaw12_RatioWhole.l0 k x29 x30 (wrap64 (x31 + 1))))) else (stanzalaw12_RatioWhole.l0 k x29 x30 (wrap64 (x31 + 1))))) else (stanzalaw12_RatioWhole.l0 k x29 x30 (wrap64 (x31 + 1)))))
end
def stanzalaw12_RatioWhole.f (k : Nat) (a0 : Nat) (a1 : Nat) (a2 : Nat) : Option (Bool) := (stanzalaw12_Awake.f k).bind fun t124 => (if t124 = true then ((math_Copysign.f 0 13830554455654793216).bind fun t125 => ((math_NaN.f).bind fun t126 => ((math_Inf.f 1).bind fun t127 => ((math_Inf.f (-1)).bind fun t128 => ((some (([(⟨a0, a1, a2⟩ : S28), (⟨a0, 0, t125⟩ : S28), (⟨t126, a0, a1⟩ : S28), (⟨t127, a0, t128⟩ : S28)] : List (S28)) : List (S28))).bind fun y129 => (stanzalaw12_RatioWhole.l0 k y129 (y129.length : Int) 0)))))) else (some false))
theorem stanzalaw12_RatioWhole.mono_l : ∀ k, (∀ y0 y1 y2, LeO (stanzalaw12_RatioWhole.l0 k y0 y1 y2) (stanzalaw12_RatioWhole.l0 (k + 1) y0 y1 y2)) ∧ (∀ y0 y1 y2 y3 y4 y5 y6, LeO (stanzalaw12_RatioWhole.j1 k y0 y1 y2 y3 y4 y5 y6) (stanzalaw12_RatioWhole.j1 (k + 1) y0 y1 y2 y3 y4 y5 y6))
 | 0 => ⟨fun _ _ _ r h => by simp [stanzalaw12_RatioWhole.l0] at h, fun _ _ _ _ _ _ _ r h => by simp [stanzalaw12_RatioWhole.j1] at h⟩
 | k + 1 => by
  obtain ⟨ih0, ih1⟩ := stanzalaw12_RatioWhole.mono_l k; refine ⟨?_, ?_⟩
  ·intro y0 y1 y2
   unfold stanzalaw12_RatioWhole.l0
   repeat' (with_reducible first | exact ih0 _ _ _ | exact ih1 _ _ _ _ _ _ _ | exact ratio_Order.mono _ _ _ | exact stanzalaw12_Awake.mono _ | exact LeO.refl _ | exact LeO.none _ | refine LeO.ite ?_ ?_ | refine LeO.bind ?_ (fun _ => ?_))
  ·intro y0 y1 y2 y3 y4 y5 y6
   unfold stanzalaw12_RatioWhole.j1
   repeat' (with_reducible first | exact ih0 _ _ _ | exact ih1 _ _ _ _ _ _ _ | exact ratio_Order.mono _ _ _ | exact stanzalaw12_Awake.mono _ | exact LeO.refl _ | exact LeO.none _ | refine LeO.ite ?_ ?_ | refine LeO.bind ?_ (fun _ => ?_))
theorem stanzalaw12_RatioWhole.mono : ∀ a0 a1 a2 k, LeO (stanzalaw12_RatioWhole.f k a0 a1 a2) (stanzalaw12_RatioWhole.f (k + 1) a0 a1 a2) := by
 intro a0 a1 a2 k
 obtain ⟨ih0, ih1⟩ := stanzalaw12_RatioWhole.mono_l k; unfold stanzalaw12_RatioWhole.f
 repeat' (with_reducible first | exact ih0 _ _ _ | exact ih1 _ _ _ _ _ _ _ | exact ratio_Order.mono _ _ _ | exact stanzalaw12_Awake.mono _ | exact LeO.refl _ | exact LeO.none _ | refine LeO.ite ?_ ?_ | refine LeO.bind ?_ (fun _ => ?_))
set_option maxHeartbeats 8000000 in
set_option maxRecDepth 100000 in
theorem stanzalaw12_RatioWhole.calls (k : Nat) (a0 : Nat) (a1 : Nat) (a2 : Nat) (r : Bool) (w : World) (h : stanzalaw12_RatioWhole.f k a0 a1 a2 = some r) (hrt_ : Aside0 (r = true)) :
  Calls Try.prog 4 #[.float .f64 a0, .float .f64 a1, .float .f64 a2] w fun e w' => e = .returned (.bool r) ∧ Below w.heap.size w w' := by
 have hu28 := Try.underlying28; have HB := Aside0.mk (Below.refl w.heap.size w); have H : ((stanzalaw12_Awake.f k).bind fun t124 => (if t124 = true then ((math_Copysign.f 0 13830554455654793216).bind fun t125 => ((math_NaN.f).bind fun t126 => ((math_Inf.f 1).bind fun t127 => ((math_Inf.f (-1)).bind fun t128 => ((some (([(⟨a0, a1, a2⟩ : S28), (⟨a0, 0, t125⟩ : S28), (⟨t126, a0, a1⟩ : S28), (⟨t127, a0, t128⟩ : S28)] : List (S28)) : List (S28))).bind fun y129 => (stanzalaw12_RatioWhole.l0 k y129 (y129.length : Int) 0)))))) else (some false))) = some r := h
 clear h; replace H := Option.bind_eq_some_iff.mp H; obtain ⟨t124, A40, H⟩ := H; replace H : (if t124 = true then ((math_Copysign.f 0 13830554455654793216).bind fun t125 => ((math_NaN.f).bind fun t126 => ((math_Inf.f 1).bind fun t127 => ((math_Inf.f (-1)).bind fun t128 => ((some (([(⟨a0, a1, a2⟩ : S28), (⟨a0, 0, t125⟩ : S28), (⟨t126, a0, a1⟩ : S28), (⟨t127, a0, t128⟩ : S28)] : List (S28)) : List (S28))).bind fun y129 => (stanzalaw12_RatioWhole.l0 k y129 (y129.length : Int) 0)))))) else (some false)) = some r := H
 have A4 := Aside0.mk A40; clear A40; by_cases c5 : t124 = true
 rotate_left
 ·replace c5 := Bool.eq_false_iff.mpr c5
  subst c5; have H1 : (some false) = some r := by rw [if_neg (show ¬ (false = true) by decide)] at H; exact H
  clear H; have H := H1; clear H1; exact absurd ((Option.some.inj H).trans hrt_.out) (by decide)
 subst c5; have H1 : ((math_Copysign.f 0 13830554455654793216).bind fun t125 => ((math_NaN.f).bind fun t126 => ((math_Inf.f 1).bind fun t127 => ((math_Inf.f (-1)).bind fun t128 => ((some (([(⟨a0, a1, a2⟩ : S28), (⟨a0, 0, t125⟩ : S28), (⟨t126, a0, a1⟩ : S28), (⟨t127, a0, t128⟩ : S28)] : List (S28)) : List (S28))).bind fun y129 => (stanzalaw12_RatioWhole.l0 k y129 (y129.length : Int) 0)))))) = some r := by rw [if_pos rfl] at H; exact H
 clear H; have H := H1; clear H1; replace H := Option.bind_eq_some_iff.mp H; obtain ⟨t125, A60, H⟩ := H; replace H : ((math_NaN.f).bind fun t126 => ((math_Inf.f 1).bind fun t127 => ((math_Inf.f (-1)).bind fun t128 => ((some (([(⟨a0, a1, a2⟩ : S28), (⟨a0, 0, t125⟩ : S28), (⟨t126, a0, a1⟩ : S28), (⟨t127, a0, t128⟩ : S28)] : List (S28)) : List (S28))).bind fun y129 => (stanzalaw12_RatioWhole.l0 k y129 (y129.length : Int) 0))))) = some r := H
 have A6 := Aside0.mk A60; clear A60; replace H := Option.bind_eq_some_iff.mp H; obtain ⟨t126, A70, H⟩ := H; replace H : ((math_Inf.f 1).bind fun t127 => ((math_Inf.f (-1)).bind fun t128 => ((some (([(⟨a0, a1, a2⟩ : S28), (⟨a0, 0, t125⟩ : S28), (⟨t126, a0, a1⟩ : S28), (⟨t127, a0, t128⟩ : S28)] : List (S28)) : List (S28))).bind fun y129 => (stanzalaw12_RatioWhole.l0 k y129 (y129.length : Int) 0)))) = some r := H
 have A7 := Aside0.mk A70; clear A70; replace H := Option.bind_eq_some_iff.mp H; obtain ⟨t127, A80, H⟩ := H; replace H : ((math_Inf.f (-1)).bind fun t128 => ((some (([(⟨a0, a1, a2⟩ : S28), (⟨a0, 0, t125⟩ : S28), (⟨t126, a0, a1⟩ : S28), (⟨t127, a0, t128⟩ : S28)] : List (S28)) : List (S28))).bind fun y129 => (stanzalaw12_RatioWhole.l0 k y129 (y129.length : Int) 0))) = some r := H
 have A8 := Aside0.mk A80; clear A80; replace H := Option.bind_eq_some_iff.mp H; obtain ⟨t128, A90, H⟩ := H; replace H : ((some (([(⟨a0, a1, a2⟩ : S28), (⟨a0, 0, t125⟩ : S28), (⟨t126, a0, a1⟩ : S28), (⟨t127, a0, t128⟩ : S28)] : List (S28)) : List (S28))).bind fun y129 => (stanzalaw12_RatioWhole.l0 k y129 (y129.length : Int) 0)) = some r := H
 have A9 := Aside0.mk A90; clear A90; obtain ⟨y129, hy129⟩ : ∃ y_ : List (S28), y_ = (([(⟨a0, a1, a2⟩ : S28), (⟨a0, 0, t125⟩ : S28), (⟨t126, a0, a1⟩ : S28), (⟨t127, a0, t128⟩ : S28)] : List (S28))) := ⟨_, rfl⟩; replace H : (stanzalaw12_RatioWhole.l0 k y129 (y129.length : Int) 0) = some r := by first | (rw [hy129]; with_reducible exact H) | (have H2_ := (Option.bind_some _ _).symm.trans H; rw [hy129]; with_reducible exact H2_) | (have H2_ := (Option.bind_some _ _).symm.trans H; with_reducible exact H2_) | with_reducible exact H | (rw [hy129]; exact H) | exact H
 have Ny129 := Aside0.mk hy129; clear hy129; have H' := Aside0.mk H
 clear H; go_enter Try.func4, Try.ntmps4
 go_wp2_with (first | (go_at_call 10; (with_reducible refine (stanzalaw12_Awake.calls k  true _ A4.out (by first | exact ⟨rfl⟩ | exact hrt_)).mono ?_); rintro e w' ⟨rfl, ⟨nd, rfl⟩⟩; (try first | exact ⟨rfl, _, World.drewN_drewN _ _ _⟩ | exact ⟨rfl, _, Eq.trans (World.drewN_drewN _ _ _) (congrArg (World.drewN _) (Nat.add_assoc _ _ _))⟩)) | (go_at_call 14; (with_reducible refine (math_Copysign.calls 0 13830554455654793216 t125 _ A6.out).mono ?_); rintro e w' ⟨rfl, ⟨nd, rfl⟩⟩; (try first | exact ⟨rfl, _, World.drewN_drewN _ _ _⟩ | exact ⟨rfl, _, Eq.trans (World.drewN_drewN _ _ _) (congrArg (World.drewN _) (Nat.add_assoc _ _ _))⟩)) | (go_at_call 15; (with_reducible refine (math_NaN.calls  t126 _ A7.out).mono ?_); rintro e w' ⟨rfl, ⟨nd, rfl⟩⟩; (try first | exact ⟨rfl, _, World.drewN_drewN _ _ _⟩ | exact ⟨rfl, _, Eq.trans (World.drewN_drewN _ _ _) (congrArg (World.drewN _) (Nat.add_assoc _ _ _))⟩)) | (go_at_call 16; (with_reducible refine (math_Inf.calls 1 t127 _ A8.out).mono ?_); rintro e w' ⟨rfl, ⟨nd, rfl⟩⟩; (try first | exact ⟨rfl, _, World.drewN_drewN _ _ _⟩ | exact ⟨rfl, _, Eq.trans (World.drewN_drewN _ _ _) (congrArg (World.drewN _) (Nat.add_assoc _ _ _))⟩)) | (go_at_call 16; (with_reducible refine (math_Inf.calls (-1) t128 _ A9.out).mono ?_); rintro e w' ⟨rfl, ⟨nd, rfl⟩⟩; (try first | exact ⟨rfl, _, World.drewN_drewN _ _ _⟩ | exact ⟨rfl, _, Eq.trans (World.drewN_drewN _ _ _) (congrArg (World.drewN _) (Nat.add_assoc _ _ _))⟩)) | ((with_reducible refine gate_dst (N := 29) rfl ?_); refine Kd.R_lit k28 _ 28 ?hg (N := 29) ?hd (xs := ([(⟨a0, a1, a2⟩ : S28), (⟨a0, 0, t125⟩ : S28), (⟨t126, a0, a1⟩ : S28), (⟨t127, a0, t128⟩ : S28)] : List (S28))) (inner := [.float .f64 a0, .float .f64 a1, .float .f64 a2, .float .f64 a0, .float .f64 0, .float .f64 t125, .float .f64 t126, .float .f64 a0, .float .f64 a1, .float .f64 t127, .float .f64 a0, .float .f64 t128]) (ok := fun _ => True) (okp := fun _ => True) ?hr ?hp (fun _ hk => hk) trivial (Below.refl _ _) (Nat.le_refl _) (by simp) ?_; (case hd => rfl); (case hg => rfl); (case hr => first | (go_simp; done) | (go_simp; rfl)); (case hp => exact (Reps.c3 (show Kd.M k28 _ _ _ (⟨a0, a1, a2⟩ : S28) [.float .f64 a0, .float .f64 a1, .float .f64 a2] from (k28_mkM _ _ _ (⟨a0, a1, a2⟩ : S28) )) (Reps.c3 (show Kd.M k28 _ _ _ (⟨a0, 0, t125⟩ : S28) [.float .f64 a0, .float .f64 0, .float .f64 t125] from (k28_mkM _ _ _ (⟨a0, 0, t125⟩ : S28) )) (Reps.c3 (show Kd.M k28 _ _ _ (⟨t126, a0, a1⟩ : S28) [.float .f64 t126, .float .f64 a0, .float .f64 a1] from (k28_mkM _ _ _ (⟨t126, a0, a1⟩ : S28) )) (Reps.c3 (show Kd.M k28 _ _ _ (⟨t127, a0, t128⟩ : S28) [.float .f64 t127, .float .f64 a0, .float .f64 t128] from (k28_mkM _ _ _ (⟨t127, a0, t128⟩ : S28) )) (Reps.none _ _)))))); intro v130 w10 ho11 hb hg_ hnew_; clear hg_ hnew_; (first | rw [← Ny129.out] at ho11 | (simp only [Int.reduceToNat] at ho11; rw [← Ny129.out] at ho11)); have n0_ := Aside0.mk (Kd.zL ho11 (below_size (aL HB))); have n1_ := Aside0.mk (below_step (aL HB) hb); clear HB; have HO131 := n0_; have HB := n1_; clear n0_ n1_; clear hb ho11; obtain ⟨Ao12, co12, eo12⟩ := Kd.zK HO131.out; subst eo12))
 repeat (go_quiet (first | (go_at_call 10; (with_reducible refine (stanzalaw12_Awake.calls k  true _ A4.out (by first | exact ⟨rfl⟩ | exact hrt_)).mono ?_); rintro e w' ⟨rfl, ⟨nd, rfl⟩⟩; (try first | exact ⟨rfl, _, World.drewN_drewN _ _ _⟩ | exact ⟨rfl, _, Eq.trans (World.drewN_drewN _ _ _) (congrArg (World.drewN _) (Nat.add_assoc _ _ _))⟩)) | (go_at_call 14; (with_reducible refine (math_Copysign.calls 0 13830554455654793216 t125 _ A6.out).mono ?_); rintro e w' ⟨rfl, ⟨nd, rfl⟩⟩; (try first | exact ⟨rfl, _, World.drewN_drewN _ _ _⟩ | exact ⟨rfl, _, Eq.trans (World.drewN_drewN _ _ _) (congrArg (World.drewN _) (Nat.add_assoc _ _ _))⟩)) | (go_at_call 15; (with_reducible refine (math_NaN.calls  t126 _ A7.out).mono ?_); rintro e w' ⟨rfl, ⟨nd, rfl⟩⟩; (try first | exact ⟨rfl, _, World.drewN_drewN _ _ _⟩ | exact ⟨rfl, _, Eq.trans (World.drewN_drewN _ _ _) (congrArg (World.drewN _) (Nat.add_assoc _ _ _))⟩)) | (go_at_call 16; (with_reducible refine (math_Inf.calls 1 t127 _ A8.out).mono ?_); rintro e w' ⟨rfl, ⟨nd, rfl⟩⟩; (try first | exact ⟨rfl, _, World.drewN_drewN _ _ _⟩ | exact ⟨rfl, _, Eq.trans (World.drewN_drewN _ _ _) (congrArg (World.drewN _) (Nat.add_assoc _ _ _))⟩)) | (go_at_call 16; (with_reducible refine (math_Inf.calls (-1) t128 _ A9.out).mono ?_); rintro e w' ⟨rfl, ⟨nd, rfl⟩⟩; (try first | exact ⟨rfl, _, World.drewN_drewN _ _ _⟩ | exact ⟨rfl, _, Eq.trans (World.drewN_drewN _ _ _) (congrArg (World.drewN _) (Nat.add_assoc _ _ _))⟩)) | ((with_reducible refine gate_dst (N := 29) rfl ?_); refine Kd.R_lit k28 _ 28 ?hg (N := 29) ?hd (xs := ([(⟨a0, a1, a2⟩ : S28), (⟨a0, 0, t125⟩ : S28), (⟨t126, a0, a1⟩ : S28), (⟨t127, a0, t128⟩ : S28)] : List (S28))) (inner := [.float .f64 a0, .float .f64 a1, .float .f64 a2, .float .f64 a0, .float .f64 0, .float .f64 t125, .float .f64 t126, .float .f64 a0, .float .f64 a1, .float .f64 t127, .float .f64 a0, .float .f64 t128]) (ok := fun _ => True) (okp := fun _ => True) ?hr ?hp (fun _ hk => hk) trivial (Below.refl _ _) (Nat.le_refl _) (by simp) ?_; (case hd => rfl); (case hg => rfl); (case hr => first | (go_simp; done) | (go_simp; rfl)); (case hp => exact (Reps.c3 (show Kd.M k28 _ _ _ (⟨a0, a1, a2⟩ : S28) [.float .f64 a0, .float .f64 a1, .float .f64 a2] from (k28_mkM _ _ _ (⟨a0, a1, a2⟩ : S28) )) (Reps.c3 (show Kd.M k28 _ _ _ (⟨a0, 0, t125⟩ : S28) [.float .f64 a0, .float .f64 0, .float .f64 t125] from (k28_mkM _ _ _ (⟨a0, 0, t125⟩ : S28) )) (Reps.c3 (show Kd.M k28 _ _ _ (⟨t126, a0, a1⟩ : S28) [.float .f64 t126, .float .f64 a0, .float .f64 a1] from (k28_mkM _ _ _ (⟨t126, a0, a1⟩ : S28) )) (Reps.c3 (show Kd.M k28 _ _ _ (⟨t127, a0, t128⟩ : S28) [.float .f64 t127, .float .f64 a0, .float .f64 t128] from (k28_mkM _ _ _ (⟨t127, a0, t128⟩ : S28) )) (Reps.none _ _)))))); intro v130 w10 ho11 hb hg_ hnew_; clear hg_ hnew_; (first | rw [← Ny129.out] at ho11 | (simp only [Int.reduceToNat] at ho11; rw [← Ny129.out] at ho11)); have n0_ := Aside0.mk (Kd.zL ho11 (below_size (aL HB))); have n1_ := Aside0.mk (below_step (aL HB) hb); clear HB; have HO131 := n0_; have HB := n1_; clear n0_ n1_; clear hb ho11; obtain ⟨Ao12, co12, eo12⟩ := Kd.zK HO131.out; subst eo12)); try go_wp2_with (first | (go_at_call 10; (with_reducible refine (stanzalaw12_Awake.calls k  true _ A4.out (by first | exact ⟨rfl⟩ | exact hrt_)).mono ?_); rintro e w' ⟨rfl, ⟨nd, rfl⟩⟩; (try first | exact ⟨rfl, _, World.drewN_drewN _ _ _⟩ | exact ⟨rfl, _, Eq.trans (World.drewN_drewN _ _ _) (congrArg (World.drewN _) (Nat.add_assoc _ _ _))⟩)) | (go_at_call 14; (with_reducible refine (math_Copysign.calls 0 13830554455654793216 t125 _ A6.out).mono ?_); rintro e w' ⟨rfl, ⟨nd, rfl⟩⟩; (try first | exact ⟨rfl, _, World.drewN_drewN _ _ _⟩ | exact ⟨rfl, _, Eq.trans (World.drewN_drewN _ _ _) (congrArg (World.drewN _) (Nat.add_assoc _ _ _))⟩)) | (go_at_call 15; (with_reducible refine (math_NaN.calls  t126 _ A7.out).mono ?_); rintro e w' ⟨rfl, ⟨nd, rfl⟩⟩; (try first | exact ⟨rfl, _, World.drewN_drewN _ _ _⟩ | exact ⟨rfl, _, Eq.trans (World.drewN_drewN _ _ _) (congrArg (World.drewN _) (Nat.add_assoc _ _ _))⟩)) | (go_at_call 16; (with_reducible refine (math_Inf.calls 1 t127 _ A8.out).mono ?_); rintro e w' ⟨rfl, ⟨nd, rfl⟩⟩; (try first | exact ⟨rfl, _, World.drewN_drewN _ _ _⟩ | exact ⟨rfl, _, Eq.trans (World.drewN_drewN _ _ _) (congrArg (World.drewN _) (Nat.add_assoc _ _ _))⟩)) | (go_at_call 16; (with_reducible refine (math_Inf.calls (-1) t128 _ A9.out).mono ?_); rintro e w' ⟨rfl, ⟨nd, rfl⟩⟩; (try first | exact ⟨rfl, _, World.drewN_drewN _ _ _⟩ | exact ⟨rfl, _, Eq.trans (World.drewN_drewN _ _ _) (congrArg (World.drewN _) (Nat.add_assoc _ _ _))⟩)) | ((with_reducible refine gate_dst (N := 29) rfl ?_); refine Kd.R_lit k28 _ 28 ?hg (N := 29) ?hd (xs := ([(⟨a0, a1, a2⟩ : S28), (⟨a0, 0, t125⟩ : S28), (⟨t126, a0, a1⟩ : S28), (⟨t127, a0, t128⟩ : S28)] : List (S28))) (inner := [.float .f64 a0, .float .f64 a1, .float .f64 a2, .float .f64 a0, .float .f64 0, .float .f64 t125, .float .f64 t126, .float .f64 a0, .float .f64 a1, .float .f64 t127, .float .f64 a0, .float .f64 t128]) (ok := fun _ => True) (okp := fun _ => True) ?hr ?hp (fun _ hk => hk) trivial (Below.refl _ _) (Nat.le_refl _) (by simp) ?_; (case hd => rfl); (case hg => rfl); (case hr => first | (go_simp; done) | (go_simp; rfl)); (case hp => exact (Reps.c3 (show Kd.M k28 _ _ _ (⟨a0, a1, a2⟩ : S28) [.float .f64 a0, .float .f64 a1, .float .f64 a2] from (k28_mkM _ _ _ (⟨a0, a1, a2⟩ : S28) )) (Reps.c3 (show Kd.M k28 _ _ _ (⟨a0, 0, t125⟩ : S28) [.float .f64 a0, .float .f64 0, .float .f64 t125] from (k28_mkM _ _ _ (⟨a0, 0, t125⟩ : S28) )) (Reps.c3 (show Kd.M k28 _ _ _ (⟨t126, a0, a1⟩ : S28) [.float .f64 t126, .float .f64 a0, .float .f64 a1] from (k28_mkM _ _ _ (⟨t126, a0, a1⟩ : S28) )) (Reps.c3 (show Kd.M k28 _ _ _ (⟨t127, a0, t128⟩ : S28) [.float .f64 t127, .float .f64 a0, .float .f64 t128] from (k28_mkM _ _ _ (⟨t127, a0, t128⟩ : S28) )) (Reps.none _ _)))))); intro v130 w10 ho11 hb hg_ hnew_; clear hg_ hnew_; (first | rw [← Ny129.out] at ho11 | (simp only [Int.reduceToNat] at ho11; rw [← Ny129.out] at ho11)); have n0_ := Aside0.mk (Kd.zL ho11 (below_size (aL HB))); have n1_ := Aside0.mk (below_step (aL HB) hb); clear HB; have HO131 := n0_; have HB := n1_; clear n0_ n1_; clear hb ho11; obtain ⟨Ao12, co12, eo12⟩ := Kd.zK HO131.out; subst eo12)))
 go_loopg [31] k (fun kq v31 w' => ∃ (x31_1 : Int), v31 = .int .i64 x31_1 ∧ Aside0 (stanzalaw12_RatioWhole.l0 kq y129 (y129.length : Int) x31_1 = some r) ∧ Aside0 (kq ≤ k) ∧ Aside0 (Kd.R k28 28 w' w.heap.size (fun _ => True) (.slice Ao12 y129.length co12) y129) ∧ Aside0 (Below w.heap.size w w'))
 case atStart => exact ⟨(0), aZ, H', ⟨Nat.le_refl _⟩, ⟨aR HO131⟩, ⟨aL HB⟩⟩
 clear H'; try clear p2
 try clear c3
 try clear c4
 try clear c5
 obtain ⟨x31_1, rfl, HA, HK1, HO_29, HB⟩ := hrel; cases gk with
 | zero => exact absurd HA.out (by simp [stanzalaw12_RatioWhole.l0])
 | succ k1 =>
  have H := HA.out; clear HA; simp only [stanzalaw12_RatioWhole.l0] at H; by_cases c13 : x31_1 < (y129.length : Int)
  rotate_left
  ·rw [if_neg c13] at H
   have c13b0 : decide (x31_1 < (y129.length : Int)) = false := decide_eq_false c13
   clear c13; obtain rfl := Option.some.inj H
   go_wp2
   repeat (go_quiet (fail); try go_wp2)
   go_ret
   exact ⟨aX, aL HB⟩
  rw [if_pos c13] at H; have c13b0 : decide (x31_1 < (y129.length : Int)) = true := decide_eq_true c13
  clear c13; by_cases c14 : 0 ≤ x31_1
  rotate_left
  ·rw [if_neg c14] at H
   exact absurd H (by simp)
  rw [if_pos c14] at H; have c14b0 : decide (0 ≤ x31_1) = true := decide_eq_true c14
  clear c14; by_cases c15 : x31_1 < (y129.length : Int)
  rotate_left
  ·rw [if_neg c15] at H
   exact absurd H (by simp)
  rw [if_pos c15] at H; have c15b0 : decide (x31_1 < (y129.length : Int)) = true := decide_eq_true c15
  clear c15; have HC16 := Aside0.mk H; clear H; have p132 : 0 ≤ (x31_1 : Int) := aD
  have q132 : x31_1 < (y129.length : Int) := aD
  obtain ⟨ad132, e132, hx132_0, hx132_1, hx132_2⟩ := at_T28 (Kd.zH HO_29.out).2.2 x31_1 p132 q132; cases e132
  replace p132 := eq_true p132; replace q132 := eq_true q132; go_upto_region 7 with (first | ((with_reducible refine gate_dst (N := 8) rfl ?_); refine box_event ?hg (N := 8) ?hd (cs := #[.float .f64 0, .float .f64 0, .float .f64 0]) (t := 28) ?hr ?_; (case hd => rfl); (case hg => rfl); (case hr => first | (go_simp; done) | (go_simp; rfl)); intro gb133 hg w17 hbox hb; have n0_ := Aside0.mk (Kd.zI (Kd.R_elderB (aR HO_29) gb133 (Nat.le_of_eq hg.symm)) hb); have n1_ := Aside0.mk (below_step (aL HB) hb); have n2_ := Aside0.mk (hbox); have n3_ := Aside0.mk ((by rw [hg]; exact (below_size (aL HB)) : w.heap.size ≤ gb133)); have n4_ := Aside0.mk ((by rw [hg]; exact (below_size (aL HB)) : w.heap.size ≤ gb133)); clear HO_29; clear HB; have HO_29 := n0_; have HB := n1_; have BK133 := n2_; have GW133 := n3_; have GE133 := n4_; clear n0_ n1_ n2_ n3_ n4_; clear hb hbox hg; obtain ⟨hcz18_0, hcz18_1, hcz18_2, hfz18_0, hfz18_1, hfz18_2⟩ := aC3 BK133) | ((with_reducible refine gate_store (t := 28) (p := 8) rfl ?_); (try (rw [drewN_self w17]; generalize hq_ : World.drewN w17 _ = w17; have n0_ := Aside0.mk (Kd.R_at hq_ HO_29.out); have n1_ := Aside0.mk (blk_at hq_ BK133.out); have n2_ := Aside0.mk (below_at hq_ HB.out); clear hq_ HO_29 BK133 HB; have HO_29 := n0_; have BK133 := n1_; have HB := n2_; clear n0_ n1_ n2_)); refine store_event (t := 28) (p := 8) (v := ?vo_w19) (w1 := (((w17.setCell ⟨gb133, 0, none⟩ (.float .f64 ((rd_T28 y129 x31_1).f0))).setCell ⟨gb133, 1, none⟩ (.float .f64 ((rd_T28 y129 x31_1).f1))).setCell ⟨gb133, 2, none⟩ (.float .f64 ((rd_T28 y129 x31_1).f2)))) ?hg ?ho ?hn ?hr ?_; (case ho => rfl); (case hg => rfl); (case hn => rfl); (case hr => first | (go_simp; done) | (go_simp; rfl)); intro w19 hw; have n0_ : Aside0 (Kd.R k28 28 w19 w.heap.size (fun k_ => k_ ≠ gb133) (.slice (some ad132) y129.length co12) y129) := ⟨(by rw [hw]; exact (by (with_reducible repeat (first | apply Kd.zA | apply Kd.zB | apply Kd.zC)); exact Kd.zM (Kd.zJ (p := ⟨gb133, 2, none⟩) (Kd.zJ (p := ⟨gb133, 1, none⟩) (Kd.zJ (p := ⟨gb133, 0, none⟩) (Kd.zM HO_29.out (fun k_ hk => (⟨hk, hk.2⟩ : _ ∧ k_ ≠ gb133))) (fun _ hk => hk.2) (.float .f64 ((rd_T28 y129 x31_1).f0))) (fun _ hk => hk.2) (.float .f64 ((rd_T28 y129 x31_1).f1))) (fun _ hk => hk.2) (.float .f64 ((rd_T28 y129 x31_1).f2))) (fun _ hk => hk.1.2)))⟩; have n1_ : Aside0 (w19.heap[gb133]? = some (.cells #[.float .f64 ((rd_T28 y129 x31_1).f0), .float .f64 ((rd_T28 y129 x31_1).f1), .float .f64 ((rd_T28 y129 x31_1).f2)] 28 (0, 0))) := ⟨(by rw [hw]; exact (by (with_reducible repeat (first | refine blk_drewN ?_ _ | refine blk_drew ?_ | refine blk_alloc ?_ _)); refine blk_put (cs := #[.float .f64 ((rd_T28 y129 x31_1).f0), .float .f64 ((rd_T28 y129 x31_1).f1), .float .f64 0]) ?_ 2 _ rfl; (with_reducible repeat (first | refine blk_drewN ?_ _ | refine blk_drew ?_ | refine blk_alloc ?_ _)); refine blk_put (cs := #[.float .f64 ((rd_T28 y129 x31_1).f0), .float .f64 0, .float .f64 0]) ?_ 1 _ rfl; (with_reducible repeat (first | refine blk_drewN ?_ _ | refine blk_drew ?_ | refine blk_alloc ?_ _)); refine blk_put (cs := #[.float .f64 0, .float .f64 0, .float .f64 0]) ?_ 0 _ rfl; (with_reducible repeat (first | refine blk_drewN ?_ _ | refine blk_drew ?_ | refine blk_alloc ?_ _)); exact BK133.out))⟩; have n2_ : Aside0 (Below w.heap.size w w19) := ⟨(by rw [hw]; exact (aL HB))⟩; clear hw; clear HO_29; clear BK133; clear HB; have HO_29 := n0_; have BK133 := n1_; have HB := n2_; clear n0_ n1_ n2_; obtain ⟨hcz20_0, hcz20_1, hcz20_2, hfz20_0, hfz20_1, hfz20_2⟩ := aC3 BK133))
  repeat (go_quiet (first | ((with_reducible refine gate_dst (N := 8) rfl ?_); refine box_event ?hg (N := 8) ?hd (cs := #[.float .f64 0, .float .f64 0, .float .f64 0]) (t := 28) ?hr ?_; (case hd => rfl); (case hg => rfl); (case hr => first | (go_simp; done) | (go_simp; rfl)); intro gb133 hg w17 hbox hb; have n0_ := Aside0.mk (Kd.zI (Kd.R_elderB (aR HO_29) gb133 (Nat.le_of_eq hg.symm)) hb); have n1_ := Aside0.mk (below_step (aL HB) hb); have n2_ := Aside0.mk (hbox); have n3_ := Aside0.mk ((by rw [hg]; exact (below_size (aL HB)) : w.heap.size ≤ gb133)); have n4_ := Aside0.mk ((by rw [hg]; exact (below_size (aL HB)) : w.heap.size ≤ gb133)); clear HO_29; clear HB; have HO_29 := n0_; have HB := n1_; have BK133 := n2_; have GW133 := n3_; have GE133 := n4_; clear n0_ n1_ n2_ n3_ n4_; clear hb hbox hg; obtain ⟨hcz18_0, hcz18_1, hcz18_2, hfz18_0, hfz18_1, hfz18_2⟩ := aC3 BK133) | ((with_reducible refine gate_store (t := 28) (p := 8) rfl ?_); (try (rw [drewN_self w17]; generalize hq_ : World.drewN w17 _ = w17; have n0_ := Aside0.mk (Kd.R_at hq_ HO_29.out); have n1_ := Aside0.mk (blk_at hq_ BK133.out); have n2_ := Aside0.mk (below_at hq_ HB.out); clear hq_ HO_29 BK133 HB; have HO_29 := n0_; have BK133 := n1_; have HB := n2_; clear n0_ n1_ n2_)); refine store_event (t := 28) (p := 8) (v := ?vo_w19) (w1 := (((w17.setCell ⟨gb133, 0, none⟩ (.float .f64 ((rd_T28 y129 x31_1).f0))).setCell ⟨gb133, 1, none⟩ (.float .f64 ((rd_T28 y129 x31_1).f1))).setCell ⟨gb133, 2, none⟩ (.float .f64 ((rd_T28 y129 x31_1).f2)))) ?hg ?ho ?hn ?hr ?_; (case ho => rfl); (case hg => rfl); (case hn => rfl); (case hr => first | (go_simp; done) | (go_simp; rfl)); intro w19 hw; have n0_ : Aside0 (Kd.R k28 28 w19 w.heap.size (fun k_ => k_ ≠ gb133) (.slice (some ad132) y129.length co12) y129) := ⟨(by rw [hw]; exact (by (with_reducible repeat (first | apply Kd.zA | apply Kd.zB | apply Kd.zC)); exact Kd.zM (Kd.zJ (p := ⟨gb133, 2, none⟩) (Kd.zJ (p := ⟨gb133, 1, none⟩) (Kd.zJ (p := ⟨gb133, 0, none⟩) (Kd.zM HO_29.out (fun k_ hk => (⟨hk, hk.2⟩ : _ ∧ k_ ≠ gb133))) (fun _ hk => hk.2) (.float .f64 ((rd_T28 y129 x31_1).f0))) (fun _ hk => hk.2) (.float .f64 ((rd_T28 y129 x31_1).f1))) (fun _ hk => hk.2) (.float .f64 ((rd_T28 y129 x31_1).f2))) (fun _ hk => hk.1.2)))⟩; have n1_ : Aside0 (w19.heap[gb133]? = some (.cells #[.float .f64 ((rd_T28 y129 x31_1).f0), .float .f64 ((rd_T28 y129 x31_1).f1), .float .f64 ((rd_T28 y129 x31_1).f2)] 28 (0, 0))) := ⟨(by rw [hw]; exact (by (with_reducible repeat (first | refine blk_drewN ?_ _ | refine blk_drew ?_ | refine blk_alloc ?_ _)); refine blk_put (cs := #[.float .f64 ((rd_T28 y129 x31_1).f0), .float .f64 ((rd_T28 y129 x31_1).f1), .float .f64 0]) ?_ 2 _ rfl; (with_reducible repeat (first | refine blk_drewN ?_ _ | refine blk_drew ?_ | refine blk_alloc ?_ _)); refine blk_put (cs := #[.float .f64 ((rd_T28 y129 x31_1).f0), .float .f64 0, .float .f64 0]) ?_ 1 _ rfl; (with_reducible repeat (first | refine blk_drewN ?_ _ | refine blk_drew ?_ | refine blk_alloc ?_ _)); refine blk_put (cs := #[.float .f64 0, .float .f64 0, .float .f64 0]) ?_ 0 _ rfl; (with_reducible repeat (first | refine blk_drewN ?_ _ | refine blk_drew ?_ | refine blk_alloc ?_ _)); exact BK133.out))⟩; have n2_ : Aside0 (Below w.heap.size w w19) := ⟨(by rw [hw]; exact (aL HB))⟩; clear hw; clear HO_29; clear BK133; clear HB; have HO_29 := n0_; have BK133 := n1_; have HB := n2_; clear n0_ n1_ n2_; obtain ⟨hcz20_0, hcz20_1, hcz20_2, hfz20_0, hfz20_1, hfz20_2⟩ := aC3 BK133)); go_upto_region 7 with (first | ((with_reducible refine gate_dst (N := 8) rfl ?_); refine box_event ?hg (N := 8) ?hd (cs := #[.float .f64 0, .float .f64 0, .float .f64 0]) (t := 28) ?hr ?_; (case hd => rfl); (case hg => rfl); (case hr => first | (go_simp; done) | (go_simp; rfl)); intro gb133 hg w17 hbox hb; have n0_ := Aside0.mk (Kd.zI (Kd.R_elderB (aR HO_29) gb133 (Nat.le_of_eq hg.symm)) hb); have n1_ := Aside0.mk (below_step (aL HB) hb); have n2_ := Aside0.mk (hbox); have n3_ := Aside0.mk ((by rw [hg]; exact (below_size (aL HB)) : w.heap.size ≤ gb133)); have n4_ := Aside0.mk ((by rw [hg]; exact (below_size (aL HB)) : w.heap.size ≤ gb133)); clear HO_29; clear HB; have HO_29 := n0_; have HB := n1_; have BK133 := n2_; have GW133 := n3_; have GE133 := n4_; clear n0_ n1_ n2_ n3_ n4_; clear hb hbox hg; obtain ⟨hcz18_0, hcz18_1, hcz18_2, hfz18_0, hfz18_1, hfz18_2⟩ := aC3 BK133) | ((with_reducible refine gate_store (t := 28) (p := 8) rfl ?_); (try (rw [drewN_self w17]; generalize hq_ : World.drewN w17 _ = w17; have n0_ := Aside0.mk (Kd.R_at hq_ HO_29.out); have n1_ := Aside0.mk (blk_at hq_ BK133.out); have n2_ := Aside0.mk (below_at hq_ HB.out); clear hq_ HO_29 BK133 HB; have HO_29 := n0_; have BK133 := n1_; have HB := n2_; clear n0_ n1_ n2_)); refine store_event (t := 28) (p := 8) (v := ?vo_w19) (w1 := (((w17.setCell ⟨gb133, 0, none⟩ (.float .f64 ((rd_T28 y129 x31_1).f0))).setCell ⟨gb133, 1, none⟩ (.float .f64 ((rd_T28 y129 x31_1).f1))).setCell ⟨gb133, 2, none⟩ (.float .f64 ((rd_T28 y129 x31_1).f2)))) ?hg ?ho ?hn ?hr ?_; (case ho => rfl); (case hg => rfl); (case hn => rfl); (case hr => first | (go_simp; done) | (go_simp; rfl)); intro w19 hw; have n0_ : Aside0 (Kd.R k28 28 w19 w.heap.size (fun k_ => k_ ≠ gb133) (.slice (some ad132) y129.length co12) y129) := ⟨(by rw [hw]; exact (by (with_reducible repeat (first | apply Kd.zA | apply Kd.zB | apply Kd.zC)); exact Kd.zM (Kd.zJ (p := ⟨gb133, 2, none⟩) (Kd.zJ (p := ⟨gb133, 1, none⟩) (Kd.zJ (p := ⟨gb133, 0, none⟩) (Kd.zM HO_29.out (fun k_ hk => (⟨hk, hk.2⟩ : _ ∧ k_ ≠ gb133))) (fun _ hk => hk.2) (.float .f64 ((rd_T28 y129 x31_1).f0))) (fun _ hk => hk.2) (.float .f64 ((rd_T28 y129 x31_1).f1))) (fun _ hk => hk.2) (.float .f64 ((rd_T28 y129 x31_1).f2))) (fun _ hk => hk.1.2)))⟩; have n1_ : Aside0 (w19.heap[gb133]? = some (.cells #[.float .f64 ((rd_T28 y129 x31_1).f0), .float .f64 ((rd_T28 y129 x31_1).f1), .float .f64 ((rd_T28 y129 x31_1).f2)] 28 (0, 0))) := ⟨(by rw [hw]; exact (by (with_reducible repeat (first | refine blk_drewN ?_ _ | refine blk_drew ?_ | refine blk_alloc ?_ _)); refine blk_put (cs := #[.float .f64 ((rd_T28 y129 x31_1).f0), .float .f64 ((rd_T28 y129 x31_1).f1), .float .f64 0]) ?_ 2 _ rfl; (with_reducible repeat (first | refine blk_drewN ?_ _ | refine blk_drew ?_ | refine blk_alloc ?_ _)); refine blk_put (cs := #[.float .f64 ((rd_T28 y129 x31_1).f0), .float .f64 0, .float .f64 0]) ?_ 1 _ rfl; (with_reducible repeat (first | refine blk_drewN ?_ _ | refine blk_drew ?_ | refine blk_alloc ?_ _)); refine blk_put (cs := #[.float .f64 0, .float .f64 0, .float .f64 0]) ?_ 0 _ rfl; (with_reducible repeat (first | refine blk_drewN ?_ _ | refine blk_drew ?_ | refine blk_alloc ?_ _)); exact BK133.out))⟩; have n2_ : Aside0 (Below w.heap.size w w19) := ⟨(by rw [hw]; exact (aL HB))⟩; clear hw; clear HO_29; clear BK133; clear HB; have HO_29 := n0_; have BK133 := n1_; have HB := n2_; clear n0_ n1_ n2_; obtain ⟨hcz20_0, hcz20_1, hcz20_2, hfz20_0, hfz20_1, hfz20_2⟩ := aC3 BK133)))
  (try simp only [Act.put, sA_, sB_, sC_])
  go_cut [64] (fun v64 wc => ∃ (kq : Nat) (x64_15 : Bool), v64 = .bool x64_15 ∧ Aside0 (stanzalaw12_RatioWhole.j1 kq ((rd_T28 y129 x31_1).f0) ((rd_T28 y129 x31_1).f1) ((rd_T28 y129 x31_1).f2) y129 (y129.length : Int) x31_1 x64_15 = some r) ∧ Aside0 (kq ≤ k1) ∧ Aside0 (Kd.R k28 28 wc w.heap.size (fun k_ => k_ ≠ gb133) (.slice (some ad132) y129.length co12) y129) ∧ Aside0 (wc.heap[gb133]? = some (.cells #[.float .f64 ((rd_T28 y129 x31_1).f0), .float .f64 ((rd_T28 y129 x31_1).f1), .float .f64 ((rd_T28 y129 x31_1).f2)] 28 (0, 0))) ∧ Aside0 (Below w.heap.size w wc))
  case first =>
   have H := HC16.out; clear HC16; replace H := Option.bind_eq_some_iff.mp H; obtain ⟨t134, A210, H⟩ := H; replace H : (if t134 = 0 then ((ratio_Order.f k1 ((rd_T28 y129 x31_1).f0) ((rd_T28 y129 x31_1).f1)).bind fun t135 => ((ratio_Order.f k1 ((rd_T28 y129 x31_1).f1) ((rd_T28 y129 x31_1).f0)).bind fun t136 => (if t135 = (wrap64 (-t136)) then ((ratio_Order.f k1 ((rd_T28 y129 x31_1).f0) ((rd_T28 y129 x31_1).f1)).bind fun t137 => ((r2_Same.f ((rd_T28 y129 x31_1).f0) ((rd_T28 y129 x31_1).f1)).bind fun t138 => (stanzalaw12_RatioWhole.j1 k1 ((rd_T28 y129 x31_1).f0) ((rd_T28 y129 x31_1).f1) ((rd_T28 y129 x31_1).f2) y129 (y129.length : Int) x31_1 ((t137 == 0) != t138)))) else (stanzalaw12_RatioWhole.j1 k1 ((rd_T28 y129 x31_1).f0) ((rd_T28 y129 x31_1).f1) ((rd_T28 y129 x31_1).f2) y129 (y129.length : Int) x31_1 true)))) else (stanzalaw12_RatioWhole.j1 k1 ((rd_T28 y129 x31_1).f0) ((rd_T28 y129 x31_1).f1) ((rd_T28 y129 x31_1).f2) y129 (y129.length : Int) x31_1 true)) = some r := H
   have A21 := Aside0.mk A210; clear A210; by_cases c22 : t134 = 0
   rotate_left
   ·rw [if_neg c22] at H
    have c22b0 : (t134 == 0) = false := beq_eq_false_iff_ne.mpr c22
    have c22b1 : (t134 != 0) = true := bne_iff_ne.mpr c22
    (first | rw [c22b0] | (simp only [i64_w, i32_w]; rw [c22b0]) | skip)
    have H' := Aside0.mk H
    clear H; go_wp2_with (first | (go_at_call 12; (with_reducible refine (ratio_Order.calls k1 ((rd_T28 y129 x31_1).f0) ((rd_T28 y129 x31_1).f0) t134 _ A21.out).mono ?_); rintro e w' ⟨rfl, ⟨nd, rfl⟩⟩; (try first | exact ⟨rfl, _, World.drewN_drewN _ _ _⟩ | exact ⟨rfl, _, Eq.trans (World.drewN_drewN _ _ _) (congrArg (World.drewN _) (Nat.add_assoc _ _ _))⟩)))
    repeat (go_quiet (first | (go_at_call 12; (with_reducible refine (ratio_Order.calls k1 ((rd_T28 y129 x31_1).f0) ((rd_T28 y129 x31_1).f0) t134 _ A21.out).mono ?_); rintro e w' ⟨rfl, ⟨nd, rfl⟩⟩; (try first | exact ⟨rfl, _, World.drewN_drewN _ _ _⟩ | exact ⟨rfl, _, Eq.trans (World.drewN_drewN _ _ _) (congrArg (World.drewN _) (Nat.add_assoc _ _ _))⟩))); try go_wp2_with (first | (go_at_call 12; (with_reducible refine (ratio_Order.calls k1 ((rd_T28 y129 x31_1).f0) ((rd_T28 y129 x31_1).f0) t134 _ A21.out).mono ?_); rintro e w' ⟨rfl, ⟨nd, rfl⟩⟩; (try first | exact ⟨rfl, _, World.drewN_drewN _ _ _⟩ | exact ⟨rfl, _, Eq.trans (World.drewN_drewN _ _ _) (congrArg (World.drewN _) (Nat.add_assoc _ _ _))⟩))))
    go_meet
    case rel => exact ⟨_, (true), aZ, H', ⟨by have := HK1.out; first | omega | exact Nat.le_refl _⟩, ⟨aR HO_29⟩, ⟨aB BK133⟩, ⟨aL HB⟩⟩
   rw [if_pos c22] at H; have c22b0 : (t134 == 0) = true := beq_iff_eq.mpr c22
   have c22b1 : (t134 != 0) = false := bne_eq_false_iff_eq.mpr c22
   clear c22; (first | rw [c22b0] | (simp only [i64_w, i32_w]; rw [c22b0]) | skip)
   replace H := Option.bind_eq_some_iff.mp H; obtain ⟨t135, A230, H⟩ := H; replace H : ((ratio_Order.f k1 ((rd_T28 y129 x31_1).f1) ((rd_T28 y129 x31_1).f0)).bind fun t136 => (if t135 = (wrap64 (-t136)) then ((ratio_Order.f k1 ((rd_T28 y129 x31_1).f0) ((rd_T28 y129 x31_1).f1)).bind fun t137 => ((r2_Same.f ((rd_T28 y129 x31_1).f0) ((rd_T28 y129 x31_1).f1)).bind fun t138 => (stanzalaw12_RatioWhole.j1 k1 ((rd_T28 y129 x31_1).f0) ((rd_T28 y129 x31_1).f1) ((rd_T28 y129 x31_1).f2) y129 (y129.length : Int) x31_1 ((t137 == 0) != t138)))) else (stanzalaw12_RatioWhole.j1 k1 ((rd_T28 y129 x31_1).f0) ((rd_T28 y129 x31_1).f1) ((rd_T28 y129 x31_1).f2) y129 (y129.length : Int) x31_1 true))) = some r := H
   have A23 := Aside0.mk A230; clear A230; replace H := Option.bind_eq_some_iff.mp H; obtain ⟨t136, A240, H⟩ := H; replace H : (if t135 = (wrap64 (-t136)) then ((ratio_Order.f k1 ((rd_T28 y129 x31_1).f0) ((rd_T28 y129 x31_1).f1)).bind fun t137 => ((r2_Same.f ((rd_T28 y129 x31_1).f0) ((rd_T28 y129 x31_1).f1)).bind fun t138 => (stanzalaw12_RatioWhole.j1 k1 ((rd_T28 y129 x31_1).f0) ((rd_T28 y129 x31_1).f1) ((rd_T28 y129 x31_1).f2) y129 (y129.length : Int) x31_1 ((t137 == 0) != t138)))) else (stanzalaw12_RatioWhole.j1 k1 ((rd_T28 y129 x31_1).f0) ((rd_T28 y129 x31_1).f1) ((rd_T28 y129 x31_1).f2) y129 (y129.length : Int) x31_1 true)) = some r := H
   have A24 := Aside0.mk A240; clear A240; by_cases c25 : t135 = (wrap64 (-t136))
   rotate_left
   ·rw [if_neg c25] at H
    have c25b0 : (t135 == (wrap64 (-t136))) = false := beq_eq_false_iff_ne.mpr c25
    have c25b1 : (t135 != (wrap64 (-t136))) = true := bne_iff_ne.mpr c25
    have H' := Aside0.mk H
    clear H; go_wp2_with (first | (go_at_call 12; (with_reducible refine (ratio_Order.calls k1 ((rd_T28 y129 x31_1).f0) ((rd_T28 y129 x31_1).f0) t134 _ A21.out).mono ?_); rintro e w' ⟨rfl, ⟨nd, rfl⟩⟩; (try first | exact ⟨rfl, _, World.drewN_drewN _ _ _⟩ | exact ⟨rfl, _, Eq.trans (World.drewN_drewN _ _ _) (congrArg (World.drewN _) (Nat.add_assoc _ _ _))⟩)) | (go_at_call 12; (with_reducible refine (ratio_Order.calls k1 ((rd_T28 y129 x31_1).f0) ((rd_T28 y129 x31_1).f1) t135 _ A23.out).mono ?_); rintro e w' ⟨rfl, ⟨nd, rfl⟩⟩; (try first | exact ⟨rfl, _, World.drewN_drewN _ _ _⟩ | exact ⟨rfl, _, Eq.trans (World.drewN_drewN _ _ _) (congrArg (World.drewN _) (Nat.add_assoc _ _ _))⟩)) | (go_at_call 12; (with_reducible refine (ratio_Order.calls k1 ((rd_T28 y129 x31_1).f1) ((rd_T28 y129 x31_1).f0) t136 _ A24.out).mono ?_); rintro e w' ⟨rfl, ⟨nd, rfl⟩⟩; (try first | exact ⟨rfl, _, World.drewN_drewN _ _ _⟩ | exact ⟨rfl, _, Eq.trans (World.drewN_drewN _ _ _) (congrArg (World.drewN _) (Nat.add_assoc _ _ _))⟩)))
    repeat (go_quiet (first | (go_at_call 12; (with_reducible refine (ratio_Order.calls k1 ((rd_T28 y129 x31_1).f0) ((rd_T28 y129 x31_1).f0) t134 _ A21.out).mono ?_); rintro e w' ⟨rfl, ⟨nd, rfl⟩⟩; (try first | exact ⟨rfl, _, World.drewN_drewN _ _ _⟩ | exact ⟨rfl, _, Eq.trans (World.drewN_drewN _ _ _) (congrArg (World.drewN _) (Nat.add_assoc _ _ _))⟩)) | (go_at_call 12; (with_reducible refine (ratio_Order.calls k1 ((rd_T28 y129 x31_1).f0) ((rd_T28 y129 x31_1).f1) t135 _ A23.out).mono ?_); rintro e w' ⟨rfl, ⟨nd, rfl⟩⟩; (try first | exact ⟨rfl, _, World.drewN_drewN _ _ _⟩ | exact ⟨rfl, _, Eq.trans (World.drewN_drewN _ _ _) (congrArg (World.drewN _) (Nat.add_assoc _ _ _))⟩)) | (go_at_call 12; (with_reducible refine (ratio_Order.calls k1 ((rd_T28 y129 x31_1).f1) ((rd_T28 y129 x31_1).f0) t136 _ A24.out).mono ?_); rintro e w' ⟨rfl, ⟨nd, rfl⟩⟩; (try first | exact ⟨rfl, _, World.drewN_drewN _ _ _⟩ | exact ⟨rfl, _, Eq.trans (World.drewN_drewN _ _ _) (congrArg (World.drewN _) (Nat.add_assoc _ _ _))⟩))); try go_wp2_with (first | (go_at_call 12; (with_reducible refine (ratio_Order.calls k1 ((rd_T28 y129 x31_1).f0) ((rd_T28 y129 x31_1).f0) t134 _ A21.out).mono ?_); rintro e w' ⟨rfl, ⟨nd, rfl⟩⟩; (try first | exact ⟨rfl, _, World.drewN_drewN _ _ _⟩ | exact ⟨rfl, _, Eq.trans (World.drewN_drewN _ _ _) (congrArg (World.drewN _) (Nat.add_assoc _ _ _))⟩)) | (go_at_call 12; (with_reducible refine (ratio_Order.calls k1 ((rd_T28 y129 x31_1).f0) ((rd_T28 y129 x31_1).f1) t135 _ A23.out).mono ?_); rintro e w' ⟨rfl, ⟨nd, rfl⟩⟩; (try first | exact ⟨rfl, _, World.drewN_drewN _ _ _⟩ | exact ⟨rfl, _, Eq.trans (World.drewN_drewN _ _ _) (congrArg (World.drewN _) (Nat.add_assoc _ _ _))⟩)) | (go_at_call 12; (with_reducible refine (ratio_Order.calls k1 ((rd_T28 y129 x31_1).f1) ((rd_T28 y129 x31_1).f0) t136 _ A24.out).mono ?_); rintro e w' ⟨rfl, ⟨nd, rfl⟩⟩; (try first | exact ⟨rfl, _, World.drewN_drewN _ _ _⟩ | exact ⟨rfl, _, Eq.trans (World.drewN_drewN _ _ _) (congrArg (World.drewN _) (Nat.add_assoc _ _ _))⟩))))
    go_meet
    case rel => exact ⟨_, (true), aZ, H', ⟨by have := HK1.out; first | omega | exact Nat.le_refl _⟩, ⟨aR HO_29⟩, ⟨aB BK133⟩, ⟨aL HB⟩⟩
   rw [if_pos c25] at H; have c25b0 : (t135 == (wrap64 (-t136))) = true := beq_iff_eq.mpr c25
   have c25b1 : (t135 != (wrap64 (-t136))) = false := bne_eq_false_iff_eq.mpr c25
   clear c25; replace H := Option.bind_eq_some_iff.mp H; obtain ⟨t137, A260, H⟩ := H; replace H : ((r2_Same.f ((rd_T28 y129 x31_1).f0) ((rd_T28 y129 x31_1).f1)).bind fun t138 => (stanzalaw12_RatioWhole.j1 k1 ((rd_T28 y129 x31_1).f0) ((rd_T28 y129 x31_1).f1) ((rd_T28 y129 x31_1).f2) y129 (y129.length : Int) x31_1 ((t137 == 0) != t138))) = some r := H
   have A26 := Aside0.mk A260; clear A260; obtain rfl : t135 = t137 := Option.some.inj (A23.out.symm.trans A26.out)
   replace H := Option.bind_eq_some_iff.mp H; obtain ⟨t138, A270, H⟩ := H; replace H : (stanzalaw12_RatioWhole.j1 k1 ((rd_T28 y129 x31_1).f0) ((rd_T28 y129 x31_1).f1) ((rd_T28 y129 x31_1).f2) y129 (y129.length : Int) x31_1 ((t135 == 0) != t138)) = some r := H; have A27 := Aside0.mk A270; clear A270; have H' := Aside0.mk H
   clear H; go_wp2_with (first | (go_at_call 12; (with_reducible refine (ratio_Order.calls k1 ((rd_T28 y129 x31_1).f0) ((rd_T28 y129 x31_1).f0) t134 _ A21.out).mono ?_); rintro e w' ⟨rfl, ⟨nd, rfl⟩⟩; (try first | exact ⟨rfl, _, World.drewN_drewN _ _ _⟩ | exact ⟨rfl, _, Eq.trans (World.drewN_drewN _ _ _) (congrArg (World.drewN _) (Nat.add_assoc _ _ _))⟩)) | (go_at_call 12; (with_reducible refine (ratio_Order.calls k1 ((rd_T28 y129 x31_1).f0) ((rd_T28 y129 x31_1).f1) t135 _ A23.out).mono ?_); rintro e w' ⟨rfl, ⟨nd, rfl⟩⟩; (try first | exact ⟨rfl, _, World.drewN_drewN _ _ _⟩ | exact ⟨rfl, _, Eq.trans (World.drewN_drewN _ _ _) (congrArg (World.drewN _) (Nat.add_assoc _ _ _))⟩)) | (go_at_call 12; (with_reducible refine (ratio_Order.calls k1 ((rd_T28 y129 x31_1).f1) ((rd_T28 y129 x31_1).f0) t136 _ A24.out).mono ?_); rintro e w' ⟨rfl, ⟨nd, rfl⟩⟩; (try first | exact ⟨rfl, _, World.drewN_drewN _ _ _⟩ | exact ⟨rfl, _, Eq.trans (World.drewN_drewN _ _ _) (congrArg (World.drewN _) (Nat.add_assoc _ _ _))⟩)) | (go_at_call 12; (with_reducible refine (ratio_Order.calls k1 ((rd_T28 y129 x31_1).f0) ((rd_T28 y129 x31_1).f1) t135 _ A26.out).mono ?_); rintro e w' ⟨rfl, ⟨nd, rfl⟩⟩; (try first | exact ⟨rfl, _, World.drewN_drewN _ _ _⟩ | exact ⟨rfl, _, Eq.trans (World.drewN_drewN _ _ _) (congrArg (World.drewN _) (Nat.add_assoc _ _ _))⟩)) | (go_at_call 17; (with_reducible refine (r2_Same.calls ((rd_T28 y129 x31_1).f0) ((rd_T28 y129 x31_1).f1) t138 _ A27.out).mono ?_); rintro e w' ⟨rfl, ⟨nd, rfl⟩⟩; (try first | exact ⟨rfl, _, World.drewN_drewN _ _ _⟩ | exact ⟨rfl, _, Eq.trans (World.drewN_drewN _ _ _) (congrArg (World.drewN _) (Nat.add_assoc _ _ _))⟩)))
   repeat (go_quiet (first | (go_at_call 12; (with_reducible refine (ratio_Order.calls k1 ((rd_T28 y129 x31_1).f0) ((rd_T28 y129 x31_1).f0) t134 _ A21.out).mono ?_); rintro e w' ⟨rfl, ⟨nd, rfl⟩⟩; (try first | exact ⟨rfl, _, World.drewN_drewN _ _ _⟩ | exact ⟨rfl, _, Eq.trans (World.drewN_drewN _ _ _) (congrArg (World.drewN _) (Nat.add_assoc _ _ _))⟩)) | (go_at_call 12; (with_reducible refine (ratio_Order.calls k1 ((rd_T28 y129 x31_1).f0) ((rd_T28 y129 x31_1).f1) t135 _ A23.out).mono ?_); rintro e w' ⟨rfl, ⟨nd, rfl⟩⟩; (try first | exact ⟨rfl, _, World.drewN_drewN _ _ _⟩ | exact ⟨rfl, _, Eq.trans (World.drewN_drewN _ _ _) (congrArg (World.drewN _) (Nat.add_assoc _ _ _))⟩)) | (go_at_call 12; (with_reducible refine (ratio_Order.calls k1 ((rd_T28 y129 x31_1).f1) ((rd_T28 y129 x31_1).f0) t136 _ A24.out).mono ?_); rintro e w' ⟨rfl, ⟨nd, rfl⟩⟩; (try first | exact ⟨rfl, _, World.drewN_drewN _ _ _⟩ | exact ⟨rfl, _, Eq.trans (World.drewN_drewN _ _ _) (congrArg (World.drewN _) (Nat.add_assoc _ _ _))⟩)) | (go_at_call 12; (with_reducible refine (ratio_Order.calls k1 ((rd_T28 y129 x31_1).f0) ((rd_T28 y129 x31_1).f1) t135 _ A26.out).mono ?_); rintro e w' ⟨rfl, ⟨nd, rfl⟩⟩; (try first | exact ⟨rfl, _, World.drewN_drewN _ _ _⟩ | exact ⟨rfl, _, Eq.trans (World.drewN_drewN _ _ _) (congrArg (World.drewN _) (Nat.add_assoc _ _ _))⟩)) | (go_at_call 17; (with_reducible refine (r2_Same.calls ((rd_T28 y129 x31_1).f0) ((rd_T28 y129 x31_1).f1) t138 _ A27.out).mono ?_); rintro e w' ⟨rfl, ⟨nd, rfl⟩⟩; (try first | exact ⟨rfl, _, World.drewN_drewN _ _ _⟩ | exact ⟨rfl, _, Eq.trans (World.drewN_drewN _ _ _) (congrArg (World.drewN _) (Nat.add_assoc _ _ _))⟩))); try go_wp2_with (first | (go_at_call 12; (with_reducible refine (ratio_Order.calls k1 ((rd_T28 y129 x31_1).f0) ((rd_T28 y129 x31_1).f0) t134 _ A21.out).mono ?_); rintro e w' ⟨rfl, ⟨nd, rfl⟩⟩; (try first | exact ⟨rfl, _, World.drewN_drewN _ _ _⟩ | exact ⟨rfl, _, Eq.trans (World.drewN_drewN _ _ _) (congrArg (World.drewN _) (Nat.add_assoc _ _ _))⟩)) | (go_at_call 12; (with_reducible refine (ratio_Order.calls k1 ((rd_T28 y129 x31_1).f0) ((rd_T28 y129 x31_1).f1) t135 _ A23.out).mono ?_); rintro e w' ⟨rfl, ⟨nd, rfl⟩⟩; (try first | exact ⟨rfl, _, World.drewN_drewN _ _ _⟩ | exact ⟨rfl, _, Eq.trans (World.drewN_drewN _ _ _) (congrArg (World.drewN _) (Nat.add_assoc _ _ _))⟩)) | (go_at_call 12; (with_reducible refine (ratio_Order.calls k1 ((rd_T28 y129 x31_1).f1) ((rd_T28 y129 x31_1).f0) t136 _ A24.out).mono ?_); rintro e w' ⟨rfl, ⟨nd, rfl⟩⟩; (try first | exact ⟨rfl, _, World.drewN_drewN _ _ _⟩ | exact ⟨rfl, _, Eq.trans (World.drewN_drewN _ _ _) (congrArg (World.drewN _) (Nat.add_assoc _ _ _))⟩)) | (go_at_call 12; (with_reducible refine (ratio_Order.calls k1 ((rd_T28 y129 x31_1).f0) ((rd_T28 y129 x31_1).f1) t135 _ A26.out).mono ?_); rintro e w' ⟨rfl, ⟨nd, rfl⟩⟩; (try first | exact ⟨rfl, _, World.drewN_drewN _ _ _⟩ | exact ⟨rfl, _, Eq.trans (World.drewN_drewN _ _ _) (congrArg (World.drewN _) (Nat.add_assoc _ _ _))⟩)) | (go_at_call 17; (with_reducible refine (r2_Same.calls ((rd_T28 y129 x31_1).f0) ((rd_T28 y129 x31_1).f1) t138 _ A27.out).mono ?_); rintro e w' ⟨rfl, ⟨nd, rfl⟩⟩; (try first | exact ⟨rfl, _, World.drewN_drewN _ _ _⟩ | exact ⟨rfl, _, Eq.trans (World.drewN_drewN _ _ _) (congrArg (World.drewN _) (Nat.add_assoc _ _ _))⟩))))
   go_meet
   case rel => exact ⟨_, (((t135 == 0) != t138)), aZ, H', ⟨by have := HK1.out; first | omega | exact Nat.le_refl _⟩, ⟨aR HO_29⟩, ⟨aB BK133⟩, ⟨aL HB⟩⟩
  clear HC16; try clear c1
  try clear p1
  try clear q1
  try clear hx1
  try clear c2
  try clear p2
  try clear c3
  try clear c4
  try clear c5
  try clear p6
  try clear c13
  try clear c13b0
  try clear p13
  try clear q13
  try clear hx13
  try clear c14
  try clear c14b0
  try clear c15
  try clear c15b0
  try clear c22
  try clear c22b0
  try clear c22b1
  try clear c25
  try clear c25b0
  try clear c25b1
  try clear hcz18_0
  try clear hcz18_1
  try clear hcz18_2
  try clear hcz20_0
  try clear hcz20_1
  try clear hcz20_2
  try clear hfz18_0
  try clear hfz18_1
  try clear hfz18_2
  try clear hfz20_0
  try clear hfz20_1
  try clear hfz20_2
  try clear hx132_0
  try clear hx132_1
  try clear hx132_2
  try clear p132
  try clear p2
  try clear q132
  obtain ⟨kq, x64_15, rfl, HA, HJ15, HO_29, BK133, HB⟩ := hcut; cases kq with
  | zero => exact absurd HA.out (by simp [stanzalaw12_RatioWhole.j1])
  | succ kj15 =>
   have H := HA.out; clear HA; simp only [stanzalaw12_RatioWhole.j1] at H; by_cases c28 : x64_15 = true
   ·subst c28
    have H1 : (some false) = some r := by rw [if_pos rfl] at H; exact H
    clear H; have H := H1; clear H1; exact absurd ((Option.some.inj H).trans hrt_.out) (by decide)
   replace c28 := Bool.eq_false_iff.mpr c28; subst c28; have H1 : ((ratio_Order.f kj15 ((rd_T28 y129 x31_1).f0) ((rd_T28 y129 x31_1).f1)).bind fun t139 => (if t139 ≤ 0 then ((ratio_Order.f kj15 ((rd_T28 y129 x31_1).f1) ((rd_T28 y129 x31_1).f2)).bind fun t140 => (if t140 ≤ 0 then ((ratio_Order.f kj15 ((rd_T28 y129 x31_1).f0) ((rd_T28 y129 x31_1).f2)).bind fun t141 => (if t141 > 0 then (some false) else (stanzalaw12_RatioWhole.l0 kj15 y129 (y129.length : Int) (wrap64 (x31_1 + 1))))) else (stanzalaw12_RatioWhole.l0 kj15 y129 (y129.length : Int) (wrap64 (x31_1 + 1))))) else (stanzalaw12_RatioWhole.l0 kj15 y129 (y129.length : Int) (wrap64 (x31_1 + 1))))) = some r := by rw [if_neg (show ¬ (false = true) by decide)] at H; exact H
   clear H; have H := H1; clear H1; replace H := Option.bind_eq_some_iff.mp H; obtain ⟨t139, A290, H⟩ := H; replace H : (if t139 ≤ 0 then ((ratio_Order.f kj15 ((rd_T28 y129 x31_1).f1) ((rd_T28 y129 x31_1).f2)).bind fun t140 => (if t140 ≤ 0 then ((ratio_Order.f kj15 ((rd_T28 y129 x31_1).f0) ((rd_T28 y129 x31_1).f2)).bind fun t141 => (if t141 > 0 then (some false) else (stanzalaw12_RatioWhole.l0 kj15 y129 (y129.length : Int) (wrap64 (x31_1 + 1))))) else (stanzalaw12_RatioWhole.l0 kj15 y129 (y129.length : Int) (wrap64 (x31_1 + 1))))) else (stanzalaw12_RatioWhole.l0 kj15 y129 (y129.length : Int) (wrap64 (x31_1 + 1)))) = some r := H
   have A29 := Aside0.mk A290; clear A290; by_cases c30 : t139 ≤ 0
   rotate_left
   ·rw [if_neg c30] at H
    have c30b0 : decide (t139 ≤ 0) = false := decide_eq_false c30
    clear c30; have H' := Aside0.mk H
    clear H; go_wp2_with (first | (go_at_call 12; (with_reducible refine (ratio_Order.calls kj15 ((rd_T28 y129 x31_1).f0) ((rd_T28 y129 x31_1).f1) t139 _ A29.out).mono ?_); rintro e w' ⟨rfl, ⟨nd, rfl⟩⟩; (try first | exact ⟨rfl, _, World.drewN_drewN _ _ _⟩ | exact ⟨rfl, _, Eq.trans (World.drewN_drewN _ _ _) (congrArg (World.drewN _) (Nat.add_assoc _ _ _))⟩)))
    repeat (go_quiet (first | (go_at_call 12; (with_reducible refine (ratio_Order.calls kj15 ((rd_T28 y129 x31_1).f0) ((rd_T28 y129 x31_1).f1) t139 _ A29.out).mono ?_); rintro e w' ⟨rfl, ⟨nd, rfl⟩⟩; (try first | exact ⟨rfl, _, World.drewN_drewN _ _ _⟩ | exact ⟨rfl, _, Eq.trans (World.drewN_drewN _ _ _) (congrArg (World.drewN _) (Nat.add_assoc _ _ _))⟩))); try go_wp2_with (first | (go_at_call 12; (with_reducible refine (ratio_Order.calls kj15 ((rd_T28 y129 x31_1).f0) ((rd_T28 y129 x31_1).f1) t139 _ A29.out).mono ?_); rintro e w' ⟨rfl, ⟨nd, rfl⟩⟩; (try first | exact ⟨rfl, _, World.drewN_drewN _ _ _⟩ | exact ⟨rfl, _, Eq.trans (World.drewN_drewN _ _ _) (congrArg (World.drewN _) (Nat.add_assoc _ _ _))⟩))))
    go_roundg kj15
    case measure => have := HK1.out; have := HJ15.out; omega
    case rel => exact ⟨(wrap64 (x31_1 + 1)), aZ, H', ⟨by have := HK1.out; have := HJ15.out; omega⟩, ⟨by (with_reducible repeat (first | apply Kd.zA | apply Kd.zB | apply Kd.zC)); exact Kd.zM HO_29.out (fun _ hk => trivial)⟩, ⟨aL HB⟩⟩
   rw [if_pos c30] at H; have c30b0 : decide (t139 ≤ 0) = true := decide_eq_true c30
   clear c30; replace H := Option.bind_eq_some_iff.mp H; obtain ⟨t140, A310, H⟩ := H; replace H : (if t140 ≤ 0 then ((ratio_Order.f kj15 ((rd_T28 y129 x31_1).f0) ((rd_T28 y129 x31_1).f2)).bind fun t141 => (if t141 > 0 then (some false) else (stanzalaw12_RatioWhole.l0 kj15 y129 (y129.length : Int) (wrap64 (x31_1 + 1))))) else (stanzalaw12_RatioWhole.l0 kj15 y129 (y129.length : Int) (wrap64 (x31_1 + 1)))) = some r := H
   have A31 := Aside0.mk A310; clear A310; by_cases c32 : t140 ≤ 0
   rotate_left
   ·rw [if_neg c32] at H
    have c32b0 : decide (t140 ≤ 0) = false := decide_eq_false c32
    clear c32; have H' := Aside0.mk H
    clear H; go_wp2_with (first | (go_at_call 12; (with_reducible refine (ratio_Order.calls kj15 ((rd_T28 y129 x31_1).f0) ((rd_T28 y129 x31_1).f1) t139 _ A29.out).mono ?_); rintro e w' ⟨rfl, ⟨nd, rfl⟩⟩; (try first | exact ⟨rfl, _, World.drewN_drewN _ _ _⟩ | exact ⟨rfl, _, Eq.trans (World.drewN_drewN _ _ _) (congrArg (World.drewN _) (Nat.add_assoc _ _ _))⟩)) | (go_at_call 12; (with_reducible refine (ratio_Order.calls kj15 ((rd_T28 y129 x31_1).f1) ((rd_T28 y129 x31_1).f2) t140 _ A31.out).mono ?_); rintro e w' ⟨rfl, ⟨nd, rfl⟩⟩; (try first | exact ⟨rfl, _, World.drewN_drewN _ _ _⟩ | exact ⟨rfl, _, Eq.trans (World.drewN_drewN _ _ _) (congrArg (World.drewN _) (Nat.add_assoc _ _ _))⟩)))
    repeat (go_quiet (first | (go_at_call 12; (with_reducible refine (ratio_Order.calls kj15 ((rd_T28 y129 x31_1).f0) ((rd_T28 y129 x31_1).f1) t139 _ A29.out).mono ?_); rintro e w' ⟨rfl, ⟨nd, rfl⟩⟩; (try first | exact ⟨rfl, _, World.drewN_drewN _ _ _⟩ | exact ⟨rfl, _, Eq.trans (World.drewN_drewN _ _ _) (congrArg (World.drewN _) (Nat.add_assoc _ _ _))⟩)) | (go_at_call 12; (with_reducible refine (ratio_Order.calls kj15 ((rd_T28 y129 x31_1).f1) ((rd_T28 y129 x31_1).f2) t140 _ A31.out).mono ?_); rintro e w' ⟨rfl, ⟨nd, rfl⟩⟩; (try first | exact ⟨rfl, _, World.drewN_drewN _ _ _⟩ | exact ⟨rfl, _, Eq.trans (World.drewN_drewN _ _ _) (congrArg (World.drewN _) (Nat.add_assoc _ _ _))⟩))); try go_wp2_with (first | (go_at_call 12; (with_reducible refine (ratio_Order.calls kj15 ((rd_T28 y129 x31_1).f0) ((rd_T28 y129 x31_1).f1) t139 _ A29.out).mono ?_); rintro e w' ⟨rfl, ⟨nd, rfl⟩⟩; (try first | exact ⟨rfl, _, World.drewN_drewN _ _ _⟩ | exact ⟨rfl, _, Eq.trans (World.drewN_drewN _ _ _) (congrArg (World.drewN _) (Nat.add_assoc _ _ _))⟩)) | (go_at_call 12; (with_reducible refine (ratio_Order.calls kj15 ((rd_T28 y129 x31_1).f1) ((rd_T28 y129 x31_1).f2) t140 _ A31.out).mono ?_); rintro e w' ⟨rfl, ⟨nd, rfl⟩⟩; (try first | exact ⟨rfl, _, World.drewN_drewN _ _ _⟩ | exact ⟨rfl, _, Eq.trans (World.drewN_drewN _ _ _) (congrArg (World.drewN _) (Nat.add_assoc _ _ _))⟩))))
    go_roundg kj15
    case measure => have := HK1.out; have := HJ15.out; omega
    case rel => exact ⟨(wrap64 (x31_1 + 1)), aZ, H', ⟨by have := HK1.out; have := HJ15.out; omega⟩, ⟨by (with_reducible repeat (first | apply Kd.zA | apply Kd.zB | apply Kd.zC)); exact Kd.zM HO_29.out (fun _ hk => trivial)⟩, ⟨aL HB⟩⟩
   rw [if_pos c32] at H; have c32b0 : decide (t140 ≤ 0) = true := decide_eq_true c32
   clear c32; replace H := Option.bind_eq_some_iff.mp H; obtain ⟨t141, A330, H⟩ := H; replace H : (if t141 > 0 then (some false) else (stanzalaw12_RatioWhole.l0 kj15 y129 (y129.length : Int) (wrap64 (x31_1 + 1)))) = some r := H; have A33 := Aside0.mk A330; clear A330; by_cases c34 : t141 > 0
   ·rw [if_pos c34] at H
    have c34b0 : decide (0 < t141) = true := decide_eq_true c34
    clear c34; exact absurd ((Option.some.inj H).trans hrt_.out) (by decide)
   rw [if_neg c34] at H; have c34b0 : decide (0 < t141) = false := decide_eq_false c34
   clear c34; have H' := Aside0.mk H
   clear H; go_wp2_with (first | (go_at_call 12; (with_reducible refine (ratio_Order.calls kj15 ((rd_T28 y129 x31_1).f0) ((rd_T28 y129 x31_1).f1) t139 _ A29.out).mono ?_); rintro e w' ⟨rfl, ⟨nd, rfl⟩⟩; (try first | exact ⟨rfl, _, World.drewN_drewN _ _ _⟩ | exact ⟨rfl, _, Eq.trans (World.drewN_drewN _ _ _) (congrArg (World.drewN _) (Nat.add_assoc _ _ _))⟩)) | (go_at_call 12; (with_reducible refine (ratio_Order.calls kj15 ((rd_T28 y129 x31_1).f1) ((rd_T28 y129 x31_1).f2) t140 _ A31.out).mono ?_); rintro e w' ⟨rfl, ⟨nd, rfl⟩⟩; (try first | exact ⟨rfl, _, World.drewN_drewN _ _ _⟩ | exact ⟨rfl, _, Eq.trans (World.drewN_drewN _ _ _) (congrArg (World.drewN _) (Nat.add_assoc _ _ _))⟩)) | (go_at_call 12; (with_reducible refine (ratio_Order.calls kj15 ((rd_T28 y129 x31_1).f0) ((rd_T28 y129 x31_1).f2) t141 _ A33.out).mono ?_); rintro e w' ⟨rfl, ⟨nd, rfl⟩⟩; (try first | exact ⟨rfl, _, World.drewN_drewN _ _ _⟩ | exact ⟨rfl, _, Eq.trans (World.drewN_drewN _ _ _) (congrArg (World.drewN _) (Nat.add_assoc _ _ _))⟩)))
   repeat (go_quiet (first | (go_at_call 12; (with_reducible refine (ratio_Order.calls kj15 ((rd_T28 y129 x31_1).f0) ((rd_T28 y129 x31_1).f1) t139 _ A29.out).mono ?_); rintro e w' ⟨rfl, ⟨nd, rfl⟩⟩; (try first | exact ⟨rfl, _, World.drewN_drewN _ _ _⟩ | exact ⟨rfl, _, Eq.trans (World.drewN_drewN _ _ _) (congrArg (World.drewN _) (Nat.add_assoc _ _ _))⟩)) | (go_at_call 12; (with_reducible refine (ratio_Order.calls kj15 ((rd_T28 y129 x31_1).f1) ((rd_T28 y129 x31_1).f2) t140 _ A31.out).mono ?_); rintro e w' ⟨rfl, ⟨nd, rfl⟩⟩; (try first | exact ⟨rfl, _, World.drewN_drewN _ _ _⟩ | exact ⟨rfl, _, Eq.trans (World.drewN_drewN _ _ _) (congrArg (World.drewN _) (Nat.add_assoc _ _ _))⟩)) | (go_at_call 12; (with_reducible refine (ratio_Order.calls kj15 ((rd_T28 y129 x31_1).f0) ((rd_T28 y129 x31_1).f2) t141 _ A33.out).mono ?_); rintro e w' ⟨rfl, ⟨nd, rfl⟩⟩; (try first | exact ⟨rfl, _, World.drewN_drewN _ _ _⟩ | exact ⟨rfl, _, Eq.trans (World.drewN_drewN _ _ _) (congrArg (World.drewN _) (Nat.add_assoc _ _ _))⟩))); try go_wp2_with (first | (go_at_call 12; (with_reducible refine (ratio_Order.calls kj15 ((rd_T28 y129 x31_1).f0) ((rd_T28 y129 x31_1).f1) t139 _ A29.out).mono ?_); rintro e w' ⟨rfl, ⟨nd, rfl⟩⟩; (try first | exact ⟨rfl, _, World.drewN_drewN _ _ _⟩ | exact ⟨rfl, _, Eq.trans (World.drewN_drewN _ _ _) (congrArg (World.drewN _) (Nat.add_assoc _ _ _))⟩)) | (go_at_call 12; (with_reducible refine (ratio_Order.calls kj15 ((rd_T28 y129 x31_1).f1) ((rd_T28 y129 x31_1).f2) t140 _ A31.out).mono ?_); rintro e w' ⟨rfl, ⟨nd, rfl⟩⟩; (try first | exact ⟨rfl, _, World.drewN_drewN _ _ _⟩ | exact ⟨rfl, _, Eq.trans (World.drewN_drewN _ _ _) (congrArg (World.drewN _) (Nat.add_assoc _ _ _))⟩)) | (go_at_call 12; (with_reducible refine (ratio_Order.calls kj15 ((rd_T28 y129 x31_1).f0) ((rd_T28 y129 x31_1).f2) t141 _ A33.out).mono ?_); rintro e w' ⟨rfl, ⟨nd, rfl⟩⟩; (try first | exact ⟨rfl, _, World.drewN_drewN _ _ _⟩ | exact ⟨rfl, _, Eq.trans (World.drewN_drewN _ _ _) (congrArg (World.drewN _) (Nat.add_assoc _ _ _))⟩))))
   go_roundg kj15
   case measure => have := HK1.out; have := HJ15.out; omega
   case rel => exact ⟨(wrap64 (x31_1 + 1)), aZ, H', ⟨by have := HK1.out; have := HJ15.out; omega⟩, ⟨by (with_reducible repeat (first | apply Kd.zA | apply Kd.zB | apply Kd.zC)); exact Kd.zM HO_29.out (fun _ hk => trivial)⟩, ⟨aL HB⟩⟩
def stanzalaw12_RatioWhole.Pure : Prop := ∀ (a0 : Nat) (a1 : Nat) (a2 : Nat), (Lit.float .f64 a0).wf = true → (Lit.float .f64 a1).wf = true → (Lit.float .f64 a2).wf = true → ∃ k, stanzalaw12_RatioWhole.f k a0 a1 a2 = some true
end Go.Proofs.Ytmpnnpibpodmkaa.F
end
