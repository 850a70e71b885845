/- Printed by a program: Lean functions that answer as the Go functions do, and the proofs of it. -/
import Derived.Test.YtmpnnpibpodmkaaProg
import Derived.Below
import Derived.Deep.Draws
import Derived.Deep.AppendLies
import Derived.Maps.AppendAt
import Derived.OwnWalk
import Derived.Laws.BytesArg
import Derived.Laws.MakeOwn
import Derived.Laws.OwnMore
import Derived.Deep.OwnRows
import Derived.Tactics
import Derived.Lib.ConvBytes
import Derived.Laws.Slices
import Derived.WalkKit
import Derived.KernelRfl
import Derived.RowKit3
import Derived.Deep.LoopGhost
import Derived.Deep.QuietTactic
import Derived.BigQuiet
import Derived.WideLaws
import Derived.Deep.DeepCutAuto
import Derived.Deep.CutBlock
import Derived.Deep.RegionHeld3
import Derived.Laws.Rows
import Derived.Lib.AppendStr
import Derived.ArgAppend
import Derived.Laws.IdiomCopy
import Derived.OrdersHeld
import Derived.Laws.BitsLemmas
import Derived.RowKit
import Derived.Laws.FloatArith
import Derived.Laws.CopyOwn
import Derived.Deep.RegionLaw
import Derived.Laws.MathBits
import Derived.Test.YtmpnnpibpodmkaaXRatioRounds0
section
namespace Go.Proofs.Ytmpnnpibpodmkaa.F
open Go.RowKit Go.Proofs.YtmpnnpibpodmkaaW.PrintWords Go.Proofs.YtmpnnpibpodmkaaW.PrintLast Go.Proofs.YtmpnnpibpodmkaaW.PrintMore
attribute [local go_sem] max2_int min2_int max_two min_two max_three min_three max_four min_four   -- for this text's walks alone
set_option linter.unusedVariables false
set_option linter.unusedSimpArgs false
def errW : Option Int → Value
 | none => .nilIface
 | some c => .iface 0 (.int .i64 c)
theorem errW_none : errW none = .nilIface := rfl
theorem errW_some (c : Int) : errW (some c) = .iface 0 (.int .i64 c) := rfl
theorem info22 : (Try.prog.info? 22).map (fun i => (i.zero, i.size, i.bytes)) = some (some (.float .f64 0), 1, 8) := by kernel_rfl
def math_IsNaN.f (a0 : Nat) : Option Bool := some (isNan a0)
set_option maxHeartbeats 8000000 in
set_option maxRecDepth 100000 in
theorem math_IsNaN.calls (a0 : Nat) (r : Bool) (w : World) (h : math_IsNaN.f a0 = some r) {b0_ : Nat} (hf0_ : Aside0 (FR a0 b0_) := by first | assumption | exact ⟨FR.same _⟩) :
  Calls Try.prog 31 #[.float .f64 b0_] w fun e w' => e = .returned (.bool r) ∧ Drawn0 w w' := by
 have hu := Try.underlying22; obtain rfl := Option.some.inj h
 rw [hf0_.out.nan]; by_cases hx : isNan b0_ = true
 ·have ho := order_nan_l (b := b0_) (y := b0_) hx
  go_enter Try.func31, Try.ntmps31
  go_wp2
  go_ret
  exact ⟨by rw [hx]; rfl, Drawn0.refl _⟩
 have hx' : isNan b0_ = false := by simpa using hx
 have ho := order_self hx'; go_enter Try.func31, Try.ntmps31
 go_wp2
 go_ret
 exact ⟨by rw [hx']; rfl, Drawn0.refl _⟩
def ratio_truth.f (a0 : Bool) : Option (Int) := if a0 = true then (some 1) else (some 0)
set_option maxHeartbeats 8000000 in
set_option maxRecDepth 100000 in
theorem ratio_truth.calls (a0 : Bool) (r : Int) (w : World) (h : ratio_truth.f a0 = some r) :
  Calls Try.prog 32 #[.bool a0] w fun e w' => e = .returned (.int .i64 r) ∧ Drawn0 w w' := by
 have H : (if a0 = true then (some 1) else (some 0)) = some r := h
 clear h; by_cases c2 : a0 = true
 ·subst c2
  have H1 : (some 1) = some r := by rw [if_pos rfl] at H; exact H
  clear H; have H := H1; clear H1; obtain rfl := Option.some.inj H
  go_enter Try.func32, Try.ntmps32
  go_wp2
  go_ret
  exact ⟨by first | rfl | (simp; done) | (simp [*]; done), by repeat (first | exact Drawn0.refl _ | apply Drawn0.step)⟩
 replace c2 := Bool.eq_false_iff.mpr c2; subst c2; have H1 : (some 0) = some r := by rw [if_neg (show ¬ (false = true) by decide)] at H; exact H
 clear H; have H := H1; clear H1; obtain rfl := Option.some.inj H
 go_enter Try.func32, Try.ntmps32
 go_wp2
 go_ret
 exact ⟨by first | rfl | (simp; done) | (simp [*]; done), by repeat (first | exact Drawn0.refl _ | apply Drawn0.step)⟩
def math_Signbit.f (a0 : Nat) : Option Bool := some (decide (wrap64 (a0 : Int) < 0))
set_option maxHeartbeats 8000000 in
set_option maxRecDepth 100000 in
theorem math_Signbit.calls (a0 : Nat) (r : Bool) (w : World) (h : math_Signbit.f a0 = some r) :
  Calls Try.prog 33 #[.float .f64 a0] w fun e w' => e = .returned (.bool r) ∧ Drawn0 w w' := by
 have hu := Try.underlying22; have hu2 := Try.underlying12; have hA : ∀ (b : Nat) (W : World), (callFunc 37 #[.float .f64 b]).run Try.prog W = .ok (.value (.int .u64 b)) W := fun b W => by rw [run_callFunc_extern (fn := Try.f37) (e := Extern.MathFloatBits.float64bits) (by kernel_rfl) (by kernel_rfl) (by kernel_rfl) (by rfl) (by rfl)]; rfl
 obtain rfl := Option.some.inj h
 go_enter Try.func33, Try.ntmps33
 go_wp2
 go_ret
 exact ⟨rfl, Drawn0.refl _⟩
def rte (x : Nat) : Nat := FloatKind.f64.encode ((FloatKind.f64.decode x).integral .even)
theorem rte_run (x : Nat) (hx' : isNan x = false) : Extern.MathFloor.toIntegral "math.RoundToEven" .even #[.float .f64 x] = pure (.float .f64 (rte x)) := by
 unfold rte
 have e : ∃ n, Extern.MathFloor.toIntegral "math.RoundToEven" .even #[.float .f64 x] = Extern.MathFloor.toIntegral.match_1 (fun _ => Sem Value) (FloatKind.f64.decode x) n (fun d => pure (.float .f64 (FloatKind.f64.encode (d.integral .even)))) := ⟨_, rfl⟩
 obtain ⟨n, e⟩ := e; rw [e]; unfold isNan at hx'
 cases hd : FloatKind.f64.decode x with
 | nan s f => rw [hd] at hx'; cases hx'
 | number a b c => rfl
 | infinity s => rfl
def ratio_Round.f (a0 : Nat) : Option Int := if isNan a0 = true then some 0 else if (FloatKind.f64.format.order a0 4746794007244308480 == some .gt || FloatKind.f64.format.order a0 4746794007244308480 == some .eq) = true then some 2147483647 else if (FloatKind.f64.format.order a0 13970166044103278592 == some .lt || FloatKind.f64.format.order a0 13970166044103278592 == some .eq) = true then some (-2147483648) else floatToIntVal .f64 (rte a0) .i64
set_option maxHeartbeats 8000000 in
set_option maxRecDepth 100000 in
theorem ratio_Round.calls (a0 : Nat) (r : Int) (w : World) (h : ratio_Round.f a0 = some r) :
  Calls Try.prog 29 #[.float .f64 a0] w fun e w' => e = .returned (.int .i64 r) ∧ Drawn0 w w' := by
 have hu := Try.underlying22; have hu3 := Try.underlying3; unfold ratio_Round.f at h
 have HN : Aside0 (math_IsNaN.f a0 = some (isNan a0)) := ⟨rfl⟩
 by_cases hx : isNan a0 = true
 ·rw [if_pos hx] at h
  rw [hx] at HN; obtain rfl := Option.some.inj h
  go_enter Try.func29, Try.ntmps29
  go_wp2_with (first | (go_at_call 31; (with_reducible refine (math_IsNaN.calls a0 _ _ HN.out).mono ?_); rintro e w' ⟨rfl, ⟨nd, rfl⟩⟩))
  go_ret
  exact ⟨rfl, by repeat (first | exact Drawn0.refl _ | apply Drawn0.step)⟩
 rw [if_neg hx] at h; have hx' : isNan a0 = false := by simpa using hx
 rw [hx'] at HN; clear hx; cases ho1 : FloatKind.f64.format.order a0 4746794007244308480 with
 | none =>
  exfalso
  have h1 : isNan a0 = true := by
   unfold Ieee.Format.order Ieee.Datum.order at ho1
   unfold isNan FloatKind.decode Ieee.Datum.isNaN
   rw [show Ieee.Format.read FloatKind.f64.format 4746794007244308480 = .number false 9007199250546688 (-22) from by decide] at ho1
   revert ho1
   cases Ieee.Format.read FloatKind.f64.format a0 <;> intro ho1 <;> first | rfl | cases ho1
  rw [hx'] at h1; cases h1
 | some o1 =>
  rw [ho1] at h; by_cases hc1 : (some o1 == some Ordering.gt || some o1 == some Ordering.eq) = true
  ·rw [if_pos hc1] at h
   obtain rfl := Option.some.inj h
   cases o1 <;> first | (exfalso; revert hc1; decide) | skip
   all_goals
    clear hc1; go_enter Try.func29, Try.ntmps29
    go_wp2_with (first | (go_at_call 31; (with_reducible refine (math_IsNaN.calls a0 _ _ HN.out).mono ?_); rintro e w' ⟨rfl, ⟨nd, rfl⟩⟩))
    go_ret
    exact ⟨rfl, by repeat (first | exact Drawn0.refl _ | apply Drawn0.step)⟩
  rw [if_neg hc1] at h; have ho1' : o1 = .lt := by cases o1 <;> first | rfl | (exfalso; exact hc1 (by decide))
  subst ho1'; clear hc1; cases ho2 : FloatKind.f64.format.order a0 13970166044103278592 with
  | none =>
   exfalso
   have h1 : isNan a0 = true := by
    unfold Ieee.Format.order Ieee.Datum.order at ho2
    unfold isNan FloatKind.decode Ieee.Datum.isNaN
    rw [show Ieee.Format.read FloatKind.f64.format 13970166044103278592 = .number true 4503599627370496 (-21) from by decide] at ho2
    revert ho2
    cases Ieee.Format.read FloatKind.f64.format a0 <;> intro ho2 <;> first | rfl | cases ho2
   rw [hx'] at h1; cases h1
  | some o2 =>
   rw [ho2] at h; by_cases hc2 : (some o2 == some Ordering.lt || some o2 == some Ordering.eq) = true
   ·rw [if_pos hc2] at h
    obtain rfl := Option.some.inj h
    cases o2 <;> first | (exfalso; revert hc2; decide) | skip
    all_goals
     clear hc2; go_enter Try.func29, Try.ntmps29
     go_wp2_with (first | (go_at_call 31; (with_reducible refine (math_IsNaN.calls a0 _ _ HN.out).mono ?_); rintro e w' ⟨rfl, ⟨nd, rfl⟩⟩))
     go_ret
     exact ⟨rfl, by repeat (first | exact Drawn0.refl _ | apply Drawn0.step)⟩
   rw [if_neg hc2] at h; have ho2' : o2 = .gt := by cases o2 <;> first | rfl | (exfalso; exact hc2 (by decide))
   subst ho2'; clear hc2; have hC : ∀ W : World, (callFunc 39 #[.float .f64 a0]).run Try.prog W = .ok (.value (.float .f64 (rte a0))) W := fun W => by
    rw [run_callFunc_extern (fn := Try.f39) (e := Extern.MathFloor.toIntegral "math.RoundToEven" .even) (by kernel_rfl) (by kernel_rfl) (by kernel_rfl) (by rfl) (by rfl)]
    rw [rte_run a0 hx']; rfl
   have hk := fun W => run_convert_float_int (P := Try.prog) W 22 3 .f64 .i64 (rte a0) r (by kernel_rfl) hu3 h
   clear h hx'; go_enter Try.func29, Try.ntmps29
   go_wp2_with (first | (go_at_call 31; (with_reducible refine (math_IsNaN.calls a0 _ _ HN.out).mono ?_); rintro e w' ⟨rfl, ⟨nd, rfl⟩⟩))
   go_ret
   exact ⟨rfl, by repeat (first | exact Drawn0.refl _ | apply Drawn0.step)⟩
def ratio_Order.j0 : Nat → Nat → Nat → Bool → Option (Int)
 | 0, _, _, _ => none
 | k + 1, x0, x1, x5 => if x5 = true then ((math_IsNaN.f x1).bind fun t103 => ((ratio_truth.f t103).bind fun t104 => ((math_IsNaN.f x0).bind fun t105 => ((ratio_truth.f t105).bind fun t106 => (some (wrap64 (t104 - t106))))))) else (if (FloatKind.f64.format.order x0 x1 == some .lt) = true then (some (-1)) else (if (FloatKind.f64.format.order x0 x1 == some .gt) = true then (some 1) else ((math_Signbit.f x1).bind fun t107 => ((ratio_truth.f t107).bind fun t108 => ((math_Signbit.f x0).bind fun t109 => ((ratio_truth.f t109).bind fun t110 => (some (wrap64 (t108 - t110)))))))))
def ratio_Order.f (k : Nat) (a0 : Nat) (a1 : Nat) : Option (Int) := (math_IsNaN.f a0).bind fun t101 => (if t101 = true then (ratio_Order.j0 k a0 a1 true) else ((math_IsNaN.f a1).bind fun t102 => (ratio_Order.j0 k a0 a1 t102)))
theorem ratio_Order.mono_l : ∀ k, (∀ y0 y1 y2, LeO (ratio_Order.j0 k y0 y1 y2) (ratio_Order.j0 (k + 1) y0 y1 y2))
 | 0 => fun _ _ _ r h => by simp [ratio_Order.j0] at h
 | k + 1 => by
  have ih0 := ratio_Order.mono_l k
  ·intro y0 y1 y2
   unfold ratio_Order.j0
   repeat' (with_reducible first | exact ih0 _ _ _ | exact LeO.refl _ | exact LeO.none _ | refine LeO.ite ?_ ?_ | refine LeO.bind ?_ (fun _ => ?_))
theorem ratio_Order.mono : ∀ a0 a1 k, LeO (ratio_Order.f k a0 a1) (ratio_Order.f (k + 1) a0 a1) := by
 intro a0 a1 k
 have ih0 := ratio_Order.mono_l k; unfold ratio_Order.f
 repeat' (with_reducible first | exact ih0 _ _ _ | exact LeO.refl _ | exact LeO.none _ | refine LeO.ite ?_ ?_ | refine LeO.bind ?_ (fun _ => ?_))
set_option maxHeartbeats 8000000 in
set_option maxRecDepth 100000 in
theorem ratio_Order.calls (k : Nat) (a0 : Nat) (a1 : Nat) (r : Int) (w : World) (h : ratio_Order.f k a0 a1 = some r) :
  Calls Try.prog 12 #[.float .f64 a0, .float .f64 a1] w fun e w' => e = .returned (.int .i64 r) ∧ Drawn0 w w' := by
 have H : ((math_IsNaN.f a0).bind fun t101 => (if t101 = true then (ratio_Order.j0 k a0 a1 true) else ((math_IsNaN.f a1).bind fun t102 => (ratio_Order.j0 k a0 a1 t102)))) = some r := h
 clear h; have HC3 := Aside0.mk H; clear H; go_enter Try.func12, Try.ntmps12
 go_upto_region 1 with (fail)
 go_cut [5] (fun v5 wc => ∃ (kq : Nat) (x5_2 : Bool), v5 = .bool x5_2 ∧ Aside0 (ratio_Order.j0 kq a0 a1 x5_2 = some r) ∧ Aside0 (kq ≤ k) ∧ Drawn0 w wc)
 case first =>
  have H := HC3.out; clear HC3; replace H := Option.bind_eq_some_iff.mp H; obtain ⟨t101, A40, H⟩ := H; replace H : (if t101 = true then (ratio_Order.j0 k a0 a1 true) else ((math_IsNaN.f a1).bind fun t102 => (ratio_Order.j0 k a0 a1 t102))) = some r := H
  have A4 := Aside0.mk A40; clear A40; by_cases c5 : t101 = true
  ·subst c5
   have H1 : (ratio_Order.j0 k a0 a1 true) = some r := by rw [if_pos rfl] at H; exact H
   clear H; have H := H1; clear H1; have H' := Aside0.mk H
   clear H; go_wp2_with (first | ((with_reducible refine gate_callee (f := 31) rfl ?_); refine goesL_ (some 7) rfl rfl Try.func31 (by kernel_rfl) rfl #[.float .f64 a0] rfl aT ?_; (with_reducible refine (math_IsNaN.calls a0 true _ A4.out).mono ?_); rintro e w' ⟨rfl, ⟨nd, rfl⟩⟩; refine ⟨_, rfl, ?_⟩))
   go_meet
   case rel => exact ⟨_, (true), aZ, H', ⟨by first | omega | exact Nat.le_refl _⟩, by repeat (first | exact Drawn0.refl _ | apply Drawn0.step)⟩
  replace c5 := Bool.eq_false_iff.mpr c5; subst c5; have H1 : ((math_IsNaN.f a1).bind fun t102 => (ratio_Order.j0 k a0 a1 t102)) = some r := by rw [if_neg (show ¬ (false = true) by decide)] at H; exact H
  clear H; have H := H1; clear H1; replace H := Option.bind_eq_some_iff.mp H; obtain ⟨t102, A60, H⟩ := H; replace H : (ratio_Order.j0 k a0 a1 t102) = some r := H; have A6 := Aside0.mk A60; clear A60; have H' := Aside0.mk H
  clear H; go_wp2_with (first | ((with_reducible refine gate_callee (f := 31) rfl ?_); refine goesL_ (some 7) rfl rfl Try.func31 (by kernel_rfl) rfl #[.float .f64 a0] rfl aT ?_; (with_reducible refine (math_IsNaN.calls a0 false _ A4.out).mono ?_); rintro e w' ⟨rfl, ⟨nd, rfl⟩⟩; refine ⟨_, rfl, ?_⟩) | (go_at_call 31; (with_reducible refine (math_IsNaN.calls a1 t102 _ A6.out).mono ?_); rintro e w' ⟨rfl, ⟨nd, rfl⟩⟩))
  go_meet
  case rel => exact ⟨_, (t102), aZ, H', ⟨by first | omega | exact Nat.le_refl _⟩, by repeat (first | exact Drawn0.refl _ | apply Drawn0.step)⟩
 clear HC3; obtain ⟨kq, x5_2, rfl, HA, HJ2, ⟨mc2, rfl⟩⟩ := hcut; cases kq with
 | zero => exact absurd HA.out (by simp [ratio_Order.j0])
 | succ kj2 =>
  have H := HA.out; clear HA; simp only [ratio_Order.j0] at H; by_cases c7 : x5_2 = true
  ·subst c7
   have H1 : ((math_IsNaN.f a1).bind fun t103 => ((ratio_truth.f t103).bind fun t104 => ((math_IsNaN.f a0).bind fun t105 => ((ratio_truth.f t105).bind fun t106 => (some (wrap64 (t104 - t106))))))) = some r := by rw [if_pos rfl] at H; exact H
   clear H; have H := H1; clear H1; replace H := Option.bind_eq_some_iff.mp H; obtain ⟨t103, A80, H⟩ := H; replace H : ((ratio_truth.f t103).bind fun t104 => ((math_IsNaN.f a0).bind fun t105 => ((ratio_truth.f t105).bind fun t106 => (some (wrap64 (t104 - t106)))))) = some r := H
   have A8 := Aside0.mk A80; clear A80; replace H := Option.bind_eq_some_iff.mp H; obtain ⟨t104, A90, H⟩ := H; replace H : ((math_IsNaN.f a0).bind fun t105 => ((ratio_truth.f t105).bind fun t106 => (some (wrap64 (t104 - t106))))) = some r := H
   have A9 := Aside0.mk A90; clear A90; replace H := Option.bind_eq_some_iff.mp H; obtain ⟨t105, A100, H⟩ := H; replace H : ((ratio_truth.f t105).bind fun t106 => (some (wrap64 (t104 - t106)))) = some r := H
   have A10 := Aside0.mk A100; clear A100; replace H := Option.bind_eq_some_iff.mp H; obtain ⟨t106, A110, H⟩ := H; replace H : (some (wrap64 (t104 - t106))) = some r := H; have A11 := Aside0.mk A110; clear A110; obtain rfl := Option.some.inj H
   go_wp2_with (first | ((with_reducible refine gate_callee (f := 31) rfl ?_); refine goesL_ (some 13) rfl rfl Try.func31 (by kernel_rfl) rfl #[.float .f64 a1] rfl aT ?_; (with_reducible refine (math_IsNaN.calls a1 t103 _ A8.out).mono ?_); rintro e w' ⟨rfl, ⟨nd, rfl⟩⟩; refine ⟨_, rfl, ?_⟩) | ((with_reducible refine gate_callee (f := 32) rfl ?_); refine goesL_ (some 14) rfl rfl Try.func32 (by kernel_rfl) rfl #[.bool t103] rfl aT ?_; (with_reducible refine (ratio_truth.calls t103 t104 _ A9.out).mono ?_); rintro e w' ⟨rfl, ⟨nd, rfl⟩⟩; refine ⟨_, rfl, ?_⟩) | ((with_reducible refine gate_callee (f := 31) rfl ?_); refine goesL_ (some 16) rfl rfl Try.func31 (by kernel_rfl) rfl #[.float .f64 a0] rfl aT ?_; (with_reducible refine (math_IsNaN.calls a0 t105 _ A10.out).mono ?_); rintro e w' ⟨rfl, ⟨nd, rfl⟩⟩; refine ⟨_, rfl, ?_⟩) | ((with_reducible refine gate_callee (f := 32) rfl ?_); refine goesL_ (some 17) rfl rfl Try.func32 (by kernel_rfl) rfl #[.bool t105] rfl aT ?_; (with_reducible refine (ratio_truth.calls t105 t106 _ A11.out).mono ?_); rintro e w' ⟨rfl, ⟨nd, rfl⟩⟩; refine ⟨_, rfl, ?_⟩))
   go_ret
   exact ⟨by first | rfl | (simp; done) | (simp [*]; done), by repeat (first | exact Drawn0.refl _ | apply Drawn0.step)⟩
  replace c7 := Bool.eq_false_iff.mpr c7; subst c7; have H1 : (if (FloatKind.f64.format.order a0 a1 == some .lt) = true then (some (-1)) else (if (FloatKind.f64.format.order a0 a1 == some .gt) = true then (some 1) else ((math_Signbit.f a1).bind fun t107 => ((ratio_truth.f t107).bind fun t108 => ((math_Signbit.f a0).bind fun t109 => ((ratio_truth.f t109).bind fun t110 => (some (wrap64 (t108 - t110))))))))) = some r := by rw [if_neg (show ¬ (false = true) by decide)] at H; exact H
  clear H; have H := H1; clear H1; by_cases c12 : (FloatKind.f64.format.order a0 a1 == some .lt) = true
  ·rw [if_pos c12] at H
   have c12b0 : (FloatKind.f64.format.order a0 a1 == some .lt) = true := c12
   (try (have c12b1 : decide (FloatKind.f64.format.order a0 a1 = some .lt) = true := by simpa using c12))
   (try (have c12b2 : (FloatKind.f64.format.order a0 a1 == some .lt) = true := by simpa using c12))
   clear c12; obtain rfl := Option.some.inj H
   go_wp2
   go_ret
   exact ⟨by first | rfl | (simp; done) | (simp [*]; done), by repeat (first | exact Drawn0.refl _ | apply Drawn0.step)⟩
  rw [if_neg c12] at H; have c12b0 : (FloatKind.f64.format.order a0 a1 == some .lt) = false := by simpa using c12
  (try (have c12b1 : decide (FloatKind.f64.format.order a0 a1 = some .lt) = false := by simpa using c12))
  (try (have c12b2 : (FloatKind.f64.format.order a0 a1 == some .lt) = false := by simpa using c12))
  (try (have c12b3 : ¬ (FloatKind.f64.format.order a0 a1 = some .lt) := by simpa using c12))
  clear c12; by_cases c13 : (FloatKind.f64.format.order a0 a1 == some .gt) = true
  ·rw [if_pos c13] at H
   have c13b0 : (FloatKind.f64.format.order a0 a1 == some .gt) = true := c13
   (try (have c13b1 : decide (FloatKind.f64.format.order a0 a1 = some .gt) = true := by simpa using c13))
   (try (have c13b2 : (FloatKind.f64.format.order a0 a1 == some .gt) = true := by simpa using c13))
   clear c13; obtain rfl := Option.some.inj H
   go_wp2
   go_ret
   exact ⟨by first | rfl | (simp; done) | (simp [*]; done), by repeat (first | exact Drawn0.refl _ | apply Drawn0.step)⟩
  rw [if_neg c13] at H; have c13b0 : (FloatKind.f64.format.order a0 a1 == some .gt) = false := by simpa using c13
  (try (have c13b1 : decide (FloatKind.f64.format.order a0 a1 = some .gt) = false := by simpa using c13))
  (try (have c13b2 : (FloatKind.f64.format.order a0 a1 == some .gt) = false := by simpa using c13))
  (try (have c13b3 : ¬ (FloatKind.f64.format.order a0 a1 = some .gt) := by simpa using c13))
  clear c13; replace H := Option.bind_eq_some_iff.mp H; obtain ⟨t107, A140, H⟩ := H; replace H : ((ratio_truth.f t107).bind fun t108 => ((math_Signbit.f a0).bind fun t109 => ((ratio_truth.f t109).bind fun t110 => (some (wrap64 (t108 - t110)))))) = some r := H
  have A14 := Aside0.mk A140; clear A140; replace H := Option.bind_eq_some_iff.mp H; obtain ⟨t108, A150, H⟩ := H; replace H : ((math_Signbit.f a0).bind fun t109 => ((ratio_truth.f t109).bind fun t110 => (some (wrap64 (t108 - t110))))) = some r := H
  have A15 := Aside0.mk A150; clear A150; replace H := Option.bind_eq_some_iff.mp H; obtain ⟨t109, A160, H⟩ := H; replace H : ((ratio_truth.f t109).bind fun t110 => (some (wrap64 (t108 - t110)))) = some r := H
  have A16 := Aside0.mk A160; clear A160; replace H := Option.bind_eq_some_iff.mp H; obtain ⟨t110, A170, H⟩ := H; replace H : (some (wrap64 (t108 - t110))) = some r := H; have A17 := Aside0.mk A170; clear A170; obtain rfl := Option.some.inj H
  go_wp2_with (first | ((with_reducible refine gate_callee (f := 33) rfl ?_); refine goesL_ (some 28) rfl rfl Try.func33 (by kernel_rfl) rfl #[.float .f64 a1] rfl aT ?_; (with_reducible refine (math_Signbit.calls a1 t107 _ A14.out).mono ?_); rintro e w' ⟨rfl, ⟨nd, rfl⟩⟩; refine ⟨_, rfl, ?_⟩) | ((with_reducible refine gate_callee (f := 32) rfl ?_); refine goesL_ (some 29) rfl rfl Try.func32 (by kernel_rfl) rfl #[.bool t107] rfl aT ?_; (with_reducible refine (ratio_truth.calls t107 t108 _ A15.out).mono ?_); rintro e w' ⟨rfl, ⟨nd, rfl⟩⟩; refine ⟨_, rfl, ?_⟩) | ((with_reducible refine gate_callee (f := 33) rfl ?_); refine goesL_ (some 31) rfl rfl Try.func33 (by kernel_rfl) rfl #[.float .f64 a0] rfl aT ?_; (with_reducible refine (math_Signbit.calls a0 t109 _ A16.out).mono ?_); rintro e w' ⟨rfl, ⟨nd, rfl⟩⟩; refine ⟨_, rfl, ?_⟩) | ((with_reducible refine gate_callee (f := 32) rfl ?_); refine goesL_ (some 32) rfl rfl Try.func32 (by kernel_rfl) rfl #[.bool t109] rfl aT ?_; (with_reducible refine (ratio_truth.calls t109 t110 _ A17.out).mono ?_); rintro e w' ⟨rfl, ⟨nd, rfl⟩⟩; refine ⟨_, rfl, ?_⟩))
  go_ret
  exact ⟨by first | rfl | (simp; done) | (simp [*]; done), by repeat (first | exact Drawn0.refl _ | apply Drawn0.step)⟩
def math_Copysign.f (a0 : Nat) (a1 : Nat) : Option Nat := some (Go.bits .or .u64 (Go.bits .andNot .u64 (a0 : Int) 9223372036854775808) (Go.bits .and .u64 (a1 : Int) 9223372036854775808)).toNat
set_option maxHeartbeats 8000000 in
set_option maxRecDepth 100000 in
theorem math_Copysign.calls (a0 : Nat) (a1 : Nat) (r : Nat) (w : World) (h : math_Copysign.f a0 a1 = some r) :
  Calls Try.prog 14 #[.float .f64 a0, .float .f64 a1] w fun e w' => e = .returned (.float .f64 r) ∧ Drawn0 w w' := by
 have hu := Try.underlying22; have hu2 := Try.underlying12; have hA : ∀ (b : Nat) (W : World), (callFunc 37 #[.float .f64 b]).run Try.prog W = .ok (.value (.int .u64 b)) W := fun b W => by rw [run_callFunc_extern (fn := Try.f37) (e := Extern.MathFloatBits.float64bits) (by kernel_rfl) (by kernel_rfl) (by kernel_rfl) (by rfl) (by rfl)]; rfl
 have hB : ∀ (b : Int) (W : World), (callFunc 36 #[.int .u64 b]).run Try.prog W = .ok (.value (.float .f64 b.toNat)) W := fun b W => by rw [run_callFunc_extern (fn := Try.f36) (e := Extern.MathFloatBits.float64frombits) (by kernel_rfl) (by kernel_rfl) (by kernel_rfl) (by rfl) (by rfl)]; rfl
 obtain rfl := Option.some.inj h
 go_enter Try.func14, Try.ntmps14
 go_wp2
 go_ret
 exact ⟨rfl, Drawn0.refl _⟩
def math_Inf.f (a0 : Int) : Option Nat := some (if 0 ≤ a0 then 9218868437227405312 else 18442240474082181120)
set_option maxHeartbeats 8000000 in
set_option maxRecDepth 100000 in
theorem math_Inf.calls (a0 : Int) (r : Nat) (w : World) (h : math_Inf.f a0 = some r) :
  Calls Try.prog 16 #[.int .i64 a0] w fun e w' => e = .returned (.float .f64 r) ∧ Drawn0 w w' := by
 have hu := Try.underlying22; have hu2 := Try.underlying12; have hB : ∀ (b : Int) (W : World), (callFunc 36 #[.int .u64 b]).run Try.prog W = .ok (.value (.float .f64 b.toNat)) W := fun b W => by rw [run_callFunc_extern (fn := Try.f36) (e := Extern.MathFloatBits.float64frombits) (by kernel_rfl) (by kernel_rfl) (by kernel_rfl) (by rfl) (by rfl)]; rfl
 obtain rfl := Option.some.inj h
 by_cases hx : 0 ≤ a0
 ·rw [if_pos hx]
  have hd : decide (0 ≤ a0) = true := decide_eq_true hx
  go_enter Try.func16, Try.ntmps16
  go_wp2
  go_ret
  exact ⟨rfl, Drawn0.refl _⟩
 rw [if_neg hx]; have hd : decide (0 ≤ a0) = false := decide_eq_false hx
 go_enter Try.func16, Try.ntmps16
 go_wp2
 go_ret
 exact ⟨rfl, Drawn0.refl _⟩
def ratio_Of.f (a0 : Int) (a1 : Int) : Option Nat := some (fop .quo (floatOfInt .f64 a0) (floatOfInt .f64 a1))
set_option maxHeartbeats 8000000 in
set_option maxRecDepth 100000 in
theorem ratio_Of.calls (a0 : Int) (a1 : Int) (r : Nat) (w : World) (h : ratio_Of.f a0 a1 = some r) :
  Calls Try.prog 18 #[.int .i64 a0, .int .i64 a1] w fun e w' => ∃ b_ : Nat, e = .returned (.float .f64 b_) ∧ Drawn0 w w' ∧ FR r b_ := by
 have hu3 : (Try.prog.underlying 3).isSome = true := by kernel_rfl
 have hu24 := Try.underlying22; obtain rfl := Option.some.inj h
 obtain ⟨b, m, hrun, hb⟩ := run_rough (P := Try.prog) w .quo (by simp) 22 (floatOfInt .f64 a0) (floatOfInt .f64 a1)
 go_enter Try.func18, Try.ntmps18
 go_wp2
 go_ret
 exact ⟨b, rfl, ⟨⟨m, rfl⟩⟩, fr_fop hb⟩
def absb (x : Nat) : Nat := (Go.bits .andNot .u64 (x : Int) 9223372036854775808).toNat
def cube (x : Nat) : Nat := fop .mul (fop .mul (fop .mul 4636737291354636288 (absb x)) (absb x)) (absb x)
def ratio_Badness.f (a0 : Nat) : Option Int := if isNan a0 = true then some 0 else if (FloatKind.f64.format.order (cube a0) 4666723172467343360 == some .lt) = true then floatToIntVal .f64 (cube a0) .i64 else some 10000
set_option maxHeartbeats 8000000 in
set_option maxRecDepth 100000 in
theorem ratio_Badness.calls (a0 : Nat) (r : Int) (w : World) (h : ratio_Badness.f a0 = some r) {b0_ : Nat} (hf0_ : Aside0 (FR a0 b0_) := by first | assumption | exact ⟨FR.same _⟩) :
  Calls Try.prog 19 #[.float .f64 b0_] w fun e w' => e = .returned (.int .i64 r) ∧ Drawn0 w w' := by
 have hu24 := Try.underlying22; have hu3 := Try.underlying3; have hA : ∀ (b : Nat) (W : World), (callFunc 37 #[.float .f64 b]).run Try.prog W = .ok (.value (.int .u64 b)) W := fun b W => by rw [run_callFunc_extern (fn := Try.f37) (e := Extern.MathFloatBits.float64bits) (by kernel_rfl) (by kernel_rfl) (by kernel_rfl) (by rfl) (by rfl)]; rfl
 have hB : ∀ (b : Int) (W : World), (callFunc 36 #[.int .u64 b]).run Try.prog W = .ok (.value (.float .f64 b.toNat)) W := fun b W => by rw [run_callFunc_extern (fn := Try.f36) (e := Extern.MathFloatBits.float64frombits) (by kernel_rfl) (by kernel_rfl) (by kernel_rfl) (by rfl) (by rfl)]; rfl
 unfold ratio_Badness.f at h
 by_cases hx : isNan a0 = true
 ·rw [if_pos hx] at h
  obtain rfl := Option.some.inj h
  have ho := order_nan_l (b := b0_) (y := b0_) (by rw [← hf0_.out.nan]; exact hx)
  go_enter Try.func19, Try.ntmps19
  go_wp2
  go_ret
  exact ⟨rfl, Drawn0.refl _⟩
 rw [if_neg hx] at h; have hx' : isNan a0 = false := by simpa using hx
 obtain rfl := hf0_.out.eq_of hx'
 have ho := order_self hx'; obtain ⟨p1, m1, hr1, hp1⟩ := run_rough (P := Try.prog) w .mul (by simp) 22 4636737291354636288 (absb a0)
 obtain ⟨p2, m2, hr2, hp2⟩ := run_rough (P := Try.prog) (w.drewN m1) .mul (by simp) 22 p1 (absb a0)
 obtain ⟨p3, m3, hr3, hp3⟩ := run_rough (P := Try.prog) (w.drewN (m1 + m2)) .mul (by simp) 22 p2 (absb a0)
 have hc : FR (cube a0) p3 := ((fr_fop hp1).fop_l (fr_fop hp2)).fop_l (fr_fop hp3)
 have hd : Drawn0 w (w.drewN (m1 + m2 + m3)) := ⟨⟨_, rfl⟩⟩
 rw [← hc.order_l] at h; unfold absb at hr1 hr2 hr3
 by_cases hl : (FloatKind.f64.format.order p3 4666723172467343360 == some .lt) = true
 rotate_left
 ·rw [if_neg hl] at h
  obtain rfl := Option.some.inj h
  have hl' := Bool.eq_false_iff.mpr hl
  go_enter Try.func19, Try.ntmps19
  go_wp2
  go_ret
  exact ⟨rfl, hd⟩
 rw [if_pos hl] at h; have hn : isNan (cube a0) = false := by
  rcases Bool.eq_false_or_eq_true (isNan (cube a0)) with hh | hh
  ·rw [hc.order_l, order_nan_l hh] at hl; cases hl
  ·exact hh
 rw [hc.eq_of hn] at h; have hk := fun W => run_convert_float_int (P := Try.prog) W 22 3 .f64 .i64 p3 r (by kernel_rfl) hu3 h
 go_enter Try.func19, Try.ntmps19
 go_wp2
 go_ret
 exact ⟨rfl, hd⟩
theorem bits_nan_r {op : BinOp} {x b : Nat} (h : isNan b = true) : floatBits op .f64 x b = none := by
 unfold isNan Ieee.Datum.isNaN FloatKind.decode at h
 split at h
 ·rename_i hd
  cases op <;> simp [floatBits, Ieee.Format.add, Ieee.Format.sub, Ieee.Format.mul, Ieee.Format.div, hd, Ieee.Datum.sum, Ieee.Datum.product, Ieee.Datum.quotient, Ieee.Datum.opposite] <;> (cases Ieee.Format.read FloatKind.f64.format x <;> rfl)
 cases h
theorem FR.fop_r {op : BinOp} {x y b z : Nat} (h : FR y b) (hz : FR (fop op x b) z) : FR (fop op x y) z := by
 rcases h with rfl | ⟨h1, h2⟩
 ·exact hz
 have e1 : fop op x y = NANB := by unfold fop; rw [bits_nan_r h1]; rfl
 have e2 : fop op x b = NANB := by unfold fop; rw [bits_nan_r h2]; rfl
 rw [e1]; rw [e2] at hz; exact hz
def blendf (a b t : Nat) : Nat := if (FloatKind.f64.format.order t 0 == some .eq) = true then a else if (FloatKind.f64.format.order t 4607182418800017408 == some .eq) = true then b else fop .add (fop .mul a (fop .sub 4607182418800017408 t)) (fop .mul b t)
def ratio_Blend.f (a0 : Nat) (a1 : Nat) (a2 : Nat) : Option Nat := some (blendf a0 a1 a2)
set_option maxHeartbeats 8000000 in
set_option maxRecDepth 100000 in
theorem ratio_Blend.calls (a0 : Nat) (a1 : Nat) (a2 : Nat) (r : Nat) (w : World) (h : ratio_Blend.f a0 a1 a2 = some r) {b0_ : Nat} (hf0_ : Aside0 (FR a0 b0_) := by first | assumption | exact ⟨FR.same _⟩) {b1_ : Nat} (hf1_ : Aside0 (FR a1 b1_) := by first | assumption | exact ⟨FR.same _⟩) {b2_ : Nat} (hf2_ : Aside0 (FR a2 b2_) := by first | assumption | exact ⟨FR.same _⟩) :
  Calls Try.prog 22 #[.float .f64 b0_, .float .f64 b1_, .float .f64 b2_] w fun e w' => ∃ b_ : Nat, e = .returned (.float .f64 b_) ∧ Drawn0 w w' ∧ FR r b_ := by
 have hu := Try.underlying22; obtain rfl := Option.some.inj h
 unfold blendf
 rw [← hf2_.out.order_l 0, ← hf2_.out.order_l 4607182418800017408]; by_cases c0 : (FloatKind.f64.format.order b2_ 0 == some .eq) = true
 ·rw [if_pos c0]
  go_enter Try.func22, Try.ntmps22
  go_wp2
  go_ret
  exact ⟨b0_, rfl, Drawn0.refl _, hf0_.out⟩
 rw [if_neg c0]; have c0' : (FloatKind.f64.format.order b2_ 0 == some .eq) = false := by simpa using c0
 clear c0; by_cases c1 : (FloatKind.f64.format.order b2_ 4607182418800017408 == some .eq) = true
 ·rw [if_pos c1]
  go_enter Try.func22, Try.ntmps22
  go_wp2
  go_ret
  exact ⟨b1_, rfl, Drawn0.refl _, hf1_.out⟩
 rw [if_neg c1]; have c1' : (FloatKind.f64.format.order b2_ 4607182418800017408 == some .eq) = false := by simpa using c1
 clear c1; obtain ⟨p1, m1, hr1, hp1⟩ := run_rough (P := Try.prog) w .sub (by simp) 22 4607182418800017408 b2_
 obtain ⟨p2, m2, hr2, hp2⟩ := run_rough (P := Try.prog) (w.drewN m1) .mul (by simp) 22 b0_ p1
 obtain ⟨p3, m3, hr3, hp3⟩ := run_rough (P := Try.prog) (w.drewN (m1 + m2)) .mul (by simp) 22 b1_ b2_
 obtain ⟨p4, m4, hr4, hp4⟩ := run_rough (P := Try.prog) (w.drewN (m1 + m2 + m3)) .add (by simp) 22 p2 p3
 have hc : FR (fop .add (fop .mul a0 (fop .sub 4607182418800017408 a2)) (fop .mul a1 a2)) p4 :=
  FR.fop_l (hf0_.out.fop_l (FR.fop_r (FR.fop_r hf2_.out (fr_fop hp1)) (fr_fop hp2))) (FR.fop_r (hf1_.out.fop_l (FR.fop_r hf2_.out (fr_fop hp3))) (fr_fop hp4))
 have hd : Drawn0 w (w.drewN (m1 + m2 + m3 + m4)) := ⟨⟨_, rfl⟩⟩
 go_enter Try.func22, Try.ntmps22
 go_wp2
 go_ret
 exact ⟨p4, rfl, hd, hc⟩
def meanf (l : List Nat) : Nat := fop .quo (l.foldl (fop .add) 0) (floatOfInt .f64 (l.length : Int))
theorem mean_step {l : List Nat} {i s p : Nat} (hi : i < l.length) (hs : FR ((l.take i).foldl (fop .add) 0) s) (hp : FR (fop .add s (rdOf (0 : Nat) l (i : Int))) p) : FR ((l.take (i + 1)).foldl (fop .add) 0) p := by
 rw [List.take_succ_eq_append_getElem hi, List.foldl_append]; have e : rdOf (0 : Nat) l (i : Int) = l[i] := by
  show l.getD i 0 = _
  rw [List.getD_eq_getElem?_getD, List.getElem?_eq_getElem hi]; rfl
 rw [e] at hp; exact hs.fop_l hp
def ratio_Mean.f (l0 : List Nat) : Option Nat := some (meanf l0)
set_option maxHeartbeats 8000000 in
set_option maxRecDepth 100000 in
theorem ratio_Mean.calls (A0 : Option Addr) (c0 : Nat) (l0 : List Nat) (r : Nat) (w : World) (hr0 : Kd.C Kd.f64 w A0 l0.length l0) (hc0 : l0.length ≤ c0) (h : ratio_Mean.f l0 = some r) :
  Calls Try.prog 26 #[.slice A0 l0.length c0] w fun e w' => ∃ b_ : Nat, e = .returned (.float .f64 b_) ∧ Drawn0 w w' ∧ FR r b_ := by
 have hu := Try.underlying22; have hu3 : (Try.prog.underlying 3).isSome = true := by kernel_rfl
 obtain rfl := Option.some.inj h
 unfold meanf
 have hlen : (l0.length : Int) ≤ 9223372036854775807 := by have := hr0.2.1; omega
 have HR := Aside0.mk hr0; clear hr0 h; go_enter Try.func26, Try.ntmps26
 go_wp2
 go_loopg [3, 8] l0.length (fun kq v3 v8 w' => ∃ (s i : Nat), v3 = .float .f64 s ∧ v8 = .int .i64 (i : Int) ∧ Aside0 (i + kq = l0.length) ∧ Aside0 (FR ((l0.take i).foldl (fop .add) 0) s) ∧ Drawn0 w w')
 case atStart => exact ⟨0, 0, rfl, rfl, ⟨by omega⟩, ⟨FR.same _⟩, Drawn0.refl _⟩
 obtain ⟨s, i, rfl, rfl, HI, HS, ⟨m1, rfl⟩⟩ := hrel; cases gk with
 | zero =>
  have e : i = l0.length := by have := HI.out; omega
  have c0_ : decide ((i : Int) < (l0.length : Int)) = false := decide_eq_false (by omega)
  have c1_ : decide (i < l0.length) = false := decide_eq_false (by omega)
  have hs := HS.out; rw [e, List.take_length] at hs; obtain ⟨p, m, hr, hp⟩ := run_rough (P := Try.prog) (w.drewN m1) .quo (by simp) 22 s (floatOfInt .f64 (l0.length : Int))
  have hc := hs.fop_l (fr_fop hp); clear hs hp e; go_wp2
  go_ret
  exact ⟨p, rfl, by first | exact ⟨⟨_, rfl⟩⟩ | exact ⟨⟨m1 + m, by simp [World.drewN, Nat.add_assoc]⟩⟩, hc⟩
 | succ k1 =>
  have hi : i < l0.length := by have := HI.out; omega
  have c0_ : decide ((i : Int) < (l0.length : Int)) = true := decide_eq_true (by omega)
  have c1_ : decide (i < l0.length) = true := decide_eq_true (by omega)
  have c2_ : (i < l0.length) = True := eq_true hi
  obtain ⟨ad, e, hx⟩ := Kd.at_f64 HR.out (i : Int) (by omega) (by omega)
  cases e
  rw [Int.toNat_natCast] at hx; have p1_ : (0 ≤ (i : Int)) = True := eq_true (by omega)
  have q1_ : ((i : Int) < (l0.length : Int)) = True := eq_true (by omega)
  obtain ⟨p, m, hr, hp⟩ := run_rough (P := Try.prog) (w.drewN m1) .add (by simp) 22 s (rdOf (0 : Nat) l0 (i : Int))
  have hc := Aside0.mk (mean_step hi HS.out (fr_fop hp)); clear hp; go_wp2
  go_roundg k1
  case measure => omega
  case rel => exact ⟨p, i + 1, rfl, by first | rfl | (congr 1; first | rw [i64_w] | skip; unfold Go.RowKit.wrap64; omega), ⟨by have := HI.out; omega⟩, hc, by first | exact ⟨⟨_, rfl⟩⟩ | exact ⟨⟨m1 + m, by simp [World.drewN, Nat.add_assoc]⟩⟩⟩
def stanzalaw12_Awake.f (k : Nat)  : Option (Bool) := (math_Inf.f 1).bind fun t111 => ((ratio_Of.f 1 0).bind fun t112 => (if (FloatKind.f64.format.order t112 t111 == some .eq) = true then ((ratio_Badness.f t111).bind fun t113 => (if t113 = 10000 then ((ratio_Of.f 0 0).bind fun t114 => ((ratio_Badness.f t114).bind fun t115 => (if t115 = 0 then ((ratio_Badness.f 4602678819172646912).bind fun t116 => (if t116 = 12 then ((ratio_Badness.f 13830554455654793216).bind fun t117 => (if t117 = 100 then ((ratio_Round.f 4612811918334230528).bind fun t118 => (if t118 = 2 then ((math_Copysign.f 0 13830554455654793216).bind fun t119 => ((ratio_Order.f k t119 0).bind fun t120 => (if t120 = (-1) then ((ratio_Blend.f 4607182418800017408 t111 0).bind fun t121 => (if (FloatKind.f64.format.order t121 4607182418800017408 == some .eq) = true then ((ratio_Mean.f ([] : List Nat)).bind fun t122 => ((math_IsNaN.f t122).bind fun t123 => (some t123))) else (some false))) else (some false)))) else (some false))) else (some false))) else (some false))) else (some false)))) else (some false))) else (some false)))
theorem stanzalaw12_Awake.mono : ∀ k, LeO (stanzalaw12_Awake.f k ) (stanzalaw12_Awake.f (k + 1) ) := by
 intro  k
 unfold stanzalaw12_Awake.f
 repeat' (with_reducible first | exact ratio_Order.mono _ _ _ | exact LeO.refl _ | exact LeO.none _ | refine LeO.ite ?_ ?_ | refine LeO.bind ?_ (fun _ => ?_))
set_option maxHeartbeats 8000000 in
set_option maxRecDepth 100000 in
theorem stanzalaw12_Awake.calls (k : Nat)  (r : Bool) (w : World) (h : stanzalaw12_Awake.f k  = some r) (hrt_ : Aside0 (r = true)) :
  Calls Try.prog 10 #[] w fun e w' => e = .returned (.bool r) ∧ Drawn0 w w' := by
 have H : ((math_Inf.f 1).bind fun t111 => ((ratio_Of.f 1 0).bind fun t112 => (if (FloatKind.f64.format.order t112 t111 == some .eq) = true then ((ratio_Badness.f t111).bind fun t113 => (if t113 = 10000 then ((ratio_Of.f 0 0).bind fun t114 => ((ratio_Badness.f t114).bind fun t115 => (if t115 = 0 then ((ratio_Badness.f 4602678819172646912).bind fun t116 => (if t116 = 12 then ((ratio_Badness.f 13830554455654793216).bind fun t117 => (if t117 = 100 then ((ratio_Round.f 4612811918334230528).bind fun t118 => (if t118 = 2 then ((math_Copysign.f 0 13830554455654793216).bind fun t119 => ((ratio_Order.f k t119 0).bind fun t120 => (if t120 = (-1) then ((ratio_Blend.f 4607182418800017408 t111 0).bind fun t121 => (if (FloatKind.f64.format.order t121 4607182418800017408 == some .eq) = true then ((ratio_Mean.f ([] : List Nat)).bind fun t122 => ((math_IsNaN.f t122).bind fun t123 => (some t123))) else (some false))) else (some false)))) else (some false))) else (some false))) else (some false))) else (some false)))) else (some false))) else (some false)))) = some r := h
 clear h; replace H := Option.bind_eq_some_iff.mp H; obtain ⟨t111, A10, H⟩ := H; replace H : ((ratio_Of.f 1 0).bind fun t112 => (if (FloatKind.f64.format.order t112 t111 == some .eq) = true then ((ratio_Badness.f t111).bind fun t113 => (if t113 = 10000 then ((ratio_Of.f 0 0).bind fun t114 => ((ratio_Badness.f t114).bind fun t115 => (if t115 = 0 then ((ratio_Badness.f 4602678819172646912).bind fun t116 => (if t116 = 12 then ((ratio_Badness.f 13830554455654793216).bind fun t117 => (if t117 = 100 then ((ratio_Round.f 4612811918334230528).bind fun t118 => (if t118 = 2 then ((math_Copysign.f 0 13830554455654793216).bind fun t119 => ((ratio_Order.f k t119 0).bind fun t120 => (if t120 = (-1) then ((ratio_Blend.f 4607182418800017408 t111 0).bind fun t121 => (if (FloatKind.f64.format.order t121 4607182418800017408 == some .eq) = true then ((ratio_Mean.f ([] : List Nat)).bind fun t122 => ((math_IsNaN.f t122).bind fun t123 => (some t123))) else (some false))) else (some false)))) else (some false))) else (some false))) else (some false))) else (some false)))) else (some false))) else (some false))) = some r := H
 have A1 := Aside0.mk A10; clear A10; replace H := Option.bind_eq_some_iff.mp H; obtain ⟨t112, A20, H⟩ := H; replace H : (if (FloatKind.f64.format.order t112 t111 == some .eq) = true then ((ratio_Badness.f t111).bind fun t113 => (if t113 = 10000 then ((ratio_Of.f 0 0).bind fun t114 => ((ratio_Badness.f t114).bind fun t115 => (if t115 = 0 then ((ratio_Badness.f 4602678819172646912).bind fun t116 => (if t116 = 12 then ((ratio_Badness.f 13830554455654793216).bind fun t117 => (if t117 = 100 then ((ratio_Round.f 4612811918334230528).bind fun t118 => (if t118 = 2 then ((math_Copysign.f 0 13830554455654793216).bind fun t119 => ((ratio_Order.f k t119 0).bind fun t120 => (if t120 = (-1) then ((ratio_Blend.f 4607182418800017408 t111 0).bind fun t121 => (if (FloatKind.f64.format.order t121 4607182418800017408 == some .eq) = true then ((ratio_Mean.f ([] : List Nat)).bind fun t122 => ((math_IsNaN.f t122).bind fun t123 => (some t123))) else (some false))) else (some false)))) else (some false))) else (some false))) else (some false))) else (some false)))) else (some false))) else (some false)) = some r := H
 have A2 := Aside0.mk A20; clear A20; by_cases c3 : (FloatKind.f64.format.order t112 t111 == some .eq) = true
 rotate_left
 ·rw [if_neg c3] at H
  have c3b0 : (FloatKind.f64.format.order t112 t111 == some .eq) = false := by simpa using c3
  (try (have c3b1 : decide (FloatKind.f64.format.order t112 t111 = some .eq) = false := by simpa using c3))
  (try (have c3b2 : (FloatKind.f64.format.order t112 t111 == some .eq) = false := by simpa using c3))
  (try (have c3b3 : ¬ (FloatKind.f64.format.order t112 t111 = some .eq) := by simpa using c3))
  clear c3; exact absurd ((Option.some.inj H).trans hrt_.out) (by decide)
 rw [if_pos c3] at H; have c3b0 : (FloatKind.f64.format.order t112 t111 == some .eq) = true := c3
 (try (have c3b1 : decide (FloatKind.f64.format.order t112 t111 = some .eq) = true := by simpa using c3))
 (try (have c3b2 : (FloatKind.f64.format.order t112 t111 == some .eq) = true := by simpa using c3))
 clear c3; replace H := Option.bind_eq_some_iff.mp H; obtain ⟨t113, A40, H⟩ := H; replace H : (if t113 = 10000 then ((ratio_Of.f 0 0).bind fun t114 => ((ratio_Badness.f t114).bind fun t115 => (if t115 = 0 then ((ratio_Badness.f 4602678819172646912).bind fun t116 => (if t116 = 12 then ((ratio_Badness.f 13830554455654793216).bind fun t117 => (if t117 = 100 then ((ratio_Round.f 4612811918334230528).bind fun t118 => (if t118 = 2 then ((math_Copysign.f 0 13830554455654793216).bind fun t119 => ((ratio_Order.f k t119 0).bind fun t120 => (if t120 = (-1) then ((ratio_Blend.f 4607182418800017408 t111 0).bind fun t121 => (if (FloatKind.f64.format.order t121 4607182418800017408 == some .eq) = true then ((ratio_Mean.f ([] : List Nat)).bind fun t122 => ((math_IsNaN.f t122).bind fun t123 => (some t123))) else (some false))) else (some false)))) else (some false))) else (some false))) else (some false))) else (some false)))) else (some false)) = some r := H
 have A4 := Aside0.mk A40; clear A40; by_cases c5 : t113 = 10000
 rotate_left
 ·rw [if_neg c5] at H
  have c5b0 : (t113 == 10000) = false := beq_eq_false_iff_ne.mpr c5
  have c5b1 : (t113 != 10000) = true := bne_iff_ne.mpr c5
  exact absurd ((Option.some.inj H).trans hrt_.out) (by decide)
 rw [if_pos c5] at H; have c5b0 : (t113 == 10000) = true := beq_iff_eq.mpr c5
 have c5b1 : (t113 != 10000) = false := bne_eq_false_iff_eq.mpr c5
 clear c5; replace H := Option.bind_eq_some_iff.mp H; obtain ⟨t114, A60, H⟩ := H; replace H : ((ratio_Badness.f t114).bind fun t115 => (if t115 = 0 then ((ratio_Badness.f 4602678819172646912).bind fun t116 => (if t116 = 12 then ((ratio_Badness.f 13830554455654793216).bind fun t117 => (if t117 = 100 then ((ratio_Round.f 4612811918334230528).bind fun t118 => (if t118 = 2 then ((math_Copysign.f 0 13830554455654793216).bind fun t119 => ((ratio_Order.f k t119 0).bind fun t120 => (if t120 = (-1) then ((ratio_Blend.f 4607182418800017408 t111 0).bind fun t121 => (if (FloatKind.f64.format.order t121 4607182418800017408 == some .eq) = true then ((ratio_Mean.f ([] : List Nat)).bind fun t122 => ((math_IsNaN.f t122).bind fun t123 => (some t123))) else (some false))) else (some false)))) else (some false))) else (some false))) else (some false))) else (some false))) = some r := H
 have A6 := Aside0.mk A60; clear A60; replace H := Option.bind_eq_some_iff.mp H; obtain ⟨t115, A70, H⟩ := H; replace H : (if t115 = 0 then ((ratio_Badness.f 4602678819172646912).bind fun t116 => (if t116 = 12 then ((ratio_Badness.f 13830554455654793216).bind fun t117 => (if t117 = 100 then ((ratio_Round.f 4612811918334230528).bind fun t118 => (if t118 = 2 then ((math_Copysign.f 0 13830554455654793216).bind fun t119 => ((ratio_Order.f k t119 0).bind fun t120 => (if t120 = (-1) then ((ratio_Blend.f 4607182418800017408 t111 0).bind fun t121 => (if (FloatKind.f64.format.order t121 4607182418800017408 == some .eq) = true then ((ratio_Mean.f ([] : List Nat)).bind fun t122 => ((math_IsNaN.f t122).bind fun t123 => (some t123))) else (some false))) else (some false)))) else (some false))) else (some false))) else (some false))) else (some false)) = some r := H
 have A7 := Aside0.mk A70; clear A70; by_cases c8 : t115 = 0
 rotate_left
 ·rw [if_neg c8] at H
  have c8b0 : (t115 == 0) = false := beq_eq_false_iff_ne.mpr c8
  have c8b1 : (t115 != 0) = true := bne_iff_ne.mpr c8
  exact absurd ((Option.some.inj H).trans hrt_.out) (by decide)
 rw [if_pos c8] at H; have c8b0 : (t115 == 0) = true := beq_iff_eq.mpr c8
 have c8b1 : (t115 != 0) = false := bne_eq_false_iff_eq.mpr c8
 clear c8; replace H := Option.bind_eq_some_iff.mp H; obtain ⟨t116, A90, H⟩ := H; replace H : (if t116 = 12 then ((ratio_Badness.f 13830554455654793216).bind fun t117 => (if t117 = 100 then ((ratio_Round.f 4612811918334230528).bind fun t118 => (if t118 = 2 then ((math_Copysign.f 0 13830554455654793216).bind fun t119 => ((ratio_Order.f k t119 0).bind fun t120 => (if t120 = (-1) then ((ratio_Blend.f 4607182418800017408 t111 0).bind fun t121 => (if (FloatKind.f64.format.order t121 4607182418800017408 == some .eq) = true then ((ratio_Mean.f ([] : List Nat)).bind fun t122 => ((math_IsNaN.f t122).bind fun t123 => (some t123))) else (some false))) else (some false)))) else (some false))) else (some false))) else (some false)) = some r := H
 have A9 := Aside0.mk A90; clear A90; by_cases c10 : t116 = 12
 rotate_left
 ·rw [if_neg c10] at H
  have c10b0 : (t116 == 12) = false := beq_eq_false_iff_ne.mpr c10
  have c10b1 : (t116 != 12) = true := bne_iff_ne.mpr c10
  exact absurd ((Option.some.inj H).trans hrt_.out) (by decide)
 rw [if_pos c10] at H; have c10b0 : (t116 == 12) = true := beq_iff_eq.mpr c10
 have c10b1 : (t116 != 12) = false := bne_eq_false_iff_eq.mpr c10
 clear c10; replace H := Option.bind_eq_some_iff.mp H; obtain ⟨t117, A110, H⟩ := H; replace H : (if t117 = 100 then ((ratio_Round.f 4612811918334230528).bind fun t118 => (if t118 = 2 then ((math_Copysign.f 0 13830554455654793216).bind fun t119 => ((ratio_Order.f k t119 0).bind fun t120 => (if t120 = (-1) then ((ratio_Blend.f 4607182418800017408 t111 0).bind fun t121 => (if (FloatKind.f64.format.order t121 4607182418800017408 == some .eq) = true then ((ratio_Mean.f ([] : List Nat)).bind fun t122 => ((math_IsNaN.f t122).bind fun t123 => (some t123))) else (some false))) else (some false)))) else (some false))) else (some false)) = some r := H
 have A11 := Aside0.mk A110; clear A110; by_cases c12 : t117 = 100
 rotate_left
 ·rw [if_neg c12] at H
  have c12b0 : (t117 == 100) = false := beq_eq_false_iff_ne.mpr c12
  have c12b1 : (t117 != 100) = true := bne_iff_ne.mpr c12
  exact absurd ((Option.some.inj H).trans hrt_.out) (by decide)
 rw [if_pos c12] at H; have c12b0 : (t117 == 100) = true := beq_iff_eq.mpr c12
 have c12b1 : (t117 != 100) = false := bne_eq_false_iff_eq.mpr c12
 clear c12; replace H := Option.bind_eq_some_iff.mp H; obtain ⟨t118, A130, H⟩ := H; replace H : (if t118 = 2 then ((math_Copysign.f 0 13830554455654793216).bind fun t119 => ((ratio_Order.f k t119 0).bind fun t120 => (if t120 = (-1) then ((ratio_Blend.f 4607182418800017408 t111 0).bind fun t121 => (if (FloatKind.f64.format.order t121 4607182418800017408 == some .eq) = true then ((ratio_Mean.f ([] : List Nat)).bind fun t122 => ((math_IsNaN.f t122).bind fun t123 => (some t123))) else (some false))) else (some false)))) else (some false)) = some r := H
 have A13 := Aside0.mk A130; clear A130; by_cases c14 : t118 = 2
 rotate_left
 ·rw [if_neg c14] at H
  have c14b0 : (t118 == 2) = false := beq_eq_false_iff_ne.mpr c14
  have c14b1 : (t118 != 2) = true := bne_iff_ne.mpr c14
  exact absurd ((Option.some.inj H).trans hrt_.out) (by decide)
 rw [if_pos c14] at H; have c14b0 : (t118 == 2) = true := beq_iff_eq.mpr c14
 have c14b1 : (t118 != 2) = false := bne_eq_false_iff_eq.mpr c14
 clear c14; replace H := Option.bind_eq_some_iff.mp H; obtain ⟨t119, A150, H⟩ := H; replace H : ((ratio_Order.f k t119 0).bind fun t120 => (if t120 = (-1) then ((ratio_Blend.f 4607182418800017408 t111 0).bind fun t121 => (if (FloatKind.f64.format.order t121 4607182418800017408 == some .eq) = true then ((ratio_Mean.f ([] : List Nat)).bind fun t122 => ((math_IsNaN.f t122).bind fun t123 => (some t123))) else (some false))) else (some false))) = some r := H
 have A15 := Aside0.mk A150; clear A150; replace H := Option.bind_eq_some_iff.mp H; obtain ⟨t120, A160, H⟩ := H; replace H : (if t120 = (-1) then ((ratio_Blend.f 4607182418800017408 t111 0).bind fun t121 => (if (FloatKind.f64.format.order t121 4607182418800017408 == some .eq) = true then ((ratio_Mean.f ([] : List Nat)).bind fun t122 => ((math_IsNaN.f t122).bind fun t123 => (some t123))) else (some false))) else (some false)) = some r := H
 have A16 := Aside0.mk A160; clear A160; by_cases c17 : t120 = (-1)
 rotate_left
 ·rw [if_neg c17] at H
  have c17b0 : (t120 == (-1)) = false := beq_eq_false_iff_ne.mpr c17
  have c17b1 : (t120 != (-1)) = true := bne_iff_ne.mpr c17
  exact absurd ((Option.some.inj H).trans hrt_.out) (by decide)
 rw [if_pos c17] at H; have c17b0 : (t120 == (-1)) = true := beq_iff_eq.mpr c17
 have c17b1 : (t120 != (-1)) = false := bne_eq_false_iff_eq.mpr c17
 clear c17; replace H := Option.bind_eq_some_iff.mp H; obtain ⟨t121, A180, H⟩ := H; replace H : (if (FloatKind.f64.format.order t121 4607182418800017408 == some .eq) = true then ((ratio_Mean.f ([] : List Nat)).bind fun t122 => ((math_IsNaN.f t122).bind fun t123 => (some t123))) else (some false)) = some r := H
 have A18 := Aside0.mk A180; clear A180; by_cases c19 : (FloatKind.f64.format.order t121 4607182418800017408 == some .eq) = true
 rotate_left
 ·rw [if_neg c19] at H
  have c19b0 : (FloatKind.f64.format.order t121 4607182418800017408 == some .eq) = false := by simpa using c19
  (try (have c19b1 : decide (FloatKind.f64.format.order t121 4607182418800017408 = some .eq) = false := by simpa using c19))
  (try (have c19b2 : (FloatKind.f64.format.order t121 4607182418800017408 == some .eq) = false := by simpa using c19))
  (try (have c19b3 : ¬ (FloatKind.f64.format.order t121 4607182418800017408 = some .eq) := by simpa using c19))
  clear c19; exact absurd ((Option.some.inj H).trans hrt_.out) (by decide)
 rw [if_pos c19] at H; have c19b0 : (FloatKind.f64.format.order t121 4607182418800017408 == some .eq) = true := c19
 (try (have c19b1 : decide (FloatKind.f64.format.order t121 4607182418800017408 = some .eq) = true := by simpa using c19))
 (try (have c19b2 : (FloatKind.f64.format.order t121 4607182418800017408 == some .eq) = true := by simpa using c19))
 clear c19; replace H := Option.bind_eq_some_iff.mp H; obtain ⟨t122, A200, H⟩ := H; replace H : ((math_IsNaN.f t122).bind fun t123 => (some t123)) = some r := H
 have A20 := Aside0.mk A200; clear A200; replace H := Option.bind_eq_some_iff.mp H; obtain ⟨t123, A210, H⟩ := H; replace H : (some t123) = some r := H; have A21 := Aside0.mk A210; clear A210; obtain rfl := Option.some.inj H
 go_enter Try.func10, Try.ntmps10
 go_wp2_with (first | ((with_reducible refine gate_callee (f := 16) rfl ?_); refine goesL_ (some 2) rfl rfl Try.func16 (by kernel_rfl) rfl #[.int .i64 1] rfl aT ?_; (with_reducible refine (math_Inf.calls 1 t111 _ A1.out).mono ?_); rintro e w' ⟨rfl, ⟨nd, rfl⟩⟩; refine ⟨_, rfl, ?_⟩) | ((with_reducible refine gate_callee (f := 18) rfl ?_); refine goesL_ (some 3) rfl rfl Try.func18 (by kernel_rfl) rfl #[.int .i64 1, .int .i64 0] rfl aT ?_; (with_reducible refine (ratio_Of.calls 1 0 t112 _ A2.out).mono ?_); rintro e w' ⟨bt_t112, rfl, ⟨nd, rfl⟩, hfr_⟩; have HF_t112 := Aside0.mk hfr_; clear hfr_; have c3b0r : (FloatKind.f64.format.order bt_t112 t111 == some .eq) = true := (by first | (rw [HF_t112.out.order_l]; exact c3b0) | (rw [HF_t112.out.order_r]; exact c3b0)); have c3b1r : decide (FloatKind.f64.format.order bt_t112 t111 = some .eq) = true := (by first | (rw [HF_t112.out.order_l]; exact c3b1) | (rw [HF_t112.out.order_r]; exact c3b1)); have c3b2r : (FloatKind.f64.format.order bt_t112 t111 == some .eq) = true := (by first | (rw [HF_t112.out.order_l]; exact c3b2) | (rw [HF_t112.out.order_r]; exact c3b2)); refine ⟨_, rfl, ?_⟩) | (go_at_call 19; (with_reducible refine (ratio_Badness.calls t111 t113 _ A4.out).mono ?_); rintro e w' ⟨rfl, ⟨nd, rfl⟩⟩) | (go_at_call 18; (with_reducible refine (ratio_Of.calls 0 0 t114 _ A6.out).mono ?_); rintro e w' ⟨bt_t114, rfl, ⟨nd, rfl⟩, hfr_⟩; have HF_t114 := Aside0.mk hfr_; clear hfr_) | (go_at_call 19; (with_reducible refine (ratio_Badness.calls t114 t115 _ A7.out).mono ?_); rintro e w' ⟨rfl, ⟨nd, rfl⟩⟩) | (go_at_call 19; (with_reducible refine (ratio_Badness.calls 4602678819172646912 t116 _ A9.out).mono ?_); rintro e w' ⟨rfl, ⟨nd, rfl⟩⟩) | (go_at_call 19; (with_reducible refine (ratio_Badness.calls 13830554455654793216 t117 _ A11.out).mono ?_); rintro e w' ⟨rfl, ⟨nd, rfl⟩⟩) | (go_at_call 29; (with_reducible refine (ratio_Round.calls 4612811918334230528 t118 _ A13.out).mono ?_); rintro e w' ⟨rfl, ⟨nd, rfl⟩⟩) | (go_at_call 14; (with_reducible refine (math_Copysign.calls 0 13830554455654793216 t119 _ A15.out).mono ?_); rintro e w' ⟨rfl, ⟨nd, rfl⟩⟩) | (go_at_call 12; (with_reducible refine (ratio_Order.calls k t119 0 t120 _ A16.out).mono ?_); rintro e w' ⟨rfl, ⟨nd, rfl⟩⟩) | (go_at_call 22; (with_reducible refine (ratio_Blend.calls 4607182418800017408 t111 0 t121 _ A18.out).mono ?_); rintro e w' ⟨bt_t121, rfl, ⟨nd, rfl⟩, hfr_⟩; have HF_t121 := Aside0.mk hfr_; clear hfr_; have c19b0r : (FloatKind.f64.format.order bt_t121 4607182418800017408 == some .eq) = true := (by first | (rw [HF_t121.out.order_l]; exact c19b0) | (rw [HF_t121.out.order_r]; exact c19b0)); have c19b1r : decide (FloatKind.f64.format.order bt_t121 4607182418800017408 = some .eq) = true := (by first | (rw [HF_t121.out.order_l]; exact c19b1) | (rw [HF_t121.out.order_r]; exact c19b1)); have c19b2r : (FloatKind.f64.format.order bt_t121 4607182418800017408 == some .eq) = true := (by first | (rw [HF_t121.out.order_l]; exact c19b2) | (rw [HF_t121.out.order_r]; exact c19b2))) | (go_at_call 26; (refine (ratio_Mean.calls _ _ ([] : List Nat) t122 _ ?side1 ?side2 A20.out).mono ?_); (case side1 => exact Kd.C_nil _ _); (case side2 => exact Nat.le_refl _); rintro e w' ⟨bt_t122, rfl, ⟨nd, rfl⟩, hfr_⟩; have HF_t122 := Aside0.mk hfr_; clear hfr_) | (go_at_call 31; (with_reducible refine (math_IsNaN.calls t122 t123 _ A21.out).mono ?_); rintro e w' ⟨rfl, ⟨nd, rfl⟩⟩))
 go_ret
 exact ⟨by first | rfl | (simp; done) | (simp [*]; done), by repeat (first | exact Drawn0.refl _ | apply Drawn0.step)⟩
def math_NaN.f : Option Nat := some 9221120237041090561
set_option maxHeartbeats 8000000 in
set_option maxRecDepth 100000 in
theorem math_NaN.calls  (r : Nat) (w : World) (h : math_NaN.f  = some r) :
  Calls Try.prog 15 #[] w fun e w' => e = .returned (.float .f64 r) ∧ Drawn0 w w' := by
 have hu := Try.underlying22; have hu2 := Try.underlying12; have hB : ∀ (b : Int) (W : World), (callFunc 36 #[.int .u64 b]).run Try.prog W = .ok (.value (.float .f64 b.toNat)) W := fun b W => by rw [run_callFunc_extern (fn := Try.f36) (e := Extern.MathFloatBits.float64frombits) (by kernel_rfl) (by kernel_rfl) (by kernel_rfl) (by rfl) (by rfl)]; rfl
 obtain rfl := Option.some.inj h
 go_enter Try.func15, Try.ntmps15
 go_wp2
 go_ret
 exact ⟨rfl, Drawn0.refl _⟩
def stanzalaw12_edges.f  : Option (List Nat) := (math_NaN.f).bind fun t124 => ((math_Inf.f (-1)).bind fun t125 => ((math_Copysign.f 0 13830554455654793216).bind fun t126 => ((math_Inf.f 1).bind fun t127 => (some (([t124, t125, 18442240474082181119, 13970166044105375744, 13970166044103278592, 13970166044101181440, 13830554455654793216, 13826050856027422720, 9223372036854775809, t126, 0, 1, 4602678819172646912, 4607182418800017408, 4609434218613702656, 4612811918334230528, 4616911982862754295, 4616911982862754296, 4746794007242211328, 4746794007244308480, 4746794007248502784, 9218868437227405311, t127] : List Nat))))))
set_option maxHeartbeats 8000000 in
set_option maxRecDepth 100000 in
theorem stanzalaw12_edges.calls  (r : List Nat) (w : World) (h : stanzalaw12_edges.f  = some r) :
  Calls Try.prog 11 #[] w fun e w' => ∃ v0_ : Value, e = .returned (v0_) ∧ Kd.R Kd.f64 22 w' w.heap.size (fun _ => True) v0_ r ∧ Below w.heap.size w w' := by
 have HB := Aside0.mk (Below.refl w.heap.size w); have H : ((math_NaN.f).bind fun t124 => ((math_Inf.f (-1)).bind fun t125 => ((math_Copysign.f 0 13830554455654793216).bind fun t126 => ((math_Inf.f 1).bind fun t127 => (some (([t124, t125, 18442240474082181119, 13970166044105375744, 13970166044103278592, 13970166044101181440, 13830554455654793216, 13826050856027422720, 9223372036854775809, t126, 0, 1, 4602678819172646912, 4607182418800017408, 4609434218613702656, 4612811918334230528, 4616911982862754295, 4616911982862754296, 4746794007242211328, 4746794007244308480, 4746794007248502784, 9218868437227405311, t127] : List Nat))))))) = some r := h
 clear h; replace H := Option.bind_eq_some_iff.mp H; obtain ⟨t124, A10, H⟩ := H; replace H : ((math_Inf.f (-1)).bind fun t125 => ((math_Copysign.f 0 13830554455654793216).bind fun t126 => ((math_Inf.f 1).bind fun t127 => (some (([t124, t125, 18442240474082181119, 13970166044105375744, 13970166044103278592, 13970166044101181440, 13830554455654793216, 13826050856027422720, 9223372036854775809, t126, 0, 1, 4602678819172646912, 4607182418800017408, 4609434218613702656, 4612811918334230528, 4616911982862754295, 4616911982862754296, 4746794007242211328, 4746794007244308480, 4746794007248502784, 9218868437227405311, t127] : List Nat)))))) = some r := H
 have A1 := Aside0.mk A10; clear A10; replace H := Option.bind_eq_some_iff.mp H; obtain ⟨t125, A20, H⟩ := H; replace H : ((math_Copysign.f 0 13830554455654793216).bind fun t126 => ((math_Inf.f 1).bind fun t127 => (some (([t124, t125, 18442240474082181119, 13970166044105375744, 13970166044103278592, 13970166044101181440, 13830554455654793216, 13826050856027422720, 9223372036854775809, t126, 0, 1, 4602678819172646912, 4607182418800017408, 4609434218613702656, 4612811918334230528, 4616911982862754295, 4616911982862754296, 4746794007242211328, 4746794007244308480, 4746794007248502784, 9218868437227405311, t127] : List Nat))))) = some r := H
 have A2 := Aside0.mk A20; clear A20; replace H := Option.bind_eq_some_iff.mp H; obtain ⟨t126, A30, H⟩ := H; replace H : ((math_Inf.f 1).bind fun t127 => (some (([t124, t125, 18442240474082181119, 13970166044105375744, 13970166044103278592, 13970166044101181440, 13830554455654793216, 13826050856027422720, 9223372036854775809, t126, 0, 1, 4602678819172646912, 4607182418800017408, 4609434218613702656, 4612811918334230528, 4616911982862754295, 4616911982862754296, 4746794007242211328, 4746794007244308480, 4746794007248502784, 9218868437227405311, t127] : List Nat)))) = some r := H
 have A3 := Aside0.mk A30; clear A30; replace H := Option.bind_eq_some_iff.mp H; obtain ⟨t127, A40, H⟩ := H; replace H : (some (([t124, t125, 18442240474082181119, 13970166044105375744, 13970166044103278592, 13970166044101181440, 13830554455654793216, 13826050856027422720, 9223372036854775809, t126, 0, 1, 4602678819172646912, 4607182418800017408, 4609434218613702656, 4612811918334230528, 4616911982862754295, 4616911982862754296, 4746794007242211328, 4746794007244308480, 4746794007248502784, 9218868437227405311, t127] : List Nat))) = some r := H; have A4 := Aside0.mk A40; clear A40; obtain ⟨y128, hy128⟩ : ∃ y_ : List Nat, y_ = (([t124, t125, 18442240474082181119, 13970166044105375744, 13970166044103278592, 13970166044101181440, 13830554455654793216, 13826050856027422720, 9223372036854775809, t126, 0, 1, 4602678819172646912, 4607182418800017408, 4609434218613702656, 4612811918334230528, 4616911982862754295, 4616911982862754296, 4746794007242211328, 4746794007244308480, 4746794007248502784, 9218868437227405311, t127] : List Nat)) := ⟨_, rfl⟩; replace H : (some y128) = some r := by first | (rw [hy128]; with_reducible exact H) | (have H2_ := (Option.bind_some _ _).symm.trans H; rw [hy128]; with_reducible exact H2_) | (have H2_ := (Option.bind_some _ _).symm.trans H; with_reducible exact H2_) | with_reducible exact H | (rw [hy128]; exact H) | exact H
 have Ny128 := Aside0.mk hy128; clear hy128; obtain rfl := Option.some.inj H
 go_enter Try.func11, Try.ntmps11
 go_wp2_with (first | ((with_reducible refine gate_callee (f := 15) rfl ?_); refine goesL_ (some 1) rfl rfl Try.func15 (by kernel_rfl) rfl #[] rfl aT ?_; (with_reducible refine (math_NaN.calls  t124 _ A1.out).mono ?_); rintro e w' ⟨rfl, ⟨nd, rfl⟩⟩; refine ⟨_, rfl, ?_⟩) | ((with_reducible refine gate_callee (f := 16) rfl ?_); refine goesL_ (some 2) rfl rfl Try.func16 (by kernel_rfl) rfl #[.int .i64 (-1)] rfl aT ?_; (with_reducible refine (math_Inf.calls (-1) t125 _ A2.out).mono ?_); rintro e w' ⟨rfl, ⟨nd, rfl⟩⟩; refine ⟨_, rfl, ?_⟩) | ((with_reducible refine gate_callee (f := 14) rfl ?_); refine goesL_ (some 3) rfl rfl Try.func14 (by kernel_rfl) rfl #[.float .f64 0, .float .f64 13830554455654793216] rfl aT ?_; (with_reducible refine (math_Copysign.calls 0 13830554455654793216 t126 _ A3.out).mono ?_); rintro e w' ⟨rfl, ⟨nd, rfl⟩⟩; refine ⟨_, rfl, ?_⟩) | ((with_reducible refine gate_callee (f := 16) rfl ?_); refine goesL_ (some 4) rfl rfl Try.func16 (by kernel_rfl) rfl #[.int .i64 1] rfl aT ?_; (with_reducible refine (math_Inf.calls 1 t127 _ A4.out).mono ?_); rintro e w' ⟨rfl, ⟨nd, rfl⟩⟩; refine ⟨_, rfl, ?_⟩) | ((with_reducible refine gate_dst (N := 5) rfl ?_); refine Kd.R_lit Kd.f64 _ 22 ?hg (N := 5) ?hd (xs := ([t124, t125, 18442240474082181119, 13970166044105375744, 13970166044103278592, 13970166044101181440, 13830554455654793216, 13826050856027422720, 9223372036854775809, t126, 0, 1, 4602678819172646912, 4607182418800017408, 4609434218613702656, 4612811918334230528, 4616911982862754295, 4616911982862754296, 4746794007242211328, 4746794007244308480, 4746794007248502784, 9218868437227405311, t127] : List Nat)) (inner := [.float .f64 t124, .float .f64 t125, .float .f64 18442240474082181119, .float .f64 13970166044105375744, .float .f64 13970166044103278592, .float .f64 13970166044101181440, .float .f64 13830554455654793216, .float .f64 13826050856027422720, .float .f64 9223372036854775809, .float .f64 t126, .float .f64 0, .float .f64 1, .float .f64 4602678819172646912, .float .f64 4607182418800017408, .float .f64 4609434218613702656, .float .f64 4612811918334230528, .float .f64 4616911982862754295, .float .f64 4616911982862754296, .float .f64 4746794007242211328, .float .f64 4746794007244308480, .float .f64 4746794007248502784, .float .f64 9218868437227405311, .float .f64 t127]) (ok := fun _ => True) (okp := fun _ => True) ?hr ?hp (fun _ hk => hk) trivial (Below.refl _ _) (Nat.le_refl _) (by simp) ?_; (case hd => rfl); (case hg => rfl); (case hr => first | (go_simp; done) | (go_simp; rfl)); (case hp => exact (Reps.one (show Kd.M Kd.f64 _ _ _ t124 [.float .f64 t124] from rfl) (Reps.one (show Kd.M Kd.f64 _ _ _ t125 [.float .f64 t125] from rfl) (Reps.one (show Kd.M Kd.f64 _ _ _ 18442240474082181119 [.float .f64 18442240474082181119] from rfl) (Reps.one (show Kd.M Kd.f64 _ _ _ 13970166044105375744 [.float .f64 13970166044105375744] from rfl) (Reps.one (show Kd.M Kd.f64 _ _ _ 13970166044103278592 [.float .f64 13970166044103278592] from rfl) (Reps.one (show Kd.M Kd.f64 _ _ _ 13970166044101181440 [.float .f64 13970166044101181440] from rfl) (Reps.one (show Kd.M Kd.f64 _ _ _ 13830554455654793216 [.float .f64 13830554455654793216] from rfl) (Reps.one (show Kd.M Kd.f64 _ _ _ 13826050856027422720 [.float .f64 13826050856027422720] from rfl) (Reps.one (show Kd.M Kd.f64 _ _ _ 9223372036854775809 [.float .f64 9223372036854775809] from rfl) (Reps.one (show Kd.M Kd.f64 _ _ _ t126 [.float .f64 t126] from rfl) (Reps.one (show Kd.M Kd.f64 _ _ _ 0 [.float .f64 0] from rfl) (Reps.one (show Kd.M Kd.f64 _ _ _ 1 [.float .f64 1] from rfl) (Reps.one (show Kd.M Kd.f64 _ _ _ 4602678819172646912 [.float .f64 4602678819172646912] from rfl) (Reps.one (show Kd.M Kd.f64 _ _ _ 4607182418800017408 [.float .f64 4607182418800017408] from rfl) (Reps.one (show Kd.M Kd.f64 _ _ _ 4609434218613702656 [.float .f64 4609434218613702656] from rfl) (Reps.one (show Kd.M Kd.f64 _ _ _ 4612811918334230528 [.float .f64 4612811918334230528] from rfl) (Reps.one (show Kd.M Kd.f64 _ _ _ 4616911982862754295 [.float .f64 4616911982862754295] from rfl) (Reps.one (show Kd.M Kd.f64 _ _ _ 4616911982862754296 [.float .f64 4616911982862754296] from rfl) (Reps.one (show Kd.M Kd.f64 _ _ _ 4746794007242211328 [.float .f64 4746794007242211328] from rfl) (Reps.one (show Kd.M Kd.f64 _ _ _ 4746794007244308480 [.float .f64 4746794007244308480] from rfl) (Reps.one (show Kd.M Kd.f64 _ _ _ 4746794007248502784 [.float .f64 4746794007248502784] from rfl) (Reps.one (show Kd.M Kd.f64 _ _ _ 9218868437227405311 [.float .f64 9218868437227405311] from rfl) (Reps.one (show Kd.M Kd.f64 _ _ _ t127 [.float .f64 t127] from rfl) (Reps.none _ _))))))))))))))))))))))))); intro v129 w5 ho6 hb hg_ hnew_; clear hg_ hnew_; (first | rw [← Ny128.out] at ho6 | (simp only [Int.reduceToNat] at ho6; rw [← Ny128.out] at ho6)); have HO130 := Aside0.mk (Kd.zL ho6 (below_size (aL HB))); replace HB := Aside0.mk (below_step (aL HB) hb); clear hb ho6))
 go_ret
 exact ⟨_, aX, aR HO130, aL HB⟩
def r2_None.f (a0 : Nat) : Option (Bool) := some (FloatKind.f64.format.order a0 a0 != some .eq)
set_option maxHeartbeats 8000000 in
set_option maxRecDepth 100000 in
theorem r2_None.calls (a0 : Nat) (r : Bool) (w : World) (h : r2_None.f a0 = some r) :
  Calls Try.prog 34 #[.float .f64 a0] w fun e w' => e = .returned (.bool r) ∧ Drawn0 w w' := by
 have H : (some (FloatKind.f64.format.order a0 a0 != some .eq)) = some r := h
 clear h; obtain rfl := Option.some.inj H
 go_enter Try.func34, Try.ntmps34
 go_wp2
 go_ret
 exact ⟨by first | rfl | (simp; done) | (simp [*]; done), by repeat (first | exact Drawn0.refl _ | apply Drawn0.step)⟩
def flo (x : Nat) : Nat := FloatKind.f64.encode ((FloatKind.f64.decode x).integral .down)
theorem flo_run (x : Nat) (hx' : isNan x = false) : Extern.MathFloor.toIntegral "math.archFloor" .down #[.float .f64 x] = pure (.float .f64 (flo x)) := by
 unfold flo
 have e : ∃ n, Extern.MathFloor.toIntegral "math.archFloor" .down #[.float .f64 x] = Extern.MathFloor.toIntegral.match_1 (fun _ => Sem Value) (FloatKind.f64.decode x) n (fun d => pure (.float .f64 (FloatKind.f64.encode (d.integral .down)))) := ⟨_, rfl⟩
 obtain ⟨n, e⟩ := e; rw [e]; unfold isNan at hx'
 cases hd : FloatKind.f64.decode x with
 | nan s f => rw [hd] at hx'; cases hx'
 | number a b c => rfl
 | infinity s => rfl
def math_Floor.f (a0 : Nat) : Option Nat := if isNan a0 = true then none else some (flo a0)
set_option maxHeartbeats 8000000 in
set_option maxRecDepth 100000 in
theorem math_Floor.calls (a0 : Nat) (r : Nat) (w : World) (h : math_Floor.f a0 = some r) :
  Calls Try.prog 40 #[.float .f64 a0] w fun e w' => e = .returned (.float .f64 r) ∧ Drawn0 w w' := by
 have hu := Try.underlying22; unfold math_Floor.f at h
 by_cases hx : isNan a0 = true
 ·rw [if_pos hx] at h; cases h
 rw [if_neg hx] at h; have hx' : isNan a0 = false := by simpa using hx
 obtain rfl := Option.some.inj h
 have hC : ∀ W : World, (callFunc 41 #[.float .f64 a0]).run Try.prog W = .ok (.value (.float .f64 (flo a0))) W := fun W => by
  rw [run_callFunc_extern (fn := Try.f41) (e := Extern.MathFloor.toIntegral "math.archFloor" .down) (by kernel_rfl) (by kernel_rfl) (by kernel_rfl) (by rfl) (by rfl)]
  rw [flo_run a0 hx']; rfl
 clear h hx hx'; go_enter Try.func40, Try.ntmps40
 go_wp2
 go_ret
 exact ⟨rfl, by repeat (first | exact Drawn0.refl _ | apply Drawn0.step)⟩
def r2_Round.f (a0 : Nat) : Option Int := if isNan a0 = true then some 0 else if (FloatKind.f64.format.order a0 4746794007244308480 == some .gt || FloatKind.f64.format.order a0 4746794007244308480 == some .eq) = true then some 2147483647 else if (FloatKind.f64.format.order a0 13970166044103278592 == some .lt || FloatKind.f64.format.order a0 13970166044103278592 == some .eq) = true then some (-2147483648) else (floatToIntVal .f64 (flo a0) .i64).bind fun n => if FloatKind.f64.format.order (fop .sub a0 (floatOfInt .f64 n)) 4602678819172646912 = some .gt then some (wrap64 (n + 1)) else if FloatKind.f64.format.order (fop .sub a0 (floatOfInt .f64 n)) 4602678819172646912 = some .eq then (if Int.tmod n 2 = 0 then some n else some (wrap64 (n + 1))) else some n
theorem none_nan9 (b : Nat) : r2_None.f b = some (isNan b) := by
 unfold r2_None.f
 cases h : isNan b with
 | true => rw [order_nan_l h]; rfl
 | false => rw [order_self h]; rfl
set_option maxHeartbeats 8000000 in
set_option maxRecDepth 100000 in
theorem r2_Round.calls (a0 : Nat) (r : Int) (w : World) (h : r2_Round.f a0 = some r) :
  Calls Try.prog 30 #[.float .f64 a0] w fun e w' => e = .returned (.int .i64 r) ∧ Drawn0 w w' := by
 have hu := Try.underlying22; have hu3 := Try.underlying3; unfold r2_Round.f at h
 have HN := Aside0.mk (none_nan9 a0); by_cases hx : isNan a0 = true
 ·rw [if_pos hx] at h
  rw [hx] at HN; obtain rfl := Option.some.inj h
  go_enter Try.func30, Try.ntmps30
  go_wp2_with (first | (go_at_call 34; (with_reducible refine (r2_None.calls a0 _ _ HN.out).mono ?_); rintro e w' ⟨rfl, ⟨nd, rfl⟩⟩))
  go_ret
  exact ⟨rfl, by repeat (first | exact Drawn0.refl _ | apply Drawn0.step)⟩
 rw [if_neg hx] at h; have hx' : isNan a0 = false := by simpa using hx
 rw [hx'] at HN; clear hx; cases ho1 : FloatKind.f64.format.order a0 4746794007244308480 with
 | none =>
  exfalso
  have h1 : isNan a0 = true := by
   unfold Ieee.Format.order Ieee.Datum.order at ho1
   unfold isNan FloatKind.decode Ieee.Datum.isNaN
   rw [show Ieee.Format.read FloatKind.f64.format 4746794007244308480 = .number false 9007199250546688 (-22) from by decide] at ho1
   revert ho1
   cases Ieee.Format.read FloatKind.f64.format a0 <;> intro ho1 <;> first | rfl | cases ho1
  rw [hx'] at h1; cases h1
 | some o1 =>
  rw [ho1] at h; by_cases hc1 : (some o1 == some Ordering.gt || some o1 == some Ordering.eq) = true
  ·rw [if_pos hc1] at h
   obtain rfl := Option.some.inj h
   cases o1 <;> first | (exfalso; revert hc1; decide) | skip
   all_goals
    clear hc1; go_enter Try.func30, Try.ntmps30
    go_wp2_with (first | (go_at_call 34; (with_reducible refine (r2_None.calls a0 _ _ HN.out).mono ?_); rintro e w' ⟨rfl, ⟨nd, rfl⟩⟩))
    go_ret
    exact ⟨rfl, by repeat (first | exact Drawn0.refl _ | apply Drawn0.step)⟩
  rw [if_neg hc1] at h; have ho1' : o1 = .lt := by cases o1 <;> first | rfl | (exfalso; exact hc1 (by decide))
  subst ho1'; clear hc1; cases ho2 : FloatKind.f64.format.order a0 13970166044103278592 with
  | none =>
   exfalso
   have h1 : isNan a0 = true := by
    unfold Ieee.Format.order Ieee.Datum.order at ho2
    unfold isNan FloatKind.decode Ieee.Datum.isNaN
    rw [show Ieee.Format.read FloatKind.f64.format 13970166044103278592 = .number true 4503599627370496 (-21) from by decide] at ho2
    revert ho2
    cases Ieee.Format.read FloatKind.f64.format a0 <;> intro ho2 <;> first | rfl | cases ho2
   rw [hx'] at h1; cases h1
  | some o2 =>
   rw [ho2] at h; by_cases hc2 : (some o2 == some Ordering.lt || some o2 == some Ordering.eq) = true
   ·rw [if_pos hc2] at h
    obtain rfl := Option.some.inj h
    cases o2 <;> first | (exfalso; revert hc2; decide) | skip
    all_goals
     clear hc2; go_enter Try.func30, Try.ntmps30
     go_wp2_with (first | (go_at_call 34; (with_reducible refine (r2_None.calls a0 _ _ HN.out).mono ?_); rintro e w' ⟨rfl, ⟨nd, rfl⟩⟩))
     go_ret
     exact ⟨rfl, by repeat (first | exact Drawn0.refl _ | apply Drawn0.step)⟩
   rw [if_neg hc2] at h; have ho2' : o2 = .gt := by cases o2 <;> first | rfl | (exfalso; exact hc2 (by decide))
   subst ho2'; clear hc2; obtain ⟨n, hn, h⟩ := Option.bind_eq_some_iff.mp h; have hk := fun W => run_convert_float_int (P := Try.prog) W 22 3 .f64 .i64 (flo a0) n (by kernel_rfl) hu3 hn
   have HF : Aside0 (math_Floor.f a0 = some (flo a0)) := ⟨by unfold math_Floor.f; rw [if_neg (by rw [hx']; decide)]⟩
   obtain ⟨p, hp⟩ := Classical.axiomOfChoice (fun W : World => run_rough (P := Try.prog) W .sub (by simp) 22 a0 (floatOfInt .f64 n))
   obtain ⟨m, hm⟩ := Classical.axiomOfChoice hp; clear hp; have hr : ∀ W : World, (binOp .sub 22 (.float .f64 a0) (.float .f64 (floatOfInt .f64 n))).run Try.prog W = .ok (.float .f64 (p W)) (W.drewN (m W)) := fun W => (hm W).1
   have hf : ∀ W : World, FloatKind.f64.format.order (p W) 4602678819172646912 = FloatKind.f64.format.order (fop .sub a0 (floatOfInt .f64 n)) 4602678819172646912 := fun W => (fr_fop (hm W).2).order_l _
   clear hm; generalize FloatKind.f64.format.order (fop .sub a0 (floatOfInt .f64 n)) 4602678819172646912 = o at h hf
   have hz : ∀ x : Int, Int.tmod x 2 = 0 ∨ ¬ Int.tmod x 2 = 0 := fun _ => Classical.em _
   rcases hz n with hz | hz
   ·have hzd : decide (Int.tmod n 2 = 0) = true := decide_eq_true hz
    have hzb : (Int.tmod n 2 == 0) = true := beq_iff_eq.mpr hz
    have hzc : (Int.tmod n 2 != 0) = false := bne_eq_false_iff_eq.mpr hz
    rw [if_pos hz] at h; clear hn hx' hz; rcases o with _ | o
    ·obtain rfl := Option.some.inj h
     clear h; go_enter Try.func30, Try.ntmps30
     go_wp2_with (first | (go_at_call 34; (with_reducible refine (r2_None.calls a0 _ _ HN.out).mono ?_); rintro e w' ⟨rfl, ⟨nd, rfl⟩⟩) | (go_at_call 40; (with_reducible refine (math_Floor.calls a0 _ _ HF.out).mono ?_); rintro e w' ⟨rfl, ⟨nd, rfl⟩⟩))
     go_ret
     exact ⟨rfl, by repeat (first | exact Drawn0.refl _ | apply Drawn0.step)⟩
    cases o with
    | lt =>
     obtain rfl := Option.some.inj h
     clear h; go_enter Try.func30, Try.ntmps30
     go_wp2_with (first | (go_at_call 34; (with_reducible refine (r2_None.calls a0 _ _ HN.out).mono ?_); rintro e w' ⟨rfl, ⟨nd, rfl⟩⟩) | (go_at_call 40; (with_reducible refine (math_Floor.calls a0 _ _ HF.out).mono ?_); rintro e w' ⟨rfl, ⟨nd, rfl⟩⟩))
     go_ret
     exact ⟨rfl, by repeat (first | exact Drawn0.refl _ | apply Drawn0.step)⟩
    | eq =>
     obtain rfl := Option.some.inj h
     clear h; go_enter Try.func30, Try.ntmps30
     go_wp2_with (first | (go_at_call 34; (with_reducible refine (r2_None.calls a0 _ _ HN.out).mono ?_); rintro e w' ⟨rfl, ⟨nd, rfl⟩⟩) | (go_at_call 40; (with_reducible refine (math_Floor.calls a0 _ _ HF.out).mono ?_); rintro e w' ⟨rfl, ⟨nd, rfl⟩⟩))
     go_ret
     exact ⟨rfl, by repeat (first | exact Drawn0.refl _ | apply Drawn0.step)⟩
    | gt =>
     obtain rfl := Option.some.inj h
     clear h; go_enter Try.func30, Try.ntmps30
     go_wp2_with (first | (go_at_call 34; (with_reducible refine (r2_None.calls a0 _ _ HN.out).mono ?_); rintro e w' ⟨rfl, ⟨nd, rfl⟩⟩) | (go_at_call 40; (with_reducible refine (math_Floor.calls a0 _ _ HF.out).mono ?_); rintro e w' ⟨rfl, ⟨nd, rfl⟩⟩))
     go_ret
     exact ⟨rfl, by repeat (first | exact Drawn0.refl _ | apply Drawn0.step)⟩
   have hzd : decide (Int.tmod n 2 = 0) = false := decide_eq_false hz
   have hzb : (Int.tmod n 2 == 0) = false := beq_eq_false_iff_ne.mpr hz
   have hzc : (Int.tmod n 2 != 0) = true := bne_iff_ne.mpr hz
   rw [if_neg hz] at h; clear hn hx' hz; rcases o with _ | o
   ·obtain rfl := Option.some.inj h
    clear h; go_enter Try.func30, Try.ntmps30
    go_wp2_with (first | (go_at_call 34; (with_reducible refine (r2_None.calls a0 _ _ HN.out).mono ?_); rintro e w' ⟨rfl, ⟨nd, rfl⟩⟩) | (go_at_call 40; (with_reducible refine (math_Floor.calls a0 _ _ HF.out).mono ?_); rintro e w' ⟨rfl, ⟨nd, rfl⟩⟩))
    go_ret
    exact ⟨rfl, by repeat (first | exact Drawn0.refl _ | apply Drawn0.step)⟩
   cases o with
   | lt =>
    obtain rfl := Option.some.inj h
    clear h; go_enter Try.func30, Try.ntmps30
    go_wp2_with (first | (go_at_call 34; (with_reducible refine (r2_None.calls a0 _ _ HN.out).mono ?_); rintro e w' ⟨rfl, ⟨nd, rfl⟩⟩) | (go_at_call 40; (with_reducible refine (math_Floor.calls a0 _ _ HF.out).mono ?_); rintro e w' ⟨rfl, ⟨nd, rfl⟩⟩))
    go_ret
    exact ⟨rfl, by repeat (first | exact Drawn0.refl _ | apply Drawn0.step)⟩
   | eq =>
    obtain rfl := Option.some.inj h
    clear h; go_enter Try.func30, Try.ntmps30
    go_wp2_with (first | (go_at_call 34; (with_reducible refine (r2_None.calls a0 _ _ HN.out).mono ?_); rintro e w' ⟨rfl, ⟨nd, rfl⟩⟩) | (go_at_call 40; (with_reducible refine (math_Floor.calls a0 _ _ HF.out).mono ?_); rintro e w' ⟨rfl, ⟨nd, rfl⟩⟩))
    go_ret
    exact ⟨rfl, by repeat (first | exact Drawn0.refl _ | apply Drawn0.step)⟩
   | gt =>
    obtain rfl := Option.some.inj h
    clear h; go_enter Try.func30, Try.ntmps30
    go_wp2_with (first | (go_at_call 34; (with_reducible refine (r2_None.calls a0 _ _ HN.out).mono ?_); rintro e w' ⟨rfl, ⟨nd, rfl⟩⟩) | (go_at_call 40; (with_reducible refine (math_Floor.calls a0 _ _ HF.out).mono ?_); rintro e w' ⟨rfl, ⟨nd, rfl⟩⟩))
    go_ret
    exact ⟨rfl, by repeat (first | exact Drawn0.refl _ | apply Drawn0.step)⟩
def EDGZ : List Nat := [9221120237041090561, 18442240474082181120, 18442240474082181119, 13970166044105375744, 13970166044103278592, 13970166044101181440, 13830554455654793216, 13826050856027422720, 9223372036854775809, 9223372036854775808, 0, 1, 4602678819172646912, 4607182418800017408, 4609434218613702656, 4612811918334230528, 4616911982862754295, 4616911982862754296, 4746794007242211328, 4746794007244308480, 4746794007248502784, 9218868437227405311, 9218868437227405312]
theorem edges_z : stanzalaw12_edges.f = some EDGZ := by decide +kernel
def RR (x : Nat) : Prop := ∃ n, ratio_Round.f x = some n ∧ r2_Round.f x = some n
def RAll (a0 : Nat) (a1 : Int) : Prop := (∀ x ∈ EDGZ, RR x) ∧ RR a0 ∧ RR (floatOfInt .f64 a1) ∧ wrap64 a1 = a1 ∧ ratio_Round.f (floatOfInt .f64 a1) = some a1 ∧ ∃ tB tC, floatBits .add .f64 (floatOfInt .f64 a1) 4602678819172646912 = some tB ∧ floatBits .sub .f64 (floatOfInt .f64 a1) 4598175219545276416 = some tC ∧ RR tB ∧ RR tC
open Classical in
noncomputable def stanzalaw12_RatioRounds.f (k : Nat) (a0 : Nat) (a1 : Int) : Option Bool := (stanzalaw12_Awake.f k).bind fun t => if t = true then (if RAll a0 a1 then some true else some false) else some false
theorem stanzalaw12_RatioRounds.mono : ∀ a0 a1 k, LeO (stanzalaw12_RatioRounds.f k a0 a1) (stanzalaw12_RatioRounds.f (k + 1) a0 a1) := by
 intro a0 a1 k
 unfold stanzalaw12_RatioRounds.f
 exact LeO.bind (stanzalaw12_Awake.mono _) (fun _ => LeO.refl _)
set_option maxHeartbeats 8000000 in
set_option maxRecDepth 100000 in
theorem stanzalaw12_RatioRounds.calls (k : Nat) (a0 : Nat) (a1 : Int) (r : Bool) (w : World) (h : stanzalaw12_RatioRounds.f k a0 a1 = some r) (hrt_ : Aside0 (r = true)) :
  Calls Try.prog 9 #[.float .f64 a0, .int .i32 a1] w fun e w' => e = .returned (.bool r) ∧ Below w.heap.size w w' := by
 have HB := Aside0.mk (Below.refl w.heap.size w); have hu3 : (Try.prog.underlying 3).isSome = true := by kernel_rfl
 have hu24 := Try.underlying22; unfold stanzalaw12_RatioRounds.f at h
 obtain ⟨t175, A40, H⟩ := Option.bind_eq_some_iff.mp h; clear h; have A4 := Aside0.mk A40; clear A40; cases t175 with
 | false => exact absurd ((Option.some.inj (show some false = some r from H)).trans hrt_.out) (by decide)
 | true =>
  rw [if_pos rfl] at H; have hall : RAll a0 a1 := by
   by_cases hc : RAll a0 a1
   ·exact hc
   ·rw [if_neg hc] at H
    exact absurd ((Option.some.inj H).trans hrt_.out) (by decide)
  obtain rfl : r = true := hrt_.out
  clear H; obtain ⟨RE, Ra, RA, HW9, A9, tB, tC, hB, hC, RB, RC⟩ := hall; obtain ⟨tA, htA⟩ : ∃ t_, t_ = floatOfInt .f64 a1 := ⟨_, rfl⟩; rw [← htA] at RA A9 hB hC; have hcv : ∀ W : World, (convert 21 22 (.int .i32 a1)).run Try.prog W = .ok (.float .f64 tA) W := fun W => by rw [htA]; exact run_convert_int_float W 21 22 .i32 .f64 a1 (by kernel_rfl) hu24
  have hadd := fun W => run_float_arith (P := Try.prog) W .add 22 .f64 tA 4602678819172646912 tB hB
  have hsub := fun W => run_float_arith (P := Try.prog) W .sub 22 .f64 tA 4598175219545276416 tC hC
  clear htA hB hC; have RE := Aside0.mk RE; have Ra := Aside0.mk Ra; have RA := Aside0.mk RA; have RB := Aside0.mk RB; have RC := Aside0.mk RC; have A9 := Aside0.mk A9; have HW9 := Aside0.mk HW9; obtain ⟨t177, h177⟩ : ∃ t_, t_ = EDGZ := ⟨_, rfl⟩; have A7 : Aside0 (stanzalaw12_edges.f = some t177) := ⟨by rw [h177]; exact edges_z⟩
  have HL177 : Aside0 (t177.length = 23) := ⟨by rw [h177]; rfl⟩
  have HE177 := Aside0.mk h177; clear h177; go_enter Try.func9, Try.ntmps9
  go_wp2_with (first | ((with_reducible refine gate_callee (f := 10) rfl ?_); refine goesL_ (some 7) rfl rfl Try.func10 (by kernel_rfl) rfl #[] rfl aT ?_; (with_reducible refine (stanzalaw12_Awake.calls k  true _ A4.out (by first | exact ⟨rfl⟩ | exact hrt_)).mono ?_); rintro e w' ⟨rfl, ⟨nd, rfl⟩⟩; refine ⟨_, rfl, ?_⟩) | ((with_reducible refine gate_callee (f := 11) rfl ?_); refine goesL_ (some 9) rfl rfl Try.func11 (by kernel_rfl) rfl #[] rfl aT ?_; (with_reducible refine (stanzalaw12_edges.calls  t177 _ A7.out).mono ?_); rintro e w9 ⟨v178, rfl, ho0, hb⟩; refine ⟨_, rfl, ?_⟩; have n0_ := Aside0.mk (Kd.zL ho0 (below_size (aL HB))); have n1_ := Aside0.mk (below_step (aL HB) hb); clear HB; have HO179 := n0_; have HB := n1_; clear n0_ n1_; (try clear hb); (try clear hb2); (try clear hk); (try clear hi); (try clear ho0)) | ((with_reducible refine gate_dst (N := 19) rfl ?_); refine Kd.R_lit Kd.f64 _ 22 ?hg (N := 19) ?hd (xs := ([a0, tA, tB, tC] : List Nat)) (inner := [.float .f64 a0, .float .f64 tA, .float .f64 tB, .float .f64 tC]) (ok := fun _ => True) (okp := fun _ => True) ?hr ?hp (fun _ hk => hk) trivial (Below.refl _ _) (Nat.le_refl _) (by simp) ?_; (case hd => rfl); (case hg => rfl); (case hr => first | (go_simp; done) | (go_simp; rfl)); (case hp => exact (Reps.one (show Kd.M Kd.f64 _ _ _ a0 [.float .f64 a0] from rfl) (Reps.one (show Kd.M Kd.f64 _ _ _ tA [.float .f64 tA] from rfl) (Reps.one (show Kd.M Kd.f64 _ _ _ tB [.float .f64 tB] from rfl) (Reps.one (show Kd.M Kd.f64 _ _ _ tC [.float .f64 tC] from rfl) (Reps.none _ _)))))); intro v181 w10 ho11 hb hg_ hnew_; clear hg_ hnew_; obtain ⟨y180, hy180⟩ : ∃ y_ : List Nat, y_ = ([a0, tA, tB, tC] : List Nat) := ⟨_, rfl⟩; rw [← hy180] at ho11; have Ny180 := Aside0.mk hy180; clear hy180; have n0_ := Aside0.mk (Kd.R_elder' (aR HO179) (Kd.R_base ho11) hb); have n1_ := Aside0.mk (Kd.zL (Kd.R_new' ho11 (Kd.R_lt (aR HO179))) (below_size (aL HB))); have n2_ := Aside0.mk (below_step (aL HB) hb); clear HO179; clear HB; have HO179 := n0_; have HO182 := n1_; have HB := n2_; clear n0_ n1_ n2_; clear hb ho11; obtain ⟨Ao13, co13, eo13⟩ := Kd.zK HO182.out; subst eo13) | ((with_reducible refine gate_builtin (b := .append) (xs := #[.tmp 9, .tmp 19]) rfl ?_); at_builtin; refine Kd.R_append_rows Kd.f64 (w0 := w) w.heap.size rfl (.tmp 9) (.tmp 19) 24 22 (.float .f64 0) 8 rfl Try.underlying24 info22 rfl (by decide) (by omega) v178 t177 y180 _ _ _ (fun k_ => some k_ ≠ (.slice Ao13 y180.length co13 : Value).ownBlock) (fun _ => False) rfl rfl ?aO ?aR (fun _ _ h => h) (fun _ h => h.elim) ?aF ?aB ?aS ?aL ?_; (case aR => exact aF HO182); (case aB => exact (aL HB)); (case aF => exact (fun k_ hk => Kd.fresh' (Kd.R_lt (aR HO182)) k_ hk)); (case aO => exact (by (with_reducible repeat (first | apply Kd.zA | apply Kd.zB | apply Kd.zC)); exact Kd.zM HO179.out (fun _ hk => hk.2))); (case aS => exact (below_size (aL HB))); (case aL => have h1_ := HL177.out; have h2_ : y180.length = 4 := (by rw [Ny180.out]; rfl); omega); intro v184 w12 ho hb hg hat; obtain ⟨y183, hy183⟩ : ∃ y_ : List Nat, y_ = (t177 ++ y180 : List Nat) := ⟨_, rfl⟩; rw [← hy183] at ho; have Ny183 := Aside0.mk hy183; clear hy183; have n0_ := Aside0.mk (Kd.R_after (ok := (fun _ => True)) (aR HO182) hg hat); have n1_ := Aside0.mk (hb); have n2_ := Aside0.mk (ho); clear HO182; clear HB; clear HO179; have HO182 := n0_; have HB := n1_; have HO185 := n2_; clear n0_ n1_ n2_; clear ho hb hg hat; obtain ⟨Ao14, co14, eo14⟩ := Kd.zK HO185.out; subst eo14))
  have HLy : Aside0 (y183.length = 27) := ⟨by have h1_ := HL177.out; have h2_ : y180.length = 4 := (by rw [Ny180.out]; rfl); rw [Ny183.out, List.length_append]; omega⟩
  have HRR : Aside0 (∀ i : Nat, i < y183.length → RR (rdOf (0 : Nat) y183 (i : Int))) := ⟨by
   intro i hi
   show RR (y183.getD i 0)
   rw [List.getD_eq_getElem?_getD, List.getElem?_eq_getElem hi]; have hm := List.getElem_mem hi; rw [Option.getD_some]; generalize y183[i] = z at hm ⊢
   rw [Ny183.out, Ny180.out] at hm; rcases List.mem_append.1 hm with hz | hz
   ·exact RE.out z (by rw [← HE177.out]; exact hz)
   ·simp only [List.mem_cons, List.not_mem_nil, or_false] at hz
    rcases hz with rfl | rfl | rfl | rfl
    ·exact Ra.out
    ·exact RA.out
    ·exact RB.out
    ·exact RC.out⟩
  go_loopg [22] y183.length (fun kq v22 w' => ∃ (i : Nat), v22 = .int .i64 (i : Int) ∧ Aside0 (i + kq = y183.length) ∧ Aside0 (Kd.R Kd.f64 22 w' w.heap.size (fun _ => True) (.slice Ao14 y183.length co14) y183) ∧ Aside0 (Below w.heap.size w w'))
  case atStart => exact ⟨0, rfl, ⟨by omega⟩, ⟨by (with_reducible repeat (first | apply Kd.zA | apply Kd.zB | apply Kd.zC)); exact Kd.zM HO185.out (fun _ hk => trivial)⟩, ⟨aL HB⟩⟩
  obtain ⟨i, rfl, HI, HO_19, HB⟩ := hrel; cases gk with
  | zero =>
   have e : i = y183.length := by have := HI.out; omega
   have c0_ : decide ((i : Int) < (y183.length : Int)) = false := decide_eq_false (by omega)
   have c1_ : decide (i < y183.length) = false := decide_eq_false (by omega)
   clear e; have hw9 := HW9.out; go_wp2_with (first | ((with_reducible refine gate_callee (f := 29) rfl ?_); refine goesL_ (some 34) rfl rfl Try.func29 (by kernel_rfl) rfl #[.float .f64 tA] rfl aT ?_; (with_reducible refine (ratio_Round.calls tA a1 _ A9.out).mono ?_); rintro e w' ⟨rfl, ⟨nd, rfl⟩⟩; refine ⟨_, rfl, ?_⟩))
   go_ret
   exact ⟨aX, aL HB⟩
  | succ k1 =>
   have hi : i < y183.length := by have := HI.out; omega
   have c0_ : decide ((i : Int) < (y183.length : Int)) = true := decide_eq_true (by omega)
   have c1_ : decide (i < y183.length) = true := decide_eq_true hi
   obtain ⟨ad186, e186, hx186_0⟩ := Kd.at_f64 (Kd.zH HO_19.out).2.2 (i : Int) (by omega) (by omega)
   cases e186
   rw [Int.toNat_natCast] at hx186_0; have p186 : (0 ≤ (i : Int)) = True := eq_true (by omega)
   have q186 : ((i : Int) < (y183.length : Int)) = True := eq_true (by omega)
   have q187 : (i < y183.length) = True := eq_true hi
   obtain ⟨nr, hr1, hr2⟩ := HRR.out i hi; have hr1 := Aside0.mk hr1; have hr2 := Aside0.mk hr2; have hne : (nr != nr) = false := by simp
   have hne2 : (nr == nr) = true := by simp
   go_wp2_with (first | ((with_reducible refine gate_callee (f := 29) rfl ?_); refine goesL_ (some 27) rfl rfl Try.func29 (by kernel_rfl) rfl #[.float .f64 (rdOf (0 : Nat) y183 (i : Int))] rfl aT ?_; (with_reducible refine (ratio_Round.calls (rdOf (0 : Nat) y183 (i : Int)) nr _ hr1.out).mono ?_); rintro e w' ⟨rfl, ⟨nd, rfl⟩⟩; refine ⟨_, rfl, ?_⟩) | ((with_reducible refine gate_callee (f := 30) rfl ?_); refine goesL_ (some 29) rfl rfl Try.func30 (by kernel_rfl) rfl #[.float .f64 (rdOf (0 : Nat) y183 (i : Int))] rfl aT ?_; (with_reducible refine (r2_Round.calls (rdOf (0 : Nat) y183 (i : Int)) nr _ hr2.out).mono ?_); rintro e w' ⟨rfl, ⟨nd, rfl⟩⟩; refine ⟨_, rfl, ?_⟩))
   go_roundg k1
   case measure => omega
   case rel => exact ⟨i + 1, by first | rfl | (congr 1; first | rw [i64_w] | skip; unfold Go.RowKit.wrap64; have := HLy.out; omega), ⟨by have := HI.out; omega⟩, ⟨aR HO_19⟩, ⟨aL HB⟩⟩
def stanzalaw12_RatioRounds.Pure : Prop := ∀ (a0 : Nat) (a1 : Int), (Lit.float .f64 a0).wf = true → (Lit.int .i32 a1).wf = true → ∃ k, stanzalaw12_RatioRounds.f k a0 a1 = some true
end Go.Proofs.Ytmpnnpibpodmkaa.F
end
