/- Plain proofs: what the printed functions compute. -/
import Derived.Test.YtmpnnpibpodmkaaXRatioRounds0
import Derived.WalkKit
import Derived.Test.YtmpnnpibpodmkaaVRatioRounds0
section
/- Helpers of the plain proofs: eventual values (Ev), wrapped numbers, lists. -/
namespace Go.Proofs.Ytmpnnpibpodmkaa.Pure
open Go.RowKit Go.Proofs.YtmpnnpibpodmkaaW.PrintWords
theorem ev_pos {α : Type} {c : Prop} [Decidable c] {a b : Nat → Option α} {r : α} (h : c) (H : Ev a r) : Ev (fun k => if c then a k else b k) r := by simpa [h] using H
theorem ev_neg {α : Type} {c : Prop} [Decidable c] {a b : Nat → Option α} {r : α} (h : ¬ c) (H : Ev b r) : Ev (fun k => if c then a k else b k) r := by simpa [h] using H
theorem ev_ret {α : Type} {x r : α} (h : x = r) : Ev (fun _ => some x) r := by subst h; exact Ev.now _
theorem ev_bind {α β : Type} {g : Nat → Option α} {f : Nat → α → Option β} {a : α} {r : β} (h : Ev g a) (k : Ev (fun n => f n a) r) : Ev (fun n => (g n).bind (f n)) r := Ev.bind h k
theorem ev_bind' {α β : Type} {o : Option α} {f : Nat → α → Option β} {a : α} {r : β} (h : o = some a) (k : Ev (fun n => f n a) r) : Ev (fun n => o.bind (f n)) r := by subst h; exact k
theorem w64 {x : Int} (h1 : -9223372036854775808 ≤ x) (h2 : x ≤ 9223372036854775807) : wrap64 x = x := by unfold wrap64; omega
theorem wfi32 {x : Int} : (Lit.int .i32 x).wf = true ↔ -2147483648 ≤ x ∧ x ≤ 2147483647 := by simp [Lit.wf, IntKind.min, IntKind.max, IntKind.signed, IntKind.bits]
end Go.Proofs.Ytmpnnpibpodmkaa.Pure
end
section
/- How bad a line is, is always told: a number from 0 to 10000. -/
namespace Go.Proofs.Ytmpnnpibpodmkaa.Pure
open Go.RowKit Go.Proofs.YtmpnnpibpodmkaaW.PrintWords Go.Proofs.Ytmpnnpibpodmkaa.F
open Ieee (Format Datum)
abbrev dbl : Format := FloatKind.f64.format
theorem d_sw : dbl.signWeight = 9223372036854775808 := by decide
theorem d_bi : dbl.binade = 4503599627370496 := by decide
theorem d_ir : dbl.infRung = 9218868437227405312 := by decide
theorem write_pos (m : Nat) (e : Int) : dbl.write (.number false m e) ≤ 9218868437227405312 := by
 show dbl.nearest false m e ≤ _
 unfold Format.nearest Format.word
 split
 ·simp
 ·simp only [Bool.false_eq_true, if_false, d_ir]
  exact Nat.min_le_right _ _
theorem pow_cut (k : Nat) : (1 <<< k : Nat) = 2 ^ k := by rw [Nat.shiftLeft_eq, Nat.one_mul]
end Go.Proofs.Ytmpnnpibpodmkaa.Pure
end
section
/- How floats stand to each other, by their bits. -/
namespace Go.Proofs.Ytmpnnpibpodmkaa.Pure
open Go.RowKit Go.Proofs.YtmpnnpibpodmkaaW.PrintWords
open Ieee (Format Datum)
def rg (x : Nat) : Nat := x % 9223372036854775808
def sg (x : Nat) : Bool := x / 9223372036854775808 % 2 == 1
def sm (x : Nat) : Int := if sg x = true then -(rg x : Int) else (rg x : Int)
def mg (r : Nat) : Nat := if r < 4503599627370496 then r else (4503599627370496 + r % 4503599627370496) * 2 ^ (r / 4503599627370496 - 1)
theorem mg_ge {r : Nat} (h : ¬ r < 4503599627370496) : 4503599627370496 * 2 ^ (r / 4503599627370496 - 1) ≤ mg r ∧ mg r < 4503599627370496 * 2 ^ (r / 4503599627370496) := by
 unfold mg
 rw [if_neg h]
 refine ⟨Nat.mul_le_mul_right _ (by omega), ?_⟩
 have h1 : 2 ^ (r / 4503599627370496) = 2 ^ (r / 4503599627370496 - 1) * 2 := by
  rw [← Nat.pow_succ]; congr 1; omega
 rw [h1, ← Nat.mul_assoc, Nat.mul_comm 4503599627370496, Nat.mul_assoc, Nat.mul_comm (2 ^ _)]
 exact Nat.mul_lt_mul_of_pos_right (by omega) (Nat.two_pow_pos _)
theorem mg_mono {r q : Nat} (h : r < q) : mg r < mg q := by
 by_cases c1 : r < 4503599627370496
 ·by_cases c2 : q < 4503599627370496
  ·unfold mg; rw [if_pos c1, if_pos c2]; exact h
  ·have h2 := (mg_ge c2).1
   have h3 : 4503599627370496 * 1 ≤ 4503599627370496 * 2 ^ (q / 4503599627370496 - 1) := Nat.mul_le_mul_left _ (Nat.two_pow_pos _)
   have h4 : mg r = r := by unfold mg; rw [if_pos c1]
   omega
 ·have c2 : ¬ q < 4503599627370496 := by omega
  rcases Nat.lt_or_ge (r / 4503599627370496) (q / 4503599627370496) with h1 | h1
  ·have h2 := (mg_ge c1).2
   have h3 := (mg_ge c2).1
   have h4 : 4503599627370496 * 2 ^ (r / 4503599627370496) ≤ 4503599627370496 * 2 ^ (q / 4503599627370496 - 1) := Nat.mul_le_mul_left _ (Nat.pow_le_pow_right (by decide) (by omega))
   omega
  ·have he : r / 4503599627370496 = q / 4503599627370496 := by omega
   unfold mg
   rw [if_neg c1, if_neg c2, he]
   exact Nat.mul_lt_mul_of_pos_right (by omega) (Nat.two_pow_pos _)
theorem mg_lt {r q : Nat} : mg r < mg q ↔ r < q := by
 refine ⟨fun h => ?_, mg_mono⟩
 rcases Nat.lt_trichotomy r q with h1 | h1 | h1
 ·exact h1
 ·rw [h1] at h; omega
 ·have := mg_mono h1; omega
theorem d_lp : dbl.leastPlace = -1074 := by decide
theorem read_fin {x : Nat} (h : rg x < 9218868437227405312) : ∃ (m : Nat) (k : Nat), dbl.read x = .number (sg x) m (-1074 + (k : Int)) ∧ mg (rg x) = m * 2 ^ k := by
 unfold rg at h ⊢
 unfold Format.read
 simp only [d_sw, d_bi, d_ir, d_lp]
 by_cases c : x % 9223372036854775808 < 4503599627370496
 ·rw [if_pos c]
  refine ⟨x % 9223372036854775808, 0, rfl, ?_⟩
  unfold mg; rw [if_pos c]; simp
 ·rw [if_neg c, if_pos h]
  refine ⟨_, _, rfl, ?_⟩
  unfold mg; rw [if_neg c]
theorem read_infy {x : Nat} (h : rg x = 9218868437227405312) : dbl.read x = .infinity (sg x) := by
 unfold rg at h
 unfold Format.read
 simp only [d_sw, d_bi, d_ir]
 rw [if_neg (by omega), if_neg (by omega), if_pos h]; rfl
theorem nan_rg (x : Nat) : isNan x = decide (9218868437227405312 < rg x) := by
 rcases Nat.lt_trichotomy (rg x) 9218868437227405312 with h | h | h
 ·obtain ⟨m, k, h1, _⟩ := read_fin h
  unfold isNan FloatKind.decode
  rw [show Format.read FloatKind.f64.format x = dbl.read x from rfl, h1, decide_eq_false (by omega)]; rfl
 ·have h1 := read_infy h
  unfold isNan FloatKind.decode
  rw [show Format.read FloatKind.f64.format x = dbl.read x from rfl, h1, decide_eq_false (by omega)]; rfl
 ·rw [decide_eq_true h]
  exact nan_of_rung h
theorem cmp_iff {a b c d : Int} (h1 : a < b ↔ c < d) (h2 : a = b ↔ c = d) : compare a b = compare c d := by
 show compareOfLessAndEq a b = compareOfLessAndEq c d
 unfold compareOfLessAndEq
 by_cases h : a < b
 ·rw [if_pos h, if_pos (h1.1 h)]
 ·rw [if_neg h, if_neg (fun hh => h (h1.2 hh))]
  by_cases h' : a = b
  ·rw [if_pos h', if_pos (h2.1 h')]
  ·rw [if_neg h', if_neg (fun hh => h' (h2.2 hh))]
theorem cmp_lt {a b : Int} (h : a < b) : compare a b = .lt := by
 show compareOfLessAndEq a b = .lt
 unfold compareOfLessAndEq
 rw [if_pos h]
theorem cmp_gt {a b : Int} (h : b < a) : compare a b = .gt := by
 show compareOfLessAndEq a b = .gt
 unfold compareOfLessAndEq
 rw [if_neg (by omega), if_neg (by omega)]
theorem order_sm {x y : Nat} (hx : rg x ≤ 9218868437227405312) (hy : rg y ≤ 9218868437227405312) : dbl.order x y = some (compare (sm x) (sm y)) := by
 unfold Format.order
 rcases Nat.lt_or_eq_of_le hx with cx | cx <;> rcases Nat.lt_or_eq_of_le hy with cy | cy
 ·obtain ⟨m, k, e1, v1⟩ := read_fin cx
  obtain ⟨n, l, e2, v2⟩ := read_fin cy
  rw [e1, e2]
  show some (compare (Ieee.signed _ m _) (Ieee.signed _ n _)) = _
  congr 1
  obtain ⟨c, a, b, hk, hl, ha, hb⟩ : ∃ c a b : Nat, k = c + a ∧ l = c + b ∧ ((-1074 + (k : Int)) - min (-1074 + (k : Int)) (-1074 + (l : Int))).toNat = a ∧ ((-1074 + (l : Int)) - min (-1074 + (k : Int)) (-1074 + (l : Int))).toNat = b := by
   refine ⟨min k l, k - min k l, l - min k l, by omega, by omega, by omega, by omega⟩
  rw [ha, hb]
  have w1 : mg (rg x) = (m <<< a) * 2 ^ c := by rw [v1, hk, Nat.shiftLeft_eq, Nat.add_comm c a, Nat.pow_add, Nat.mul_assoc]
  have w2 : mg (rg y) = (n <<< b) * 2 ^ c := by rw [v2, hl, Nat.shiftLeft_eq, Nat.add_comm c b, Nat.pow_add, Nat.mul_assoc]
  have hp : 0 < 2 ^ c := Nat.two_pow_pos c
  have i1 : m <<< a < n <<< b ↔ rg x < rg y := by
   exact (Nat.mul_lt_mul_right hp).symm.trans (by rw [← w1, ← w2]; exact mg_lt)
  have i2 : n <<< b < m <<< a ↔ rg y < rg x := by
   exact (Nat.mul_lt_mul_right hp).symm.trans (by rw [← w1, ← w2]; exact mg_lt)
  have z1 : 0 < m <<< a ↔ 0 < rg x := by
   have : mg 0 < mg (rg x) ↔ 0 < rg x := mg_lt
   rw [w1, show mg 0 = 0 from rfl] at this
   rw [← this]
   exact ⟨fun h => Nat.mul_pos h hp, fun h => Nat.pos_of_mul_pos_right h⟩
  have z2 : 0 < n <<< b ↔ 0 < rg y := by
   have : mg 0 < mg (rg y) ↔ 0 < rg y := mg_lt
   rw [w2, show mg 0 = 0 from rfl] at this
   rw [← this]
   exact ⟨fun h => Nat.mul_pos h hp, fun h => Nat.pos_of_mul_pos_right h⟩
  unfold Ieee.signed sm
  generalize m <<< a = M at *
  generalize n <<< b = N at *
  refine cmp_iff ?_ ?_ <;> (cases sg x <;> cases sg y <;> simp <;> omega)
 ·obtain ⟨m, k, e1, _⟩ := read_fin cx
  rw [e1, read_infy cy]
  show some (if sg y = true then Ordering.gt else .lt) = _
  congr 1
  unfold sm
  cases sg x <;> cases sg y <;> simp only [if_true, if_false, Bool.false_eq_true]
  ·exact (cmp_lt (by omega)).symm
  ·exact (cmp_gt (by omega)).symm
  ·exact (cmp_lt (by omega)).symm
  ·exact (cmp_gt (by omega)).symm
 ·obtain ⟨n, l, e2, _⟩ := read_fin cy
  rw [e2, read_infy cx]
  show some (if sg x = true then Ordering.lt else .gt) = _
  congr 1
  unfold sm
  cases sg x <;> cases sg y <;> simp only [if_true, if_false, Bool.false_eq_true]
  ·exact (cmp_gt (by omega)).symm
  ·exact (cmp_gt (by omega)).symm
  ·exact (cmp_lt (by omega)).symm
  ·exact (cmp_lt (by omega)).symm
 ·rw [read_infy cx, read_infy cy]
  show some (compare (sg y).toNat (sg x).toNat) = _
  congr 1
  unfold sm
  rw [cx, cy]
  cases sg x <;> cases sg y <;> decide
end Go.Proofs.Ytmpnnpibpodmkaa.Pure
end
section
/- ratio.Order and the document's come to one order; layer 12's Awake; the edges. -/
namespace Go.Proofs.Ytmpnnpibpodmkaa.Pure
open Go.RowKit Go.Proofs.YtmpnnpibpodmkaaW.PrintWords Go.Proofs.Ytmpnnpibpodmkaa.F
def rk (x : Nat) : Int := if sg x = true then -(rg x : Int) - 1 else (rg x : Int)
def ord (x y : Nat) : Int := if isNan x = true then (if isNan y = true then 0 else -1) else if isNan y = true then 1 else if rk x < rk y then -1 else if rk x > rk y then 1 else 0
theorem rk_lt {x y : Nat} (h : sm x < sm y) : rk x < rk y := by
 revert h
 unfold sm rk
 cases sg x <;> cases sg y <;> simp only [if_true, if_false, Bool.false_eq_true] <;> intro h <;> omega
theorem word_split {x : Nat} (h : x < 18446744073709551616) : x = (if sg x = true then 9223372036854775808 else 0) + rg x ∧ rg x < 9223372036854775808 := by
 unfold sg rg
 rcases Nat.lt_or_ge x 9223372036854775808 with h1 | h1
 ·have e : x / 9223372036854775808 = 0 := by omega
  rw [e]
  refine ⟨?_, by omega⟩
  rw [if_neg (by decide)]; omega
 ·have e : x / 9223372036854775808 = 1 := by omega
  rw [e]
  refine ⟨?_, by omega⟩
  rw [if_pos (by decide)]; omega
theorem sign_eq {x : Nat} (h : x < 18446744073709551616) : decide (wrap64 (x : Int) < 0) = sg x := by
 obtain ⟨h1, h2⟩ := word_split h
 cases hs : sg x
 ·rw [hs, if_neg (by decide)] at h1
  rw [w64 (by omega) (by omega)]
  exact decide_eq_false (by omega)
 ·rw [hs, if_pos rfl] at h1
  refine decide_eq_true ?_
  unfold wrap64; omega
theorem ord_ev {x y : Nat} (hx : x < 18446744073709551616) (hy : y < 18446744073709551616) : Ev (fun k => ratio_Order.f k x y) (ord x y) := by
 have ht : ∀ b : Bool, ratio_truth.f b = some (if b = true then 1 else 0) := by intro b; cases b <;> rfl
 have hn : ∀ z, math_IsNaN.f z = some (isNan z) := fun z => rfl
 have hsx : math_Signbit.f x = some (sg x) := by unfold math_Signbit.f; rw [sign_eq hx]
 have hsy : math_Signbit.f y = some (sg y) := by unfold math_Signbit.f; rw [sign_eq hy]
 obtain ⟨_, bx⟩ := word_split hx
 obtain ⟨_, bY⟩ := word_split hy
 unfold ratio_Order.f
 refine ev_bind' (hn x) ?_
 have hj : ∀ b : Bool, b = (isNan x || isNan y) → Ev (fun k => ratio_Order.j0 k x y b) (ord x y) := by
  intro b hb
  refine Ev.step (fun k => by unfold ratio_Order.j0; rfl) ?_
  unfold ord
  cases ex : isNan x <;> cases ey : isNan y <;> rw [ex, ey] at hb
  ·subst hb
   have rx : rg x ≤ 9218868437227405312 := by have := nan_rg x; rw [ex] at this; have := of_decide_eq_false this.symm; omega
   have ry : rg y ≤ 9218868437227405312 := by have := nan_rg y; rw [ey] at this; have := of_decide_eq_false this.symm; omega
   refine ev_neg (by decide) ?_
   rw [show FloatKind.f64.format.order x y = some (compare (sm x) (sm y)) from order_sm rx ry, if_neg (show ¬ (false = true) by decide), if_neg (show ¬ (false = true) by decide)]
   rcases Int.lt_trichotomy (sm x) (sm y) with h | h | h
   ·rw [cmp_lt h, if_pos (rk_lt h)]
    exact ev_pos rfl (Ev.now _)
   ·rw [h, show compare (sm y) (sm y) = .eq from by show compareOfLessAndEq _ _ = _; unfold compareOfLessAndEq; rw [if_neg (by omega), if_pos rfl]]
    refine ev_neg (by decide) (ev_neg (by decide) (ev_bind' hsy (ev_bind' (ht _) (ev_bind' hsx (ev_bind' (ht _) (ev_ret ?_))))))
    unfold sm at h
    unfold rk
    cases sg x <;> cases sg y <;> simp only [if_true, if_false, Bool.false_eq_true] at h ⊢
    ·rw [if_neg (by omega), if_neg (by omega)]; exact (w64 (by decide) (by decide)).trans (by decide)
    ·rw [if_neg (by omega), if_pos (by omega)]; exact (w64 (by decide) (by decide)).trans (by decide)
    ·rw [if_pos (by omega)]; exact (w64 (by decide) (by decide)).trans (by decide)
    ·rw [if_neg (by omega), if_neg (by omega)]; exact (w64 (by decide) (by decide)).trans (by decide)
   ·rw [cmp_gt h, if_neg (show ¬ rk x < rk y by have := rk_lt h; omega), if_pos (show rk x > rk y from rk_lt h)]
    exact ev_neg (by decide) (ev_pos rfl (Ev.now _))
  ·subst hb
   refine ev_pos rfl (ev_bind' (hn y) (ev_bind' (ht _) (ev_bind' (hn x) (ev_bind' (ht _) (ev_ret ?_)))))
   rw [ex, ey]; exact (w64 (by decide) (by decide)).trans rfl
  ·subst hb
   refine ev_pos rfl (ev_bind' (hn y) (ev_bind' (ht _) (ev_bind' (hn x) (ev_bind' (ht _) (ev_ret ?_)))))
   rw [ex, ey]; exact (w64 (by decide) (by decide)).trans rfl
  ·subst hb
   refine ev_pos rfl (ev_bind' (hn y) (ev_bind' (ht _) (ev_bind' (hn x) (ev_bind' (ht _) (ev_ret ?_)))))
   rw [ex, ey]; exact (w64 (by decide) (by decide)).trans rfl
 cases ex : isNan x
 ·exact ev_neg (by decide) (ev_bind' (hn y) (hj _ (by rw [ex]; rfl)))
 ·exact ev_pos rfl (hj _ (by rw [ex]; rfl))
end Go.Proofs.Ytmpnnpibpodmkaa.Pure
end
section
/- Layer 12's Awake is true; its edges. -/
namespace Go.Proofs.Ytmpnnpibpodmkaa.Pure
open Go.RowKit Go.Proofs.YtmpnnpibpodmkaaW.PrintWords Go.Proofs.Ytmpnnpibpodmkaa.F
theorem awake12 : Ev (fun k => stanzalaw12_Awake.f k) true := by
 unfold stanzalaw12_Awake.f
 refine ev_bind' rfl (ev_bind' rfl (ev_pos (by decide +kernel) (ev_bind' (a := 10000) (by decide +kernel) (ev_pos rfl (ev_bind' rfl (ev_bind' (a := 0) (by decide +kernel) (ev_pos rfl (ev_bind' (a := 12) (by decide +kernel) (ev_pos rfl (ev_bind' (a := 100) (by decide +kernel) (ev_pos rfl (ev_bind' (a := 2) (by decide +kernel) (ev_pos rfl (ev_bind' (a := 9223372036854775808) (by decide +kernel) (ev_bind (ord_ev (by decide) (by decide)) (ev_pos (by decide +kernel) (ev_bind' (a := 4607182418800017408) (by decide +kernel) (ev_pos (by decide +kernel) (ev_bind' rfl (ev_bind' rfl (ev_ret (by decide +kernel))))))))))))))))))))))
end Go.Proofs.Ytmpnnpibpodmkaa.Pure
end
section
/- Rounding to the nearest word is monotone. -/
namespace Go.Proofs.Ytmpnnpibpodmkaa.Pure
open Go.RowKit Go.Proofs.YtmpnnpibpodmkaaW.PrintWords
open Ieee (Format Datum Toward)
def Near (n k c : Nat) : Prop := 2 * n ≤ 2 * (c * 2 ^ k) + 2 ^ k ∧ 2 * (c * 2 ^ k) ≤ 2 * n + 2 ^ k ∧ (2 * n = 2 * (c * 2 ^ k) + 2 ^ k → c % 2 = 0) ∧ (2 * (c * 2 ^ k) = 2 * n + 2 ^ k → c % 2 = 0)
theorem near_of {n k q r : Nat} (h : n = 2 ^ k * q + r) (hr : r < 2 ^ k) : Near n k (q + (decide (2 ^ k < 2 * r) || (2 ^ k == 2 * r && q % 2 == 1)).toNat) := by
 have hc : 2 ^ k * q = q * 2 ^ k := Nat.mul_comm _ _
 have h1 : (q + 1) * 2 ^ k = q * 2 ^ k + 2 ^ k := by rw [Nat.add_mul, Nat.one_mul]
 rw [hc] at h
 unfold Near
 generalize hg : 2 ^ k = g at *
 by_cases c1 : g < 2 * r
 ·rw [decide_eq_true c1, Bool.true_or, show Bool.toNat true = 1 from rfl, h1]
  refine ⟨by omega, by omega, fun e => by omega, fun e => by omega⟩
 ·rw [decide_eq_false c1, Bool.false_or]
  by_cases c2 : g = 2 * r
  ·rw [beq_iff_eq.2 c2, Bool.true_and]
   by_cases c3 : q % 2 = 1
   ·rw [beq_iff_eq.2 c3, show Bool.toNat true = 1 from rfl, h1]
    refine ⟨by omega, by omega, fun e => by omega, fun e => by omega⟩
   ·rw [beq_eq_false_iff_ne.2 c3, show Bool.toNat false = 0 from rfl, Nat.add_zero]
    refine ⟨by omega, by omega, fun e => by omega, fun e => by omega⟩
  ·rw [beq_eq_false_iff_ne.2 c2, Bool.false_and, show Bool.toNat false = 0 from rfl, Nat.add_zero]
   refine ⟨by omega, by omega, fun e => by omega, fun e => by omega⟩
theorem cut_near (s : Bool) (n k : Nat) : Near n k (Toward.even.cut s n k) := by
 unfold Toward.cut
 simp only [pow_cut]
 rcases Nat.le_total k (n.log2 + 2) with h1 | h1
 ·rw [Nat.min_eq_left h1]
  exact near_of (Nat.div_add_mod n (2 ^ k)).symm (Nat.mod_lt _ (Nat.two_pow_pos k))
 ·rw [Nat.min_eq_right h1]
  have h2 : n < 2 ^ (n.log2 + 1) := Nat.lt_log2_self
  have h3 : 2 ^ (n.log2 + 2) = 2 ^ (n.log2 + 1) * 2 := Nat.pow_succ ..
  have h4 : 2 ^ (n.log2 + 2) ≤ 2 ^ k := Nat.pow_le_pow_right (by decide) h1
  have e1 : n / 2 ^ (n.log2 + 2) = 0 := Nat.div_eq_of_lt (by omega)
  have e2 : n % 2 ^ (n.log2 + 2) = n := Nat.mod_eq_of_lt (by omega)
  rw [e1, e2, decide_eq_false (by omega), beq_eq_false_iff_ne.2 (show ¬ 2 ^ (n.log2 + 2) = 2 * n by omega)]
  show Near n k 0
  unfold Near
  rw [Nat.zero_mul]
  refine ⟨by omega, by omega, fun e => by omega, fun e => by omega⟩
theorem near_mono {n k c n' k' c' : Nat} (h : Near n k c) (h' : Near n' k' c') (hle : n * 2 ^ k' ≤ n' * 2 ^ k) : c ≤ c' := by
 obtain ⟨_, a2, _, a4⟩ := h
 obtain ⟨b1, _, b3, _⟩ := h'
 refine Nat.le_of_not_lt (fun hlt => ?_)
 have hg : 0 < 2 ^ k := Nat.two_pow_pos k
 have hg' : 0 < 2 ^ k' := Nat.two_pow_pos k'
 generalize 2 ^ k = g at *
 generalize 2 ^ k' = g' at *
 have m1 : 2 * (c * g) * g' ≤ (2 * n + g) * g' := Nat.mul_le_mul_right _ a2
 have m2 : 2 * n' * g ≤ (2 * (c' * g') + g') * g := Nat.mul_le_mul_right _ b1
 have hp : 0 < g * g' := Nat.mul_pos hg hg'
 have e1 : 2 * (c * g) * g' = 2 * (c * (g * g')) := by rw [Nat.mul_assoc 2, Nat.mul_assoc c]
 have e2 : (2 * n + g) * g' = 2 * (n * g') + g * g' := by rw [Nat.add_mul, Nat.mul_assoc]
 have e3 : 2 * n' * g = 2 * (n' * g) := Nat.mul_assoc ..
 have e4 : (2 * (c' * g') + g') * g = 2 * (c' * (g * g')) + g * g' := by rw [Nat.add_mul, Nat.mul_assoc 2, Nat.mul_assoc c', Nat.mul_comm g' g]
 rw [e1, e2] at m1
 rw [e3, e4] at m2
 generalize hG : g * g' = G at *
 have k1 : (c' + 1) * G ≤ c * G := Nat.mul_le_mul_right _ hlt
 rw [Nat.add_mul, Nat.one_mul] at k1
 have f1 : c * G = c' * G + G := by omega
 have f2 : 2 * (c * G) = 2 * (n * g') + G := by omega
 have f3 : 2 * (n' * g) = 2 * (c' * G) + G := by omega
 have hc : c = c' + 1 := by
  have : c * G = (c' + 1) * G := by rw [Nat.add_mul, Nat.one_mul]; exact f1
  exact Nat.eq_of_mul_eq_mul_right hp this
 have t1 : 2 * (c * g) = 2 * n + g := by
  apply Nat.eq_of_mul_eq_mul_right hg'
  rw [e1, e2]; exact f2
 have t2 : 2 * n' = 2 * (c' * g') + g' := by
  apply Nat.eq_of_mul_eq_mul_right hg
  rw [e3, e4]; exact f3
 have := a4 t1
 have := b3 t2
 omega
theorem pow_le {m m' i i' j j' : Nat} (h : m * 2 ^ i ≤ m' * 2 ^ i') (e : j + i' = j' + i) : m * 2 ^ j ≤ m' * 2 ^ j' := by
 have h1 : m * 2 ^ i * 2 ^ j ≤ m' * 2 ^ i' * 2 ^ j := Nat.mul_le_mul_right _ h
 rw [Nat.mul_assoc, ← Nat.pow_add, Nat.mul_assoc, ← Nat.pow_add, show i' + j = j' + i from by omega, show i + j = j + i from by omega, Nat.pow_add, Nat.pow_add, ← Nat.mul_assoc, ← Nat.mul_assoc] at h1
 exact Nat.le_of_mul_le_mul_right h1 (Nat.two_pow_pos i)
theorem near_whole (c : Nat) : Near c 0 c := by
 unfold Near
 rw [Nat.pow_zero, Nat.mul_one]
 exact ⟨by omega, by omega, fun e => by omega, fun e => by omega⟩
def lst (m : Nat) (p : Int) : Int := max (p + m.log2 - 52) (-1074)
def kpt (m : Nat) (p : Int) : Nat := Toward.even.cut false (m <<< (p - lst m p).toNat) (lst m p - p).toNat
theorem nearest_eq {m : Nat} (p : Int) (hm : 0 < m) : dbl.nearest false m p = min ((lst m p + 1074).toNat * 4503599627370496 + kpt m p) 9218868437227405312 := by
 unfold Format.nearest
 rw [if_neg (by omega)]
 show (if false = true then _ else min ((lst m p - dbl.leastPlace).toNat * dbl.binade + kpt m p) dbl.infRung) = _
 rw [if_neg (by decide), d_bi, d_ir, d_lp, show lst m p - -1074 = lst m p + 1074 from by omega]
theorem kpt_near (m : Nat) (p : Int) : Near (m * 2 ^ (p - lst m p).toNat) (lst m p - p).toNat (kpt m p) := by
 unfold kpt
 rw [Nat.shiftLeft_eq]
 exact cut_near _ _ _
theorem kpt_le {m : Nat} {p : Int} : kpt m p ≤ 9007199254740992 := by
 refine near_mono (kpt_near m p) (near_whole _) ?_
 have h1 : m < 2 ^ (m.log2 + 1) := Nat.lt_log2_self
 have h2 : lst m p ≥ p + m.log2 - 52 := Int.le_max_left _ _
 rw [Nat.pow_zero, Nat.mul_one, show (9007199254740992 : Nat) = 2 ^ 53 from by decide, ← Nat.pow_add]
 have h3 : m * 2 ^ (p - lst m p).toNat ≤ 2 ^ (m.log2 + 1) * 2 ^ (p - lst m p).toNat := Nat.mul_le_mul_right _ (Nat.le_of_lt h1)
 rw [← Nat.pow_add] at h3
 exact Nat.le_trans h3 (Nat.pow_le_pow_right (by decide) (by omega))
theorem kpt_ge {m : Nat} {p : Int} (hm : 0 < m) (h : -1074 < lst m p) : 4503599627370496 ≤ kpt m p := by
 refine near_mono (near_whole _) (kpt_near m p) ?_
 have h1 : 2 ^ m.log2 ≤ m := Nat.log2_self_le (by omega)
 have h2 : lst m p = p + m.log2 - 52 := by unfold lst at h ⊢; omega
 rw [Nat.pow_zero, Nat.mul_one, show (4503599627370496 : Nat) = 2 ^ 52 from by decide, ← Nat.pow_add]
 have h3 : 2 ^ m.log2 * 2 ^ (p - lst m p).toNat ≤ m * 2 ^ (p - lst m p).toNat := Nat.mul_le_mul_right _ h1
 rw [← Nat.pow_add] at h3
 exact Nat.le_trans (Nat.pow_le_pow_right (by decide) (by omega)) h3
theorem nearest_mono {m m' : Nat} {b : Int} {i i' : Nat} (hm : 0 < m) (hm' : 0 < m') (h : m * 2 ^ i ≤ m' * 2 ^ i') : dbl.nearest false m (b + i) ≤ dbl.nearest false m' (b + i') := by
 rw [nearest_eq _ hm, nearest_eq _ hm']
 have key : (lst m (b + i) + 1074).toNat * 4503599627370496 + kpt m (b + i) ≤ (lst m' (b + i') + 1074).toNat * 4503599627370496 + kpt m' (b + i') := by
  have l1 : -1074 ≤ lst m (b + i) := Int.le_max_right _ _
  have l2 : -1074 ≤ lst m' (b + i') := Int.le_max_right _ _
  have l3 : lst m' (b + i') ≥ (b + i') + m'.log2 - 52 := Int.le_max_left _ _
  rcases Int.lt_trichotomy (lst m (b + i)) (lst m' (b + i')) with c | c | c
  ·have k1 := kpt_le (m := m) (p := b + i)
   have k2 := kpt_ge (m := m') (p := b + i') hm' (by omega)
   omega
  ·have k := near_mono (kpt_near m (b + i)) (kpt_near m' (b + i')) (by
    rw [Nat.mul_assoc, ← Nat.pow_add, Nat.mul_assoc, ← Nat.pow_add]
    exact pow_le h (by omega))
   rw [c]; omega
  ·exfalso
   have l4 : lst m (b + i) = (b + i) + m.log2 - 52 := by unfold lst at c l2 l1 ⊢; omega
   have h1 : 2 ^ m.log2 ≤ m := Nat.log2_self_le (by omega)
   have h2 : m' < 2 ^ (m'.log2 + 1) := Nat.lt_log2_self
   have h3 : 2 ^ m.log2 * 2 ^ i ≤ m * 2 ^ i := Nat.mul_le_mul_right _ h1
   have h4 : m' * 2 ^ i' < 2 ^ (m'.log2 + 1) * 2 ^ i' := Nat.mul_lt_mul_of_pos_right h2 (Nat.two_pow_pos i')
   rw [← Nat.pow_add] at h3 h4
   have h5 : 2 ^ (m'.log2 + 1 + i') ≤ 2 ^ (m.log2 + i) := Nat.pow_le_pow_right (by decide) (by omega)
   omega
 omega
end Go.Proofs.Ytmpnnpibpodmkaa.Pure
end
section
/- To a whole number: what the bits come to. -/
namespace Go.Proofs.Ytmpnnpibpodmkaa.Pure
open Go.RowKit Go.Proofs.YtmpnnpibpodmkaaW.PrintWords
open Ieee (Format Datum Toward)
theorem dvd_gap (n d : Nat) : n / 2 ^ min d (n.log2 + 2) = n / 2 ^ d ∧ n % 2 ^ min d (n.log2 + 2) = n % 2 ^ d := by
 rcases Nat.le_total d (n.log2 + 2) with h1 | h1
 ·rw [Nat.min_eq_left h1]; exact ⟨rfl, rfl⟩
 ·rw [Nat.min_eq_right h1]
  have h2 : n < 2 ^ (n.log2 + 2) := Nat.lt_trans Nat.lt_log2_self (Nat.pow_lt_pow_right (by decide) (by omega))
  have h3 : n < 2 ^ d := Nat.lt_of_lt_of_le h2 (Nat.pow_le_pow_right (by decide) h1)
  exact ⟨by rw [Nat.div_eq_of_lt h2, Nat.div_eq_of_lt h3], by rw [Nat.mod_eq_of_lt h2, Nat.mod_eq_of_lt h3]⟩
theorem cut_zero (s : Bool) (n d : Nat) : Toward.zero.cut s n d = n / 2 ^ d := by
 unfold Toward.cut
 simp only [pow_cut, Bool.toNat_false, Nat.add_zero]
 exact (dvd_gap n d).1
theorem cut_down (s : Bool) (n d : Nat) : Toward.down.cut s n d = n / 2 ^ d + (s && n % 2 ^ d != 0).toNat := by
 unfold Toward.cut
 simp only [pow_cut]
 rw [(dvd_gap n d).1, (dvd_gap n d).2]
theorem read_word (s : Bool) {w : Nat} (h : w < 9218868437227405312) : dbl.read (dbl.word s w) = if w < 4503599627370496 then .number s w (-1074) else .number s (4503599627370496 + w % 4503599627370496) (-1074 + ((w / 4503599627370496 - 1 : Nat) : Int)) := by
 have h1 : dbl.word s w % 9223372036854775808 = w ∧ (dbl.word s w / 9223372036854775808 % 2 == 1) = s := by
  unfold Format.word
  rw [d_sw]
  cases s
  ·simp only [Bool.false_eq_true, if_false]
   exact ⟨by omega, by rw [show w / 9223372036854775808 = 0 from by omega]; rfl⟩
  ·rw [if_pos rfl]
   exact ⟨by omega, by rw [show (9223372036854775808 + w) / 9223372036854775808 = 1 from by omega]; rfl⟩
 unfold Format.read
 simp only [d_sw, d_bi, d_ir, d_lp]
 rw [h1.1, h1.2]
 by_cases c : w < 4503599627370496
 ·rw [if_pos c, if_pos c]
 ·rw [if_neg c, if_neg c, if_pos h]
theorem read_nearest (s : Bool) {n : Nat} (hn : n < 9007199254740992) {p : Int} (h1 : -1074 ≤ p) (h2 : p ≤ 900) : ∃ j : Nat, dbl.read (dbl.nearest s n p) = .number s (n * 2 ^ j) (p - j) ∧ -1074 ≤ p - j := by
 rcases Nat.eq_zero_or_pos n with h0 | h0
 ·subst h0
  refine ⟨(p + 1074).toNat, ?_, by omega⟩
  unfold Format.nearest
  rw [if_pos rfl, Nat.zero_mul, show p - ((p + 1074).toNat : Int) = -1074 from by omega]
  cases s <;> decide
 ·obtain ⟨L, hL⟩ : ∃ L, L = n.log2 := ⟨_, rfl⟩
  have hlo : 2 ^ L ≤ n := by rw [hL]; exact Nat.log2_self_le (by omega)
  have hhi : n < 2 ^ (L + 1) := by rw [hL]; exact Nat.lt_log2_self
  have hl : L ≤ 52 := by
   rcases Nat.lt_or_ge 52 L with h | h
   ·have := Nat.pow_le_pow_right (show 0 < 2 from by decide) (show 53 ≤ L from h)
    have : (2 : Nat) ^ 53 = 9007199254740992 := by decide
    omega
   ·exact h
  obtain ⟨t, ht⟩ : ∃ t : Int, t = max (p + L - 52) (-1074) := ⟨_, rfl⟩
  have htp : t ≤ p := by omega
  refine ⟨(p - t).toNat, ?_, by omega⟩
  have hK : n * 2 ^ (p - t).toNat < 9007199254740992 := by
   calc n * 2 ^ (p - t).toNat < 2 ^ (L + 1) * 2 ^ (p - t).toNat := Nat.mul_lt_mul_of_pos_right hhi (Nat.two_pow_pos _)
    _ ≤ 2 ^ 53 := by rw [← Nat.pow_add]; exact Nat.pow_le_pow_right (by decide) (by omega)
    _ = 9007199254740992 := by decide
  have hK2 : -1074 < t → 4503599627370496 ≤ n * 2 ^ (p - t).toNat := by
   intro h
   calc (4503599627370496 : Nat) = 2 ^ 52 := by decide
    _ ≤ 2 ^ L * 2 ^ (p - t).toNat := by rw [← Nat.pow_add]; exact Nat.pow_le_pow_right (by decide) (by omega)
    _ ≤ _ := Nat.mul_le_mul_right _ hlo
  have hw : dbl.nearest s n p = dbl.word s ((t + 1074).toNat * 4503599627370496 + n * 2 ^ (p - t).toNat) := by
   unfold Format.nearest
   rw [if_neg (by omega), ← hL]
   have e1 : (dbl.fractionBits : Int) = 52 := rfl
   simp only [e1, d_lp, d_bi, d_ir]
   rw [← ht, show (t - p).toNat = 0 from by omega, show t - -1074 = t + 1074 from by omega, Nat.shiftLeft_eq]
   generalize n * 2 ^ (p - t).toNat = K at *
   have hc : Toward.even.cut s K 0 = K := by
    unfold Toward.cut
    simp only [Nat.zero_min, Nat.shiftLeft_zero, Nat.div_one, Nat.mod_one]
    simp
   rw [hc, Nat.min_eq_left (by omega)]
  generalize n * 2 ^ (p - t).toNat = K at *
  rw [hw, read_word s (by omega), show p - ((p - t).toNat : Int) = t from by omega]
  by_cases c : (t + 1074).toNat * 4503599627370496 + K < 4503599627370496
  ·rw [if_pos c]
   have : t = -1074 := by omega
   subst this
   rw [show (-1074 + 1074 : Int).toNat = 0 from rfl, Nat.zero_mul, Nat.zero_add]
  ·rw [if_neg c]
   have e1 : 4503599627370496 + ((t + 1074).toNat * 4503599627370496 + K) % 4503599627370496 = K := by omega
   have e2 : -1074 + ((((t + 1074).toNat * 4503599627370496 + K) / 4503599627370496 - 1 : Nat) : Int) = t := by omega
   rw [e1, e2]
def sgn (s : Bool) (c : Nat) : Int := if s = true then -(c : Int) else (c : Int)
theorem signed_eq (s : Bool) (c a : Nat) : Ieee.signed s c a = sgn s (c * 2 ^ a) := by
 unfold Ieee.signed sgn
 rw [Nat.shiftLeft_eq]
theorem sgn_mul (s : Bool) (c a : Nat) : sgn s (c * a) = sgn s c * (a : Int) := by
 unfold sgn
 cases s
 ·rw [if_neg (by decide), if_neg (by decide), Int.natCast_mul]
 ·rw [if_pos rfl, if_pos rfl, Int.natCast_mul, Int.neg_mul]
theorem whole_int (s : Bool) {c : Nat} (h : c ≤ 2147483648) : floatToIntVal .f64 (dbl.nearest s c 0) .i64 = some (sgn s c) := by
 obtain ⟨j, hj, _⟩ := read_nearest s (show c < 9007199254740992 by omega) (show (-1074 : Int) ≤ 0 by decide) (by decide)
 have hi : (Datum.number s (c * 2 ^ j) (0 - (j : Int))).toInt .zero = some (sgn s c) := by
  unfold Datum.toInt Datum.integral
  simp only
  rw [show (0 - (j : Int)).toNat = 0 from by omega, show (-(0 - (j : Int))).toNat = j from by omega, Nat.shiftLeft_zero, cut_zero, Nat.mul_div_cancel _ (Nat.two_pow_pos j), signed_eq, Nat.pow_zero, Nat.mul_one]
 unfold floatToIntVal FloatKind.decode
 rw [show FloatKind.f64.format.read (dbl.nearest s c 0) = _ from hj, hi]
 simp only
 rw [if_pos]
 unfold sgn
 constructor
 ·show (-9223372036854775808 : Int) ≤ _; split <;> omega
 ·show _ ≤ (9223372036854775807 : Int); split <;> omega
theorem div_of {A D q : Int} (hD : 0 < D) (h1 : D * q ≤ A) (h2 : A < D * q + D) : A / D = q ∧ A % D = A - D * q := by
 have e : A / D = q := by
  have e1 : A = (A - D * q) + D * q := by omega
  rw [e1, Int.add_mul_ediv_left _ _ (by omega), Int.ediv_eq_zero_of_lt (by omega) (by omega), Int.zero_add]
 refine ⟨e, ?_⟩
 have := Int.mul_ediv_add_emod A D
 rw [e] at this
 omega
theorem floor_sgn (s : Bool) (n : Nat) {D : Nat} (hD : 0 < D) : sgn s (n / D + (s && n % D != 0).toNat) = sgn s n / (D : Int) := by
 have h1 := Nat.div_add_mod n D
 have h2 := Nat.mod_lt n hD
 have h3 : (n : Int) = (D : Int) * ((n / D : Nat) : Int) + ((n % D : Nat) : Int) := by exact_mod_cast h1.symm
 generalize n / D = q at *
 generalize n % D = r at *
 cases s
 ·unfold sgn
  rw [if_neg (by decide), if_neg (by decide), Bool.false_and, show Bool.toNat false = 0 from rfl, Nat.add_zero]
  exact (div_of (by omega) (by omega) (by omega)).1.symm
 ·unfold sgn
  rw [if_pos rfl, if_pos rfl, Bool.true_and]
  by_cases c : r = 0
  ·subst c
   rw [show ((0 : Nat) != 0).toNat = 0 from rfl, Nat.add_zero]
   refine (div_of (by omega) ?_ ?_).1.symm <;> rw [Int.mul_neg] <;> omega
  ·rw [bne_iff_ne.2 c, show Bool.toNat true = 1 from rfl]
   refine (div_of (by omega) ?_ ?_).1.symm <;> rw [Int.mul_neg, Int.natCast_add, Int.mul_add] <;> omega
theorem even_sgn (s : Bool) {n d c : Nat} {A D q r : Int} (h : Near n d c) (hA : A = sgn s n) (hD : D = ((2 ^ d : Nat) : Int)) (h1 : A = D * q + r) (h2 : 0 ≤ r) (h3 : r < D) : sgn s c = if 2 * r < D then q else if 2 * r = D then (if q % 2 = 0 then q else q + 1) else q + 1 := by
 obtain ⟨a1, a2, a3, a4⟩ := h
 obtain ⟨P, hP⟩ : ∃ P, P = c * 2 ^ d := ⟨_, rfl⟩
 rw [← hP] at a1 a2 a3 a4
 have hz : sgn s P = D * sgn s c := by rw [hP, hD, sgn_mul, Int.mul_comm]
 obtain ⟨z, hz'⟩ : ∃ z, z = sgn s c := ⟨_, rfl⟩
 rw [← hz'] at hz ⊢
 obtain ⟨t, ht⟩ : ∃ t, t = z - q := ⟨_, rfl⟩
 have e1 : D * z = D * q + D * t := by rw [ht, Int.mul_sub]; omega
 have b1 : 2 * A ≤ 2 * (D * z) + D ∧ 2 * (D * z) ≤ 2 * A + D ∧ (2 * A = 2 * (D * z) + D → z % 2 = 0) ∧ (2 * (D * z) = 2 * A + D → z % 2 = 0) := by
  rw [← hz, hA, hD, hz']
  generalize 2 ^ d = G at *
  unfold sgn
  cases s
  ·simp only [Bool.false_eq_true, if_false]
   refine ⟨by omega, by omega, fun h => ?_, fun h => ?_⟩
   ·have := a3 (by omega); omega
   ·have := a4 (by omega); omega
  ·simp only [if_true]
   refine ⟨by omega, by omega, fun h => ?_, fun h => ?_⟩
   ·have := a4 (by omega); omega
   ·have := a3 (by omega); omega
 obtain ⟨b1, b2, b3, b4⟩ := b1
 have hD0 : 0 < D := by omega
 have t0 : 0 ≤ t := by
  refine Int.not_lt.1 fun hh => ?_
  have : D * t ≤ D * (-1) := Int.mul_le_mul_of_nonneg_left (by omega) (by omega)
  omega
 have t1 : t ≤ 1 := by
  refine Int.not_lt.1 fun hh => ?_
  have : D * 2 ≤ D * t := Int.mul_le_mul_of_nonneg_left (by omega) (by omega)
  omega
 rcases (show t = 0 ∨ t = 1 by omega) with h0 | h0
 ·rw [h0, Int.mul_zero] at e1
  have : z = q := by omega
  subst this
  by_cases c1 : 2 * r < D
  ·rw [if_pos c1]
  ·have : 2 * r = D := by omega
   rw [if_neg c1, if_pos this, if_pos (b3 (by omega))]
 ·rw [h0, Int.mul_one] at e1
  have : z = q + 1 := by omega
  subst this
  rw [if_neg (by omega)]
  by_cases c1 : 2 * r = D
  ·have := b4 (by omega)
   rw [if_pos c1, if_neg (by omega)]
  ·rw [if_neg c1]
end Go.Proofs.Ytmpnnpibpodmkaa.Pure
end
section
/- What is left over a whole number, beside a half. -/
namespace Go.Proofs.Ytmpnnpibpodmkaa.Pure
open Go.RowKit Go.Proofs.YtmpnnpibpodmkaaW.PrintWords
open Ieee (Format Datum Toward)
theorem word_parts {x : Nat} (h : rg x < 9218868437227405312) : ∃ m k : Nat, m < 9007199254740992 ∧ dbl.read x = .number (sg x) m (-1074 + (k : Int)) ∧ mg (rg x) = m * 2 ^ k := by
 unfold rg at h ⊢
 unfold Format.read
 simp only [d_sw, d_bi, d_ir, d_lp]
 by_cases c : x % 9223372036854775808 < 4503599627370496
 ·rw [if_pos c]
  refine ⟨x % 9223372036854775808, 0, by omega, rfl, ?_⟩
  unfold mg; rw [if_pos c]; simp
 ·rw [if_neg c, if_pos h]
  refine ⟨_, _, by omega, rfl, ?_⟩
  unfold mg; rw [if_neg c]
theorem sgn_not (s : Bool) (c : Nat) : sgn (!s) c = -sgn s c := by
 unfold sgn
 cases s <;> simp
theorem sgn_self (q : Int) : sgn (decide (q < 0)) q.natAbs = q := by
 unfold sgn
 by_cases c : q < 0
 ·rw [if_pos (decide_eq_true c)]; omega
 ·rw [if_neg (by rw [decide_eq_false c]; decide)]; omega
theorem float_int (q : Int) : floatOfInt .f64 q = dbl.nearest (decide (q < 0)) q.natAbs 0 := by
 unfold floatOfInt FloatKind.nearest FloatKind.encode Format.write
 rfl
abbrev HALF : Nat := 4602678819172646912
theorem half_eq : HALF = dbl.nearest false 1 (-1) := by decide
theorem half_read : dbl.read HALF = .number false 4503599627370496 (-53) := by decide
theorem ord_half {R : Nat} (h : R ≤ 9218868437227405312) : (R < HALF → dbl.order R HALF = some .lt) ∧ (R = HALF → dbl.order R HALF = some .eq) ∧ (HALF < R → dbl.order R HALF = some .gt) := by
 have sp : ∀ {c : Nat}, c ≤ 9218868437227405312 → sm c = (c : Int) ∧ rg c = c := by
  intro c h
  have hr : rg c = c := Nat.mod_eq_of_lt (by omega)
  have hs : sg c = false := by
   unfold sg
   rw [Nat.div_eq_of_lt (by omega)]; rfl
  refine ⟨?_, hr⟩
  unfold sm
  rw [hs, hr]; rfl
 have hh : HALF ≤ 9218868437227405312 := by decide
 rw [order_sm (by rw [(sp h).2]; exact h) (by rw [(sp hh).2]; exact hh), (sp h).1, (sp hh).1]
 refine ⟨fun c => by rw [cmp_lt (by omega)], fun c => ?_, fun c => by rw [cmp_gt (by omega)]⟩
 rw [c]
 show some (compareOfLessAndEq _ _) = _
 unfold compareOfLessAndEq
 rw [if_neg (by omega), if_pos rfl]
theorem near_le (m : Nat) (p : Int) : dbl.nearest false m p ≤ 9218868437227405312 := write_pos m p
theorem rest_order {x m k E : Nat} {s : Bool} {q r A D : Int} (hr : dbl.read x = .number s m (-1074 + (k : Int))) (hE : E = 1074) (hq : q.natAbs ≤ 2147483648) (hA : A = sgn s (m * 2 ^ (k - E))) (hD : D = ((2 ^ (E - k) : Nat) : Int)) (h1 : A = D * q + r) (h2 : 0 ≤ r) (h3 : r < D) :
  (2 * r = D → r < 9007199254740992 → dbl.order (fop .sub x (floatOfInt .f64 q)) HALF = some .eq) ∧
  (2 * r < D → r < 9007199254740992 → dbl.order (fop .sub x (floatOfInt .f64 q)) HALF = some .lt) ∧
  (D < 2 * r → r < 9007199254740992 → dbl.order (fop .sub x (floatOfInt .f64 q)) HALF = some .gt) ∧
  (D ≤ 2 * r → dbl.order (fop .sub x (floatOfInt .f64 q)) HALF = some .gt ∨ dbl.order (fop .sub x (floatOfInt .f64 q)) HALF = some .eq) := by
 obtain ⟨J, hJ, hJ2⟩ := read_nearest (decide (q < 0)) (show q.natAbs < 9007199254740992 by omega) (show (-1074 : Int) ≤ 0 by decide) (by decide)
 rw [← float_int] at hJ
 obtain ⟨base, hbase⟩ : ∃ b, b = min (-1074 + (k : Int)) (0 - (J : Int)) := ⟨_, rfl⟩
 obtain ⟨a, ha⟩ : ∃ a, a = ((-1074 + (k : Int)) - base).toNat := ⟨_, rfl⟩
 obtain ⟨b, hb⟩ : ∃ b, b = ((0 - (J : Int)) - base).toNat := ⟨_, rfl⟩
 obtain ⟨B, hB⟩ : ∃ B, B = (base + 1074).toNat := ⟨_, rfl⟩
 obtain ⟨g, hg⟩ : ∃ g, g = min k E := ⟨_, rfl⟩
 obtain ⟨T, hT⟩ : ∃ T, T = Ieee.signed s m a + Ieee.signed (!decide (q < 0)) (q.natAbs * 2 ^ J) b := ⟨_, rfl⟩
 have hR : fop .sub x (floatOfInt .f64 q) = dbl.nearest (if T = 0 then s && !decide (q < 0) else decide (T < 0)) T.natAbs base := by
  unfold fop floatBits Format.sub
  show (((dbl.read x).sum (dbl.read (floatOfInt .f64 q)).opposite).map dbl.write).getD NANB = _
  rw [hr, hJ, hT, ha, hb, hbase]; rfl
 have kE : m * 2 ^ k = m * 2 ^ (k - E) * 2 ^ g := by rw [Nat.mul_assoc, ← Nat.pow_add, show k - E + g = k from by omega]
 have eE : 2 ^ E = 2 ^ (E - k) * 2 ^ g := by rw [← Nat.pow_add, show E - k + g = E from by omega]
 have hTB : T * ((2 ^ B : Nat) : Int) = r * ((2 ^ g : Nat) : Int) := by
  rw [hT, Int.add_mul, signed_eq, signed_eq, ← sgn_mul, ← sgn_mul, Nat.mul_assoc m, ← Nat.pow_add, show a + B = k from by omega, Nat.mul_assoc q.natAbs, ← Nat.pow_add, Nat.mul_assoc q.natAbs, ← Nat.pow_add, show J + b + B = E from by omega,
   sgn_not, sgn_mul (decide (q < 0)), sgn_self, kE, eE, sgn_mul s, ← hA, Int.natCast_mul (2 ^ (E - k)), ← hD, h1]
  generalize ((2 ^ g : Nat) : Int) = G
  rw [Int.add_mul, ← Int.mul_assoc, Int.mul_comm q D]
  omega
 have hpB : (0 : Int) < ((2 ^ B : Nat) : Int) := by have := Nat.two_pow_pos B; omega
 have hpg : (0 : Int) < ((2 ^ g : Nat) : Int) := by have := Nat.two_pow_pos g; omega
 have hT0 : 0 ≤ T := by
  refine Int.not_lt.1 fun hh => ?_
  have h4 := Int.mul_neg_of_neg_of_pos hh hpB
  have h5 := Int.mul_nonneg h2 (Int.le_of_lt hpg)
  omega
 rcases Int.lt_or_eq_of_le h2 with c | c
 ·-- something is left over
  have hT1 : 0 < T := by
   rcases Int.lt_or_eq_of_le hT0 with h | h
   ·exact h
   ·rw [← h, Int.zero_mul] at hTB
    have := Int.mul_pos c hpg
    omega
  obtain ⟨t, ht⟩ : ∃ t : Nat, T = (t : Int) := ⟨T.toNat, by omega⟩
  obtain ⟨ρ, hρ⟩ : ∃ ρ : Nat, r = (ρ : Int) := ⟨r.toNat, by omega⟩
  have hR2 : fop .sub x (floatOfInt .f64 q) = dbl.nearest false t base := by
   rw [hR, if_neg (by omega), decide_eq_false (by omega), ht]; rfl
  have hN : t * 2 ^ B = ρ * 2 ^ g := by
   rw [ht, hρ] at hTB
   exact_mod_cast hTB
  have hbB : base = -1074 + (B : Int) := by omega
  have hDn : 2 ^ (E - k) * 2 ^ g = 2 * 2 ^ 1073 := by rw [← eE, hE]; decide +kernel
  have hL := near_le t base
  rw [hR2]
  have tp : 0 < t := by omega
  have pp : 0 < ρ := by omega
  have up : D ≤ 2 * r → HALF ≤ dbl.nearest false t base := by
   intro h
   rw [half_eq, hbB, show (-1 : Int) = -1074 + ((1073 : Nat) : Int) from by decide]
   refine nearest_mono (by decide) tp ?_
   rw [hN]
   have h4 : 2 ^ (E - k) ≤ 2 * ρ := by rw [hD, hρ] at h; omega
   have h5 := Nat.mul_le_mul_right (2 ^ g) h4
   rw [hDn] at h5
   rw [Nat.mul_assoc] at h5
   omega
  have ex : ρ < 9007199254740992 → ∃ j : Nat, dbl.read (dbl.nearest false t base) = .number false (ρ * 2 ^ j) (-1074 + (g : Int) - j) ∧ -1074 ≤ -1074 + (g : Int) - j := by
   intro h
   have he : dbl.nearest false t base = dbl.nearest false ρ (-1074 + (g : Int)) := by
    rw [hbB]
    exact Nat.le_antisymm (nearest_mono tp pp (Nat.le_of_eq hN)) (nearest_mono pp tp (Nat.le_of_eq hN.symm))
   rw [he]
   exact read_nearest false h (by omega) (by omega)
  have ne : ρ < 9007199254740992 → dbl.nearest false t base = HALF → 2 * r = D := by
   intro h hh
   obtain ⟨j, hj, hj2⟩ := ex h
   rw [hh, half_read] at hj
   injection hj with _ e1 e2
   obtain ⟨w, hw⟩ : ∃ w, w = 1021 := ⟨_, rfl⟩
   have e3 : g = w + j := by omega
   rw [e3, Nat.pow_add, ← Nat.mul_assoc] at hDn
   have e4 : 2 ^ (E - k) = 2 * ρ := by
    have h6 : 2 ^ (E - k) * 2 ^ w * 2 ^ j = 2 * ρ * 2 ^ w * 2 ^ j := by
     rw [hDn, Nat.mul_assoc (2 * ρ), Nat.mul_comm (2 ^ w) (2 ^ j), ← Nat.mul_assoc, Nat.mul_assoc 2 ρ, ← e1, hw]
     decide +kernel
    exact Nat.eq_of_mul_eq_mul_right (Nat.two_pow_pos w) (Nat.eq_of_mul_eq_mul_right (Nat.two_pow_pos j) h6)
   rw [hD, hρ, e4]
   exact_mod_cast rfl
  have dn : 2 * r ≤ D → dbl.nearest false t base ≤ HALF := by
   intro h
   rw [half_eq, hbB, show (-1 : Int) = -1074 + ((1073 : Nat) : Int) from by decide]
   refine nearest_mono tp (by decide) ?_
   rw [hN]
   have h4 : 2 * ρ ≤ 2 ^ (E - k) := by rw [hD, hρ] at h; omega
   have h5 := Nat.mul_le_mul_right (2 ^ g) h4
   rw [hDn] at h5
   rw [Nat.mul_assoc] at h5
   omega
  obtain ⟨o1, o2, o3⟩ := ord_half hL
  refine ⟨fun h h' => o2 ?_, fun h h' => o1 ?_, fun h h' => o3 ?_, fun h => ?_⟩
  ·have := up (by omega); have := dn (by omega); omega
  ·have := dn (by omega)
   rcases Nat.lt_or_eq_of_le this with h4 | h4
   ·exact h4
   ·have := ne (by omega) h4; omega
  ·have := up (by omega)
   rcases Nat.lt_or_eq_of_le this with h4 | h4
   ·exact h4
   ·have := ne (by omega) h4.symm; omega
  ·rcases Nat.lt_or_eq_of_le (up h) with h4 | h4
   ·exact .inl (o3 h4)
   ·exact .inr (o2 h4.symm)
 ·-- nothing is
  have hT1 : T = 0 := by
   rw [← c, Int.zero_mul] at hTB
   rcases Int.mul_eq_zero.1 hTB with h | h
   ·exact h
   ·omega
  have hl : dbl.order (fop .sub x (floatOfInt .f64 q)) HALF = some .lt := by
   rw [hR, hT1, if_pos rfl]
   have e0 : dbl.nearest (s && !decide (q < 0)) (Int.natAbs 0) base = dbl.word (s && !decide (q < 0)) 0 := by
    unfold Format.nearest
    exact if_pos rfl
   rw [e0]
   cases (s && !decide (q < 0)) <;> decide +kernel
  refine ⟨fun h => by omega, fun _ _ => hl, fun h => by omega, fun h => by omega⟩
end Go.Proofs.Ytmpnnpibpodmkaa.Pure
end
section
/- RatioRounds: any number as a whole one. -/
namespace Go.Proofs.Ytmpnnpibpodmkaa.Pure
open Go.RowKit Go.Proofs.YtmpnnpibpodmkaaW.PrintWords Go.Proofs.Ytmpnnpibpodmkaa.F
open Ieee (Format Datum Toward)
theorem cmp_same (a : Int) : compare a a = .eq := by
 show compareOfLessAndEq _ _ = _
 unfold compareOfLessAndEq
 rw [if_neg (by omega), if_pos rfl]
theorem tmod_two (q : Int) : Int.tmod q 2 = 0 ↔ q % 2 = 0 := (Int.dvd_iff_tmod_eq_zero).symm.trans Int.dvd_iff_emod_eq_zero
theorem guards {x : Nat} (hn : isNan x = false) : rg x ≤ 9218868437227405312 ∧
  FloatKind.f64.format.order x 4746794007244308480 = some (compare (sm x) 4746794007244308480) ∧ FloatKind.f64.format.order x 13970166044103278592 = some (compare (sm x) (-4746794007248502784)) := by
 have h : rg x ≤ 9218868437227405312 := by have := nan_rg x; rw [hn] at this; have := of_decide_eq_false this.symm; omega
 exact ⟨h, order_sm h (by decide), order_sm h (by decide)⟩
theorem mid {x : Nat} (hn : isNan x = false) (g1 : sm x < 4746794007244308480) (g2 : -4746794007248502784 < sm x) :
  ∃ (m k : Nat) (q r z : Int), dbl.read x = .number (sg x) m (-1074 + (k : Int)) ∧ sgn (sg x) (m * 2 ^ (k - 1074)) = ((2 ^ (1074 - k) : Nat) : Int) * q + r ∧ 0 ≤ r ∧ r < ((2 ^ (1074 - k) : Nat) : Int) ∧ (r = 0 → z = q) ∧
  ratio_Round.f x = some z ∧ r2_Round.f x = some z := by
 obtain ⟨_, o1, o2⟩ := guards hn
 rw [cmp_lt g1] at o1
 rw [cmp_gt g2] at o2
 have hrg : rg x < 4746794007248502784 := by
  revert g1 g2
  unfold sm
  cases sg x
  ·rw [if_neg (by decide)]; intro g1 g2; omega
  ·rw [if_pos rfl]; intro g1 g2; omega
 obtain ⟨m, k, hm, hr, hv⟩ := word_parts (x := x) (by omega)
 have hM : mg (rg x) < 2147483648 * 2 ^ 1074 := by
  have : mg 4746794007248502784 = 2147483648 * 2 ^ 1074 := by decide +kernel
  rw [← this]; exact mg_mono hrg
 obtain ⟨E, hE⟩ : ∃ E, E = 1074 := ⟨_, rfl⟩
 rw [← hE] at hM
 obtain ⟨g, hg⟩ : ∃ g, g = min k E := ⟨_, rfl⟩
 obtain ⟨s, hs⟩ : ∃ s, s = sg x := ⟨_, rfl⟩
 rw [← hs] at hr
 have kE : m * 2 ^ k = m * 2 ^ (k - E) * 2 ^ g := by rw [Nat.mul_assoc, ← Nat.pow_add, show k - E + g = k from by omega]
 have eE : 2 ^ E = 2 ^ (E - k) * 2 ^ g := by rw [← Nat.pow_add, show E - k + g = E from by omega]
 have hnD : m * 2 ^ (k - E) < 2147483648 * 2 ^ (E - k) := by
  rw [hv, kE, eE, ← Nat.mul_assoc] at hM
  exact Nat.lt_of_mul_lt_mul_right hM
 have hp : 0 < 2 ^ (E - k) := Nat.two_pow_pos _
 obtain ⟨n, hn'⟩ : ∃ n, n = m * 2 ^ (k - E) := ⟨_, rfl⟩
 obtain ⟨d, hd⟩ : ∃ d, d = E - k := ⟨_, rfl⟩
 rw [← hn', ← hd] at hnD
 rw [← hd] at hp
 obtain ⟨A, hA⟩ : ∃ A, A = sgn s n := ⟨_, rfl⟩
 obtain ⟨D, hD⟩ : ∃ D : Int, D = ((2 ^ d : Nat) : Int) := ⟨_, rfl⟩
 obtain ⟨q, hq⟩ : ∃ q, q = A / D := ⟨_, rfl⟩
 obtain ⟨r, hr'⟩ : ∃ r, r = A % D := ⟨_, rfl⟩
 have hD0 : 0 < D := by rw [hD]; omega
 have h1 : A = D * q + r := by rw [hq, hr']; exact (Int.mul_ediv_add_emod _ _).symm
 have h2 : 0 ≤ r := by rw [hr']; exact Int.emod_nonneg _ (by omega)
 have h3 : r < D := by rw [hr']; exact Int.emod_lt_of_pos _ hD0
 have hAb : -(2147483648 * D) < A ∧ A < 2147483648 * D := by
  rw [hA, hD]
  unfold sgn
  split <;> constructor <;> omega
 have q1 : -2147483648 ≤ q := by
  refine Int.not_lt.1 fun hh => ?_
  have : D * q ≤ D * (-2147483649) := Int.mul_le_mul_of_nonneg_left (by omega) (by omega)
  omega
 have q2 : q ≤ 2147483647 := by
  refine Int.not_lt.1 fun hh => ?_
  have : D * 2147483648 ≤ D * q := Int.mul_le_mul_of_nonneg_left (by omega) (by omega)
  omega
 have e1 : (-1074 + (k : Int)).toNat = k - E := by omega
 have e2 : (-(-1074 + (k : Int))).toNat = d := by omega
 have hflo : floatToIntVal .f64 (flo x) .i64 = some q := by
  have : flo x = dbl.nearest s (Toward.down.cut s n d) 0 := by
   unfold flo FloatKind.encode FloatKind.decode
   rw [show FloatKind.f64.format.read x = _ from hr]
   show dbl.nearest s (Toward.down.cut s (m <<< (-1074 + (k : Int)).toNat) (-(-1074 + (k : Int))).toNat) 0 = _
   rw [e1, e2, Nat.shiftLeft_eq, ← hn']
  rw [this, cut_down, whole_int s, floor_sgn s n hp, ← hA, ← hD, ← hq]
  have := (Nat.div_lt_iff_lt_mul hp).2 hnD
  have b1 : (s && n % 2 ^ d != 0).toNat ≤ 1 := Bool.toNat_le _
  omega
 have hev := cut_near s n d
 obtain ⟨c, hc⟩ : ∃ c, c = Toward.even.cut s n d := ⟨_, rfl⟩
 rw [← hc] at hev
 have hcb : c ≤ 2147483648 := near_mono hev (near_whole 2147483648) (by rw [Nat.pow_zero, Nat.mul_one]; omega)
 have hrte : floatToIntVal .f64 (rte x) .i64 = some (sgn s c) := by
  have : rte x = dbl.nearest s c 0 := by
   unfold rte FloatKind.encode FloatKind.decode
   rw [show FloatKind.f64.format.read x = _ from hr]
   show dbl.nearest s (Toward.even.cut s (m <<< (-1074 + (k : Int)).toNat) (-(-1074 + (k : Int))).toNat) 0 = _
   rw [e1, e2, Nat.shiftLeft_eq, ← hn', ← hc]
  rw [this]
  exact whole_int s hcb
 have hz := even_sgn s hev hA hD h1 h2 h3
 obtain ⟨z, hz'⟩ : ∃ z, z = sgn s c := ⟨_, rfl⟩
 rw [← hz'] at hz hrte
 have ho := rest_order hr hE (show q.natAbs ≤ 2147483648 by omega) (by rw [hA, hn']) (by rw [hD, hd]) h1 h2 h3
 have hsp : r < 9007199254740992 ∨ (q = -1 ∧ D < 2 * r) := by
  rcases Nat.lt_or_ge k E with hk | hk
  ·have en : n = m := by rw [hn', show k - E = 0 from by omega, Nat.pow_zero, Nat.mul_one]
   cases s with
   | false =>
    left
    have : A = (m : Int) := by rw [hA, en]; rfl
    have : 0 ≤ q := by
     refine Int.not_lt.1 fun hh => ?_
     have : D * q ≤ D * (-1) := Int.mul_le_mul_of_nonneg_left (by omega) (by omega)
     omega
    have : 0 ≤ D * q := Int.mul_nonneg (by omega) this
    omega
   | true =>
    have hAm : A = -(m : Int) := by rw [hA, en]; rfl
    rcases Nat.lt_or_ge d 54 with hd4 | hd4
    ·left
     have : 2 ^ d ≤ 2 ^ 53 := Nat.pow_le_pow_right (by decide) (by omega)
     have : (2 : Nat) ^ 53 = 9007199254740992 := by decide
     omega
    ·have h54 : 2 ^ 54 ≤ 2 ^ d := Nat.pow_le_pow_right (by decide) hd4
     have : (2 : Nat) ^ 54 = 18014398509481984 := by decide
     rcases Nat.eq_zero_or_pos m with hm0 | hm0
     ·left
      have : r = 0 := by rw [hr', hAm, hm0]; rfl
      omega
     ·right
      have := div_of (A := A) (D := D) (q := -1) hD0 (by omega) (by omega)
      rw [← hq, ← hr'] at this
      refine ⟨this.1, ?_⟩
      omega
  ·left
   have : d = 0 := by omega
   rw [this] at hD
   have : D = 1 := hD
   omega
 refine ⟨m, k, q, r, z, by rw [hr, hs], by rw [← hE, ← hd, ← hD, ← hn', ← hs, ← hA]; exact h1, h2, by rw [← hE, ← hd, ← hD]; exact h3, fun h => by rw [hz, if_pos (by omega)], ?_, ?_⟩
 ·unfold ratio_Round.f
  rw [if_neg (by rw [hn]; decide), o1, if_neg (by decide), o2, if_neg (by decide)]
  exact hrte
 ·unfold r2_Round.f
  rw [if_neg (by rw [hn]; decide), o1, if_neg (by decide), o2, if_neg (by decide), hflo]
  show (if dbl.order (fop .sub x (floatOfInt .f64 q)) HALF = some .gt then some (wrap64 (q + 1)) else if dbl.order (fop .sub x (floatOfInt .f64 q)) HALF = some .eq then (if Int.tmod q 2 = 0 then some q else some (wrap64 (q + 1))) else some q) = some z
  have hw : wrap64 (q + 1) = q + 1 := w64 (by omega) (by omega)
  rw [hw]
  obtain ⟨p1, p2, p3, p4⟩ := ho
  rcases Int.lt_trichotomy (2 * r) D with c1 | c1 | c1
  ·rw [p2 c1 (by omega), if_neg (by decide), if_neg (by decide), hz, if_pos c1]
  ·have hzz : z = if q % 2 = 0 then q else q + 1 := by rw [hz, if_neg (by omega), if_pos c1]
   rw [p1 c1 (by omega), if_neg (by decide), if_pos rfl, hzz]
   by_cases c2 : q % 2 = 0
   ·rw [if_pos ((tmod_two q).2 c2), if_pos c2]
   ·rw [if_neg (fun h => c2 ((tmod_two q).1 h)), if_neg c2]
  ·have hzz : z = q + 1 := by rw [hz, if_neg (by omega), if_neg (by omega)]
   rw [hzz]
   rcases hsp with c2 | ⟨c2, _⟩
   ·rw [p3 c1 c2, if_pos rfl]
   ·rcases p4 (by omega) with c3 | c3
    ·rw [c3, if_pos rfl]
    ·rw [c3, if_neg (by decide), if_pos rfl, c2, if_neg (by decide)]
theorem rr_all (x : Nat) : RR x := by
 cases hn : isNan x with
 | true => exact ⟨0, by unfold ratio_Round.f; rw [if_pos hn], by unfold r2_Round.f; rw [if_pos hn]⟩
 | false =>
  obtain ⟨_, o1, o2⟩ := guards hn
  by_cases c1 : sm x < 4746794007244308480
  ·by_cases c2 : -4746794007248502784 < sm x
   ·obtain ⟨_, _, _, _, z, _, _, _, _, _, h1, h2⟩ := mid hn c1 c2
    exact ⟨z, h1, h2⟩
   ·rw [cmp_lt c1] at o1
    have hc : (FloatKind.f64.format.order x 13970166044103278592 == some .lt || FloatKind.f64.format.order x 13970166044103278592 == some .eq) = true := by
     rw [o2]
     rcases Int.lt_or_eq_of_le (show sm x ≤ -4746794007248502784 by omega) with h | h
     ·rw [cmp_lt h]; rfl
     ·rw [h, cmp_same]; rfl
    exact ⟨-2147483648, by unfold ratio_Round.f; rw [if_neg (by rw [hn]; decide), o1, if_neg (by decide), if_pos hc], by unfold r2_Round.f; rw [if_neg (by rw [hn]; decide), o1, if_neg (by decide), if_pos hc]⟩
  ·have hc : (FloatKind.f64.format.order x 4746794007244308480 == some .gt || FloatKind.f64.format.order x 4746794007244308480 == some .eq) = true := by
    rw [o1]
    rcases Int.lt_or_eq_of_le (show 4746794007244308480 ≤ sm x by omega) with h | h
    ·rw [cmp_gt h]; rfl
    ·rw [← h, cmp_same]; rfl
   exact ⟨2147483647, by unfold ratio_Round.f; rw [if_neg (by rw [hn]; decide), if_pos hc], by unfold r2_Round.f; rw [if_neg (by rw [hn]; decide), if_pos hc]⟩
theorem float_read {q : Int} (hq : q.natAbs ≤ 2147483648) : ∃ j : Nat, j ≤ 1074 ∧ dbl.read (floatOfInt .f64 q) = .number (decide (q < 0)) (q.natAbs * 2 ^ j) (0 - (j : Int)) := by
 obtain ⟨j, hj, hj2⟩ := read_nearest (decide (q < 0)) (show q.natAbs < 9007199254740992 by omega) (show (-1074 : Int) ≤ 0 by decide) (by decide)
 rw [← float_int] at hj
 exact ⟨j, by omega, hj⟩
theorem whole_same {n : Int} (h1 : -2147483648 ≤ n) (h2 : n ≤ 2147483647) : ratio_Round.f (floatOfInt .f64 n) = some n := by
 by_cases c1 : n = 2147483647
 ·subst c1; decide +kernel
 by_cases c2 : n = -2147483648
 ·subst c2; decide +kernel
 obtain ⟨j, hj, hr⟩ := float_read (show n.natAbs ≤ 2147483648 by omega)
 generalize floatOfInt .f64 n = x at *
 have hn : isNan x = false := by
  unfold isNan FloatKind.decode
  rw [show FloatKind.f64.format.read x = _ from hr]; rfl
 obtain ⟨hrg, _, _⟩ := guards hn
 have hlt : rg x < 9218868437227405312 := by
  rcases Nat.lt_or_eq_of_le hrg with h | h
  ·exact h
  ·have := read_infy h
   rw [this] at hr; cases hr
 obtain ⟨m, k, hm, hr2, hv⟩ := word_parts hlt
 have he := hr2
 rw [hr] at he
 obtain ⟨e1, e2, e3⟩ := Datum.number.inj he
 have ek : k = 1074 - j := by omega
 obtain ⟨E, hE⟩ : ∃ E, E = 1074 := ⟨_, rfl⟩
 have hM : mg (rg x) = n.natAbs * 2 ^ E := by
  rw [hv, ← e2, Nat.mul_assoc, ← Nat.pow_add, show j + k = E from by omega]
 have M1 : mg 4746794007244308480 = 2147483647 * 2 ^ E := by rw [hE]; decide +kernel
 have M2 : mg 4746794007248502784 = 2147483648 * 2 ^ E := by rw [hE]; decide +kernel
 have hpE := Nat.two_pow_pos E
 have g1 : sm x < 4746794007244308480 := by
  unfold sm
  rw [← e1]
  by_cases c : n < 0
  ·rw [if_pos (decide_eq_true c)]; omega
  ·rw [if_neg (by rw [decide_eq_false c]; decide)]
   have : rg x < 4746794007244308480 := by
    rw [← mg_lt, hM, M1]
    exact Nat.mul_lt_mul_of_pos_right (by omega) hpE
   omega
 have g2 : -4746794007248502784 < sm x := by
  have : rg x < 4746794007248502784 := by
   rw [← mg_lt, hM, M2]
   exact Nat.mul_lt_mul_of_pos_right (by omega) hpE
  unfold sm
  split <;> omega
 obtain ⟨m', k', q, r, z, hr3, hA, r1, r2, hz, hf, _⟩ := mid hn g1 g2
 rw [hf]
 rw [hr2] at hr3
 obtain ⟨_, f2, f3⟩ := Datum.number.inj hr3
 have fk : k' = k := by omega
 rw [← f2, fk, ← e2, ← e1, show k - 1074 = 0 from by omega, Nat.pow_zero, Nat.mul_one, show 1074 - k = j from by omega, sgn_mul, sgn_self] at hA
 rw [fk, show 1074 - k = j from by omega] at r2
 have hpj := Nat.two_pow_pos j
 generalize 2 ^ j = G at *
 have hd := div_of (A := n * (G : Int)) (D := (G : Int)) (q := n) (by omega) (by rw [Int.mul_comm]; omega) (by rw [Int.mul_comm]; omega)
 have hd2 := div_of (A := n * (G : Int)) (D := (G : Int)) (q := q) (by omega) (by omega) (by omega)
 have hqn : q = n := hd2.1.symm.trans hd.1
 have hr0 : r = 0 := by
  rw [hqn, Int.mul_comm] at hA
  omega
 rw [hz hr0, hqn]
theorem RatioRounds : stanzalaw12_RatioRounds.Pure := by
 intro a n ha hn
 have hn' : -2147483648 ≤ n ∧ n ≤ 2147483647 := wfi32.1 hn
 refine Ev.rounds ?_
 unfold stanzalaw12_RatioRounds.f
 refine ev_bind awake12 (ev_pos rfl (@ev_pos _ _ (Classical.propDecidable _) _ _ _ ?_ (Ev.now _)))
 obtain ⟨j, hj, hr⟩ := float_read (show n.natAbs ≤ 2147483648 by omega)
 have hB : ∃ tB, floatBits .add .f64 (floatOfInt .f64 n) 4602678819172646912 = some tB := by
  show ∃ tB, ((dbl.read (floatOfInt .f64 n)).sum (dbl.read 4602678819172646912)).map dbl.write = some tB
  rw [hr, show dbl.read 4602678819172646912 = .number false 4503599627370496 (-53) from by decide]
  exact ⟨_, rfl⟩
 have hC : ∃ tC, floatBits .sub .f64 (floatOfInt .f64 n) 4598175219545276416 = some tC := by
  show ∃ tC, ((dbl.read (floatOfInt .f64 n)).sum (dbl.read 4598175219545276416).opposite).map dbl.write = some tC
  rw [hr, show dbl.read 4598175219545276416 = .number false 4503599627370496 (-54) from by decide]
  exact ⟨_, rfl⟩
 obtain ⟨tB, hB⟩ := hB
 obtain ⟨tC, hC⟩ := hC
 exact ⟨fun x _ => rr_all x, rr_all a, rr_all _, w64 (by omega) (by omega), whole_same hn'.1 hn'.2, tB, tC, hB, hC, rr_all _, rr_all _⟩
end Go.Proofs.Ytmpnnpibpodmkaa.Pure
end
