/- Plain proofs: what the printed functions compute. -/
import Derived.Test.YtmpnnpibpodmkaaXRatioWhole0
import Derived.WalkKit
import Derived.Test.YtmpnnpibpodmkaaVRatioWhole0
section
/- Helpers of the plain proofs: eventual values (Ev), wrapped numbers, lists. -/
namespace Go.Proofs.Ytmpnnpibpodmkaa.Pure
open Go.RowKit Go.Proofs.YtmpnnpibpodmkaaW.PrintWords
theorem ev_pos {α : Type} {c : Prop} [Decidable c] {a b : Nat → Option α} {r : α} (h : c) (H : Ev a r) : Ev (fun k => if c then a k else b k) r := by simpa [h] using H
theorem ev_neg {α : Type} {c : Prop} [Decidable c] {a b : Nat → Option α} {r : α} (h : ¬ c) (H : Ev b r) : Ev (fun k => if c then a k else b k) r := by simpa [h] using H
theorem ev_ret {α : Type} {x r : α} (h : x = r) : Ev (fun _ => some x) r := by subst h; exact Ev.now _
theorem ev_bind {α β : Type} {g : Nat → Option α} {f : Nat → α → Option β} {a : α} {r : β} (h : Ev g a) (k : Ev (fun n => f n a) r) : Ev (fun n => (g n).bind (f n)) r := Ev.bind h k
theorem ev_bind' {α β : Type} {o : Option α} {f : Nat → α → Option β} {a : α} {r : β} (h : o = some a) (k : Ev (fun n => f n a) r) : Ev (fun n => o.bind (f n)) r := by subst h; exact k
theorem ev_let {α β : Type} {a : α} {f : Nat → α → Option β} {r : β} (k : Ev (fun n => f n a) r) : Ev (fun n => (some a).bind (f n)) r := k
theorem w64 {x : Int} (h1 : -9223372036854775808 ≤ x) (h2 : x ≤ 9223372036854775807) : wrap64 x = x := by unfold wrap64; omega
end Go.Proofs.Ytmpnnpibpodmkaa.Pure
end
section
/- How bad a line is, is always told: a number from 0 to 10000. -/
namespace Go.Proofs.Ytmpnnpibpodmkaa.Pure
open Go.RowKit Go.Proofs.YtmpnnpibpodmkaaW.PrintWords Go.Proofs.Ytmpnnpibpodmkaa.F
open Ieee (Format Datum)
abbrev dbl : Format := FloatKind.f64.format
theorem d_sw : dbl.signWeight = 9223372036854775808 := by decide
theorem d_bi : dbl.binade = 4503599627370496 := by decide
theorem d_ir : dbl.infRung = 9218868437227405312 := by decide
end Go.Proofs.Ytmpnnpibpodmkaa.Pure
end
section
/- How floats stand to each other, by their bits. -/
namespace Go.Proofs.Ytmpnnpibpodmkaa.Pure
open Go.RowKit Go.Proofs.YtmpnnpibpodmkaaW.PrintWords
open Ieee (Format Datum)
def rg (x : Nat) : Nat := x % 9223372036854775808
def sg (x : Nat) : Bool := x / 9223372036854775808 % 2 == 1
def sm (x : Nat) : Int := if sg x = true then -(rg x : Int) else (rg x : Int)
def mg (r : Nat) : Nat := if r < 4503599627370496 then r else (4503599627370496 + r % 4503599627370496) * 2 ^ (r / 4503599627370496 - 1)
theorem mg_ge {r : Nat} (h : ¬ r < 4503599627370496) : 4503599627370496 * 2 ^ (r / 4503599627370496 - 1) ≤ mg r ∧ mg r < 4503599627370496 * 2 ^ (r / 4503599627370496) := by
 unfold mg
 rw [if_neg h]
 refine ⟨Nat.mul_le_mul_right _ (by omega), ?_⟩
 have h1 : 2 ^ (r / 4503599627370496) = 2 ^ (r / 4503599627370496 - 1) * 2 := by
  rw [← Nat.pow_succ]; congr 1; omega
 rw [h1, ← Nat.mul_assoc, Nat.mul_comm 4503599627370496, Nat.mul_assoc, Nat.mul_comm (2 ^ _)]
 exact Nat.mul_lt_mul_of_pos_right (by omega) (Nat.two_pow_pos _)
theorem mg_mono {r q : Nat} (h : r < q) : mg r < mg q := by
 by_cases c1 : r < 4503599627370496
 ·by_cases c2 : q < 4503599627370496
  ·unfold mg; rw [if_pos c1, if_pos c2]; exact h
  ·have h2 := (mg_ge c2).1
   have h3 : 4503599627370496 * 1 ≤ 4503599627370496 * 2 ^ (q / 4503599627370496 - 1) := Nat.mul_le_mul_left _ (Nat.two_pow_pos _)
   have h4 : mg r = r := by unfold mg; rw [if_pos c1]
   omega
 ·have c2 : ¬ q < 4503599627370496 := by omega
  rcases Nat.lt_or_ge (r / 4503599627370496) (q / 4503599627370496) with h1 | h1
  ·have h2 := (mg_ge c1).2
   have h3 := (mg_ge c2).1
   have h4 : 4503599627370496 * 2 ^ (r / 4503599627370496) ≤ 4503599627370496 * 2 ^ (q / 4503599627370496 - 1) := Nat.mul_le_mul_left _ (Nat.pow_le_pow_right (by decide) (by omega))
   omega
  ·have he : r / 4503599627370496 = q / 4503599627370496 := by omega
   unfold mg
   rw [if_neg c1, if_neg c2, he]
   exact Nat.mul_lt_mul_of_pos_right (by omega) (Nat.two_pow_pos _)
theorem mg_lt {r q : Nat} : mg r < mg q ↔ r < q := by
 refine ⟨fun h => ?_, mg_mono⟩
 rcases Nat.lt_trichotomy r q with h1 | h1 | h1
 ·exact h1
 ·rw [h1] at h; omega
 ·have := mg_mono h1; omega
theorem d_lp : dbl.leastPlace = -1074 := by decide
theorem read_fin {x : Nat} (h : rg x < 9218868437227405312) : ∃ (m : Nat) (k : Nat), dbl.read x = .number (sg x) m (-1074 + (k : Int)) ∧ mg (rg x) = m * 2 ^ k := by
 unfold rg at h ⊢
 unfold Format.read
 simp only [d_sw, d_bi, d_ir, d_lp]
 by_cases c : x % 9223372036854775808 < 4503599627370496
 ·rw [if_pos c]
  refine ⟨x % 9223372036854775808, 0, rfl, ?_⟩
  unfold mg; rw [if_pos c]; simp
 ·rw [if_neg c, if_pos h]
  refine ⟨_, _, rfl, ?_⟩
  unfold mg; rw [if_neg c]
theorem read_infy {x : Nat} (h : rg x = 9218868437227405312) : dbl.read x = .infinity (sg x) := by
 unfold rg at h
 unfold Format.read
 simp only [d_sw, d_bi, d_ir]
 rw [if_neg (by omega), if_neg (by omega), if_pos h]; rfl
theorem nan_rg (x : Nat) : isNan x = decide (9218868437227405312 < rg x) := by
 rcases Nat.lt_trichotomy (rg x) 9218868437227405312 with h | h | h
 ·obtain ⟨m, k, h1, _⟩ := read_fin h
  unfold isNan FloatKind.decode
  rw [show Format.read FloatKind.f64.format x = dbl.read x from rfl, h1, decide_eq_false (by omega)]; rfl
 ·have h1 := read_infy h
  unfold isNan FloatKind.decode
  rw [show Format.read FloatKind.f64.format x = dbl.read x from rfl, h1, decide_eq_false (by omega)]; rfl
 ·rw [decide_eq_true h]
  exact nan_of_rung h
theorem cmp_iff {a b c d : Int} (h1 : a < b ↔ c < d) (h2 : a = b ↔ c = d) : compare a b = compare c d := by
 show compareOfLessAndEq a b = compareOfLessAndEq c d
 unfold compareOfLessAndEq
 by_cases h : a < b
 ·rw [if_pos h, if_pos (h1.1 h)]
 ·rw [if_neg h, if_neg (fun hh => h (h1.2 hh))]
  by_cases h' : a = b
  ·rw [if_pos h', if_pos (h2.1 h')]
  ·rw [if_neg h', if_neg (fun hh => h' (h2.2 hh))]
theorem cmp_lt {a b : Int} (h : a < b) : compare a b = .lt := by
 show compareOfLessAndEq a b = .lt
 unfold compareOfLessAndEq
 rw [if_pos h]
theorem cmp_gt {a b : Int} (h : b < a) : compare a b = .gt := by
 show compareOfLessAndEq a b = .gt
 unfold compareOfLessAndEq
 rw [if_neg (by omega), if_neg (by omega)]
theorem order_sm {x y : Nat} (hx : rg x ≤ 9218868437227405312) (hy : rg y ≤ 9218868437227405312) : dbl.order x y = some (compare (sm x) (sm y)) := by
 unfold Format.order
 rcases Nat.lt_or_eq_of_le hx with cx | cx <;> rcases Nat.lt_or_eq_of_le hy with cy | cy
 ·obtain ⟨m, k, e1, v1⟩ := read_fin cx
  obtain ⟨n, l, e2, v2⟩ := read_fin cy
  rw [e1, e2]
  show some (compare (Ieee.signed _ m _) (Ieee.signed _ n _)) = _
  congr 1
  obtain ⟨c, a, b, hk, hl, ha, hb⟩ : ∃ c a b : Nat, k = c + a ∧ l = c + b ∧ ((-1074 + (k : Int)) - min (-1074 + (k : Int)) (-1074 + (l : Int))).toNat = a ∧ ((-1074 + (l : Int)) - min (-1074 + (k : Int)) (-1074 + (l : Int))).toNat = b := by
   refine ⟨min k l, k - min k l, l - min k l, by omega, by omega, by omega, by omega⟩
  rw [ha, hb]
  have w1 : mg (rg x) = (m <<< a) * 2 ^ c := by rw [v1, hk, Nat.shiftLeft_eq, Nat.add_comm c a, Nat.pow_add, Nat.mul_assoc]
  have w2 : mg (rg y) = (n <<< b) * 2 ^ c := by rw [v2, hl, Nat.shiftLeft_eq, Nat.add_comm c b, Nat.pow_add, Nat.mul_assoc]
  have hp : 0 < 2 ^ c := Nat.two_pow_pos c
  have i1 : m <<< a < n <<< b ↔ rg x < rg y := by
   exact (Nat.mul_lt_mul_right hp).symm.trans (by rw [← w1, ← w2]; exact mg_lt)
  have i2 : n <<< b < m <<< a ↔ rg y < rg x := by
   exact (Nat.mul_lt_mul_right hp).symm.trans (by rw [← w1, ← w2]; exact mg_lt)
  have z1 : 0 < m <<< a ↔ 0 < rg x := by
   have : mg 0 < mg (rg x) ↔ 0 < rg x := mg_lt
   rw [w1, show mg 0 = 0 from rfl] at this
   rw [← this]
   exact ⟨fun h => Nat.mul_pos h hp, fun h => Nat.pos_of_mul_pos_right h⟩
  have z2 : 0 < n <<< b ↔ 0 < rg y := by
   have : mg 0 < mg (rg y) ↔ 0 < rg y := mg_lt
   rw [w2, show mg 0 = 0 from rfl] at this
   rw [← this]
   exact ⟨fun h => Nat.mul_pos h hp, fun h => Nat.pos_of_mul_pos_right h⟩
  unfold Ieee.signed sm
  generalize m <<< a = M at *
  generalize n <<< b = N at *
  refine cmp_iff ?_ ?_ <;> (cases sg x <;> cases sg y <;> simp <;> omega)
 ·obtain ⟨m, k, e1, _⟩ := read_fin cx
  rw [e1, read_infy cy]
  show some (if sg y = true then Ordering.gt else .lt) = _
  congr 1
  unfold sm
  cases sg x <;> cases sg y <;> simp only [if_true, if_false, Bool.false_eq_true]
  ·exact (cmp_lt (by omega)).symm
  ·exact (cmp_gt (by omega)).symm
  ·exact (cmp_lt (by omega)).symm
  ·exact (cmp_gt (by omega)).symm
 ·obtain ⟨n, l, e2, _⟩ := read_fin cy
  rw [e2, read_infy cx]
  show some (if sg x = true then Ordering.lt else .gt) = _
  congr 1
  unfold sm
  cases sg x <;> cases sg y <;> simp only [if_true, if_false, Bool.false_eq_true]
  ·exact (cmp_gt (by omega)).symm
  ·exact (cmp_gt (by omega)).symm
  ·exact (cmp_lt (by omega)).symm
  ·exact (cmp_lt (by omega)).symm
 ·rw [read_infy cx, read_infy cy]
  show some (compare (sg y).toNat (sg x).toNat) = _
  congr 1
  unfold sm
  rw [cx, cy]
  cases sg x <;> cases sg y <;> decide
end Go.Proofs.Ytmpnnpibpodmkaa.Pure
end
section
/- ratio.Order and the document's come to one order; layer 12's Awake; the edges. -/
namespace Go.Proofs.Ytmpnnpibpodmkaa.Pure
open Go.RowKit Go.Proofs.YtmpnnpibpodmkaaW.PrintWords Go.Proofs.Ytmpnnpibpodmkaa.F
def rk (x : Nat) : Int := if sg x = true then -(rg x : Int) - 1 else (rg x : Int)
def ord (x y : Nat) : Int := if isNan x = true then (if isNan y = true then 0 else -1) else if isNan y = true then 1 else if rk x < rk y then -1 else if rk x > rk y then 1 else 0
theorem rk_lt {x y : Nat} (h : sm x < sm y) : rk x < rk y := by
 revert h
 unfold sm rk
 cases sg x <;> cases sg y <;> simp only [if_true, if_false, Bool.false_eq_true] <;> intro h <;> omega
theorem word_split {x : Nat} (h : x < 18446744073709551616) : x = (if sg x = true then 9223372036854775808 else 0) + rg x ∧ rg x < 9223372036854775808 := by
 unfold sg rg
 rcases Nat.lt_or_ge x 9223372036854775808 with h1 | h1
 ·have e : x / 9223372036854775808 = 0 := by omega
  rw [e]
  refine ⟨?_, by omega⟩
  rw [if_neg (by decide)]; omega
 ·have e : x / 9223372036854775808 = 1 := by omega
  rw [e]
  refine ⟨?_, by omega⟩
  rw [if_pos (by decide)]; omega
theorem sign_eq {x : Nat} (h : x < 18446744073709551616) : decide (wrap64 (x : Int) < 0) = sg x := by
 obtain ⟨h1, h2⟩ := word_split h
 cases hs : sg x
 ·rw [hs, if_neg (by decide)] at h1
  rw [w64 (by omega) (by omega)]
  exact decide_eq_false (by omega)
 ·rw [hs, if_pos rfl] at h1
  refine decide_eq_true ?_
  unfold wrap64; omega
theorem ord_ev {x y : Nat} (hx : x < 18446744073709551616) (hy : y < 18446744073709551616) : Ev (fun k => ratio_Order.f k x y) (ord x y) := by
 have ht : ∀ b : Bool, ratio_truth.f b = some (if b = true then 1 else 0) := by intro b; cases b <;> rfl
 have hn : ∀ z, math_IsNaN.f z = some (isNan z) := fun z => rfl
 have hsx : math_Signbit.f x = some (sg x) := by unfold math_Signbit.f; rw [sign_eq hx]
 have hsy : math_Signbit.f y = some (sg y) := by unfold math_Signbit.f; rw [sign_eq hy]
 obtain ⟨_, bx⟩ := word_split hx
 obtain ⟨_, bY⟩ := word_split hy
 unfold ratio_Order.f
 refine ev_bind' (hn x) ?_
 have hj : ∀ b : Bool, b = (isNan x || isNan y) → Ev (fun k => ratio_Order.j0 k x y b) (ord x y) := by
  intro b hb
  refine Ev.step (fun k => by unfold ratio_Order.j0; rfl) ?_
  unfold ord
  cases ex : isNan x <;> cases ey : isNan y <;> rw [ex, ey] at hb
  ·subst hb
   have rx : rg x ≤ 9218868437227405312 := by have := nan_rg x; rw [ex] at this; have := of_decide_eq_false this.symm; omega
   have ry : rg y ≤ 9218868437227405312 := by have := nan_rg y; rw [ey] at this; have := of_decide_eq_false this.symm; omega
   refine ev_neg (by decide) ?_
   rw [show FloatKind.f64.format.order x y = some (compare (sm x) (sm y)) from order_sm rx ry, if_neg (show ¬ (false = true) by decide), if_neg (show ¬ (false = true) by decide)]
   rcases Int.lt_trichotomy (sm x) (sm y) with h | h | h
   ·rw [cmp_lt h, if_pos (rk_lt h)]
    exact ev_pos rfl (Ev.now _)
   ·rw [h, show compare (sm y) (sm y) = .eq from by show compareOfLessAndEq _ _ = _; unfold compareOfLessAndEq; rw [if_neg (by omega), if_pos rfl]]
    refine ev_neg (by decide) (ev_neg (by decide) (ev_bind' hsy (ev_bind' (ht _) (ev_bind' hsx (ev_bind' (ht _) (ev_ret ?_))))))
    unfold sm at h
    unfold rk
    cases sg x <;> cases sg y <;> simp only [if_true, if_false, Bool.false_eq_true] at h ⊢
    ·rw [if_neg (by omega), if_neg (by omega)]; exact (w64 (by decide) (by decide)).trans (by decide)
    ·rw [if_neg (by omega), if_pos (by omega)]; exact (w64 (by decide) (by decide)).trans (by decide)
    ·rw [if_pos (by omega)]; exact (w64 (by decide) (by decide)).trans (by decide)
    ·rw [if_neg (by omega), if_neg (by omega)]; exact (w64 (by decide) (by decide)).trans (by decide)
   ·rw [cmp_gt h, if_neg (show ¬ rk x < rk y by have := rk_lt h; omega), if_pos (show rk x > rk y from rk_lt h)]
    exact ev_neg (by decide) (ev_pos rfl (Ev.now _))
  ·subst hb
   refine ev_pos rfl (ev_bind' (hn y) (ev_bind' (ht _) (ev_bind' (hn x) (ev_bind' (ht _) (ev_ret ?_)))))
   rw [ex, ey]; exact (w64 (by decide) (by decide)).trans rfl
  ·subst hb
   refine ev_pos rfl (ev_bind' (hn y) (ev_bind' (ht _) (ev_bind' (hn x) (ev_bind' (ht _) (ev_ret ?_)))))
   rw [ex, ey]; exact (w64 (by decide) (by decide)).trans rfl
  ·subst hb
   refine ev_pos rfl (ev_bind' (hn y) (ev_bind' (ht _) (ev_bind' (hn x) (ev_bind' (ht _) (ev_ret ?_)))))
   rw [ex, ey]; exact (w64 (by decide) (by decide)).trans rfl
 cases ex : isNan x
 ·exact ev_neg (by decide) (ev_bind' (hn y) (hj _ (by rw [ex]; rfl)))
 ·exact ev_pos rfl (hj _ (by rw [ex]; rfl))
end Go.Proofs.Ytmpnnpibpodmkaa.Pure
end
section
/- Layer 12's Awake is true; its edges. -/
namespace Go.Proofs.Ytmpnnpibpodmkaa.Pure
open Go.RowKit Go.Proofs.YtmpnnpibpodmkaaW.PrintWords Go.Proofs.Ytmpnnpibpodmkaa.F
theorem awake12 : Ev (fun k => stanzalaw12_Awake.f k) true := by
 unfold stanzalaw12_Awake.f
 refine ev_bind' rfl (ev_bind' rfl (ev_pos (by decide +kernel) (ev_bind' (a := 10000) (by decide +kernel) (ev_pos rfl (ev_bind' rfl (ev_bind' (a := 0) (by decide +kernel) (ev_pos rfl (ev_bind' (a := 12) (by decide +kernel) (ev_pos rfl (ev_bind' (a := 100) (by decide +kernel) (ev_pos rfl (ev_bind' (a := 2) (by decide +kernel) (ev_pos rfl (ev_bind' (a := 9223372036854775808) (by decide +kernel) (ev_bind (ord_ev (by decide) (by decide)) (ev_pos (by decide +kernel) (ev_bind' (a := 4607182418800017408) (by decide +kernel) (ev_pos (by decide +kernel) (ev_bind' rfl (ev_bind' rfl (ev_ret (by decide +kernel))))))))))))))))))))))
end Go.Proofs.Ytmpnnpibpodmkaa.Pure
end
section
/- RatioWhole: of any three numbers the order is one. -/
namespace Go.Proofs.Ytmpnnpibpodmkaa.Pure
open Go.RowKit Go.Proofs.YtmpnnpibpodmkaaW.PrintWords Go.Proofs.Ytmpnnpibpodmkaa.F
def key (x : Nat) : Int := if isNan x = true then -100000000000000000000 else rk x
def Wd (x : Nat) : Prop := x < 18446744073709551616
theorem rk_bd {x : Nat} (h : Wd x) : -9223372036854775809 ≤ rk x ∧ rk x < 9223372036854775808 := by
 obtain ⟨_, h2⟩ := word_split h
 unfold rk
 split <;> omega
theorem ord_key {x y : Nat} (hx : Wd x) (hy : Wd y) : ord x y = if key x < key y then -1 else if key y < key x then 1 else 0 := by
 have h1 := rk_bd hx
 have h2 := rk_bd hy
 unfold ord key
 cases isNan x <;> cases isNan y <;> simp only [if_true, if_false, Bool.false_eq_true] <;> first | rfl | rw [if_neg (by omega), if_pos (by omega)] | rw [if_pos (by omega)] | rw [if_neg (by omega), if_neg (by omega)]
theorem ord_self {x : Nat} (hx : Wd x) : ord x x = 0 := by
 rw [ord_key hx hx, if_neg (by omega), if_neg (by omega)]
theorem ord_neg {x y : Nat} (hx : Wd x) (hy : Wd y) : ord x y = wrap64 (-(ord y x)) := by
 rw [ord_key hx hy, ord_key hy hx]
 rcases Int.lt_trichotomy (key x) (key y) with h | h | h
 ·rw [if_pos h, if_neg (by omega), if_pos h]; exact (w64 (by decide) (by decide)).symm
 ·rw [if_neg (by omega), if_neg (by omega), if_neg (by omega), if_neg (by omega)]; exact (w64 (by decide) (by decide)).symm
 ·rw [if_neg (by omega), if_pos h, if_pos h]; exact (w64 (by decide) (by decide)).symm
theorem rk_inj {x y : Nat} (hx : Wd x) (hy : Wd y) (h : rk x = rk y) : x = y := by
 obtain ⟨e1, b1⟩ := word_split hx
 obtain ⟨e2, b2⟩ := word_split hy
 unfold rk at h
 revert h e1 e2
 cases sg x <;> cases sg y <;> simp only [if_true, if_false, Bool.false_eq_true] <;> intro h e1 e2 <;> omega
theorem ord_same {x y : Nat} (hx : Wd x) (hy : Wd y) : (ord x y == 0) = samef x y := by
 have h1 := rk_bd hx
 have h2 := rk_bd hy
 rw [ord_key hx hy]
 unfold samef
 have hk : ((if key x < key y then (-1 : Int) else if key y < key x then 1 else 0) == 0) = decide (key x = key y) := by
  rcases Int.lt_trichotomy (key x) (key y) with h | h | h
  ·rw [if_pos h, decide_eq_false (by omega)]; rfl
  ·rw [if_neg (by omega), if_neg (by omega), decide_eq_true h]; rfl
  ·rw [if_neg (by omega), if_pos h, decide_eq_false (by omega)]; rfl
 rw [hk]
 have hxy : (x = y) → isNan x = isNan y := fun e => by rw [e]
 unfold key
 cases ex : isNan x <;> cases ey : isNan y <;> simp only [if_true, if_false, Bool.false_eq_true, Bool.and_self, Bool.false_or, Bool.true_or, Bool.and_false, Bool.false_and]
 ·by_cases e : x = y
  ·subst e; simp
  ·rw [decide_eq_false (fun hh => e (rk_inj hx hy hh))]
   exact (beq_eq_false_iff_ne.2 (fun hh => e (Int.ofNat_inj.1 hh))).symm
 ·rw [decide_eq_false (by omega)]
  exact (beq_eq_false_iff_ne.2 (fun hh => by have := hxy (Int.ofNat_inj.1 hh); rw [ex, ey] at this; cases this)).symm
 ·rw [decide_eq_false (by omega)]
  exact (beq_eq_false_iff_ne.2 (fun hh => by have := hxy (Int.ofNat_inj.1 hh); rw [ex, ey] at this; cases this)).symm
 ·rfl
theorem ord_le {x y : Nat} (hx : Wd x) (hy : Wd y) : ord x y ≤ 0 ↔ key x ≤ key y := by
 rw [ord_key hx hy]
 rcases Int.lt_trichotomy (key x) (key y) with h | h | h
 ·rw [if_pos h]; omega
 ·rw [if_neg (by omega), if_neg (by omega)]; omega
 ·rw [if_neg (by omega), if_pos h]; omega
theorem wn4 {n : Nat} (h : n ≤ 100000) : wrap64 ((n : Int) + 1) = ((n + 1 : Nat) : Int) := by
 rw [w64 (by omega) (by omega)]; rfl
theorem whole_l0 {L : List S28} (hL : ∀ s ∈ L, Wd s.f0 ∧ Wd s.f1 ∧ Wd s.f2) (lL : L.length ≤ 1000) : ∀ (d i : Nat), i + d = L.length →
  Ev (fun k => stanzalaw12_RatioWhole.l0 k L (L.length : Int) (i : Int)) true := by
 intro d
 induction d with
 | zero =>
  intro i hi
  exact Ev.step (fun k => by unfold stanzalaw12_RatioWhole.l0; rfl) (ev_neg (by omega) (Ev.now _))
 | succ d ih =>
  intro i hi
  have hn := ih (i + 1) (by omega)
  rw [← wn4 (show i ≤ 100000 by omega)] at hn
  have hlt : i < L.length := by omega
  obtain ⟨h0, h1, h2⟩ := hL L[i] (List.getElem_mem hlt)
  have hrd : rd_T28 L (i : Int) = L[i] := by
   show L.getD i _ = _
   rw [List.getD_eq_getElem?_getD, List.getElem?_eq_getElem hlt]; rfl
  refine Ev.step (fun k => by unfold stanzalaw12_RatioWhole.l0; rfl) (ev_pos (by omega) (ev_pos (by omega) (ev_pos (by omega) ?_)))
  rw [hrd]
  generalize L[i].f0 = x at *
  generalize L[i].f1 = y at *
  generalize L[i].f2 = z at *
  refine ev_bind (ord_ev h0 h0) ?_
  refine ev_pos (ord_self h0) ?_
  refine ev_bind (ord_ev h0 h1) ?_
  refine ev_bind (ord_ev h1 h0) ?_
  refine ev_pos (ord_neg h0 h1) ?_
  refine ev_bind (ord_ev h0 h1) ?_
  have hs : r2_Same.f x y = some (samef x y) := rfl
  refine ev_bind' hs ?_
  rw [ord_same h0 h1, bne_self_eq_false]
  refine Ev.step (fun k => by unfold stanzalaw12_RatioWhole.j1; rfl) (ev_neg (by decide) ?_)
  refine ev_bind (ord_ev h0 h1) ?_
  by_cases c1 : ord x y ≤ 0
  ·refine ev_pos c1 ?_
   refine ev_bind (ord_ev h1 h2) ?_
   by_cases c2 : ord y z ≤ 0
   ·refine ev_pos c2 ?_
    refine ev_bind (ord_ev h0 h2) ?_
    have k1 := (ord_le h0 h1).1 c1
    have k2 := (ord_le h1 h2).1 c2
    have k3 := (ord_le h0 h2).2 (by omega)
    exact ev_neg (by omega) hn
   ·exact ev_neg c2 hn
  ·exact ev_neg c1 hn
theorem RatioWhole : stanzalaw12_RatioWhole.Pure := by
 intro a b c ha hb hc
 have ha' : Wd a := by unfold Wd; simpa [Lit.wf] using ha
 have hb' : Wd b := by unfold Wd; simpa [Lit.wf] using hb
 have hc' : Wd c := by unfold Wd; simpa [Lit.wf] using hc
 refine Ev.rounds ?_
 unfold stanzalaw12_RatioWhole.f
 have c0 : math_Copysign.f 0 13830554455654793216 = some 9223372036854775808 := by decide +kernel
 refine ev_bind awake12 (ev_pos rfl ?_)
 refine ev_bind' c0 ?_
 refine ev_bind' (a := 9221120237041090561) rfl ?_
 refine ev_bind' (a := 9218868437227405312) rfl ?_
 refine ev_bind' (a := 18442240474082181120) rfl ?_
 refine ev_let ?_
 refine whole_l0 ?_ (by show 4 ≤ 1000; decide) 4 0 rfl
 have w0 : Wd 0 := by unfold Wd; decide
 have w1 : Wd 9223372036854775808 := by unfold Wd; decide
 have w2 : Wd 9221120237041090561 := by unfold Wd; decide
 have w3 : Wd 9218868437227405312 := by unfold Wd; decide
 have w4 : Wd 18442240474082181120 := by unfold Wd; decide
 intro s hs
 simp only [List.mem_cons, List.not_mem_nil, or_false] at hs
 rcases hs with rfl | rfl | rfl | rfl
 ·exact ⟨ha', hb', hc'⟩
 ·exact ⟨ha', w0, w1⟩
 ·exact ⟨w2, ha', hb'⟩
 ·exact ⟨w3, ha', w4⟩
end Go.Proofs.Ytmpnnpibpodmkaa.Pure
end
