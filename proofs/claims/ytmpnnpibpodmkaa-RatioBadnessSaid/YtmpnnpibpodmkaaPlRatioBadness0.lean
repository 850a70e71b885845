/- Plain proofs: what the printed functions compute. -/
import Derived.Test.YtmpnnpibpodmkaaXRatioBadness0
import Derived.WalkKit
import Derived.Test.YtmpnnpibpodmkaaVRatioBadness0
section
/- Helpers of the plain proofs: eventual values (Ev), wrapped numbers, lists. -/
namespace Go.Proofs.Ytmpnnpibpodmkaa.Pure
open Go.RowKit Go.Proofs.YtmpnnpibpodmkaaW.PrintWords
theorem ev_pos {α : Type} {c : Prop} [Decidable c] {a b : Nat → Option α} {r : α} (h : c) (H : Ev a r) : Ev (fun k => if c then a k else b k) r := by simpa [h] using H
theorem ev_neg {α : Type} {c : Prop} [Decidable c] {a b : Nat → Option α} {r : α} (h : ¬ c) (H : Ev b r) : Ev (fun k => if c then a k else b k) r := by simpa [h] using H
theorem ev_ret {α : Type} {x r : α} (h : x = r) : Ev (fun _ => some x) r := by subst h; exact Ev.now _
theorem ev_bind {α β : Type} {g : Nat → Option α} {f : Nat → α → Option β} {a : α} {r : β} (h : Ev g a) (k : Ev (fun n => f n a) r) : Ev (fun n => (g n).bind (f n)) r := Ev.bind h k
theorem ev_bind' {α β : Type} {o : Option α} {f : Nat → α → Option β} {a : α} {r : β} (h : o = some a) (k : Ev (fun n => f n a) r) : Ev (fun n => o.bind (f n)) r := by subst h; exact k
theorem ev_let {α β : Type} {a : α} {f : Nat → α → Option β} {r : β} (k : Ev (fun n => f n a) r) : Ev (fun n => (some a).bind (f n)) r := k
theorem w64 {x : Int} (h1 : -9223372036854775808 ≤ x) (h2 : x ≤ 9223372036854775807) : wrap64 x = x := by unfold wrap64; omega
end Go.Proofs.Ytmpnnpibpodmkaa.Pure
end
section
/- How bad a line is, is always told: a number from 0 to 10000. -/
namespace Go.Proofs.Ytmpnnpibpodmkaa.Pure
open Go.RowKit Go.Proofs.YtmpnnpibpodmkaaW.PrintWords Go.Proofs.Ytmpnnpibpodmkaa.F
open Ieee (Format Datum)
abbrev dbl : Format := FloatKind.f64.format
theorem d_sw : dbl.signWeight = 9223372036854775808 := by decide
theorem d_bi : dbl.binade = 4503599627370496 := by decide
theorem d_ir : dbl.infRung = 9218868437227405312 := by decide
theorem read_pos {b : Nat} (h : b ≤ 9218868437227405312) : (∃ m e, dbl.read b = .number false m e) ∨ dbl.read b = .infinity false := by
 unfold Format.read
 simp only [d_sw, d_bi, d_ir]
 have h1 : b % 9223372036854775808 = b := Nat.mod_eq_of_lt (by omega)
 have h2 : b / 9223372036854775808 = 0 := Nat.div_eq_of_lt (by omega)
 rw [h1, h2]
 by_cases c1 : b < 4503599627370496
 ·rw [if_pos c1]; exact .inl ⟨_, _, rfl⟩
 ·rw [if_neg c1]
  by_cases c2 : b < 9218868437227405312
  ·rw [if_pos c2]; exact .inl ⟨_, _, rfl⟩
  ·rw [if_neg c2, if_pos (by omega)]; exact .inr rfl
theorem write_pos (m : Nat) (e : Int) : dbl.write (.number false m e) ≤ 9218868437227405312 := by
 show dbl.nearest false m e ≤ _
 unfold Format.nearest Format.word
 split
 ·simp
 ·simp only [Bool.false_eq_true, if_false, d_ir]
  exact Nat.min_le_right _ _
theorem write_inf : dbl.write (.infinity false) = 9218868437227405312 := by decide
def Pos (b : Nat) : Prop := b ≤ 9218868437227405312 ∨ b = NANB
theorem fop_pos {x y : Nat} (hx : Pos x) (hy : y ≤ 9218868437227405312) : Pos (fop .mul x y) := by
 rcases hx with hx | rfl
 ·unfold fop floatBits Format.mul
  rcases read_pos hx with ⟨m, e, e1⟩ | e1 <;> rcases read_pos hy with ⟨n, i, e2⟩ | e2 <;> rw [e1, e2] <;> simp only [Datum.product]
  ·exact .inl (write_pos _ _)
  ·split
   ·exact .inr rfl
   ·exact .inl (by simp [write_inf])
  ·split
   ·exact .inr rfl
   ·exact .inl (by simp [write_inf])
  ·exact .inl (by simp [write_inf])
 ·right
  unfold fop
  rw [bits_nan_l nan_B]; rfl
theorem ten_k : dbl.read 4666723172467343360 = .number false 5497558138880000 (-39) := by decide
theorem pow_cut (k : Nat) : (1 <<< k : Nat) = 2 ^ k := by rw [Nat.shiftLeft_eq, Nat.one_mul]
theorem cut_le {m k : Nat} (h : m < 10000 * 2 ^ k) : m / 2 ^ min k (m.log2 + 2) ≤ 9999 := by
 rcases Nat.le_total k (m.log2 + 2) with h1 | h1
 ·rw [Nat.min_eq_left h1]
  have := (Nat.div_lt_iff_lt_mul (Nat.two_pow_pos k)).2 h
  omega
 ·rw [Nat.min_eq_right h1]
  have h2 : m < 2 ^ (m.log2 + 2) := Nat.lt_trans (Nat.lt_log2_self) (Nat.pow_lt_pow_right (by decide) (by omega))
  rw [Nat.div_eq_of_lt h2]
  omega
theorem trunc_ok {y : Nat} (hy : y ≤ 9218868437227405312) (hl : dbl.order y 4666723172467343360 = some .lt) : ∃ n : Int, floatToIntVal .f64 y .i64 = some n ∧ 0 ≤ n ∧ n ≤ 9999 := by
 unfold Format.order at hl
 rw [ten_k] at hl
 rcases read_pos hy with ⟨m, e, e1⟩ | e1
 ·rw [e1] at hl
  simp only [Datum.order, Ieee.signed, Bool.false_eq_true, if_false, Option.some.injEq] at hl
  have hl := Int.compare_eq_lt.1 hl
  have hv : ∃ v : Nat, (Datum.number false m e).toInt .zero = some (v : Int) ∧ v ≤ 9999 := by
   refine ⟨Ieee.Toward.cut .zero false (m <<< e.toNat) (-e).toNat, ?_, ?_⟩
   ·simp [Datum.toInt, Datum.integral, Ieee.signed]
   ·unfold Ieee.Toward.cut
    simp only [Bool.toNat_false, Nat.add_zero]
    rw [pow_cut, Nat.shiftLeft_eq]
    have hl2 : m * 2 ^ (e - min e (-39)).toNat < 5497558138880000 * 2 ^ (-39 - min e (-39)).toNat := by
     rw [Nat.shiftLeft_eq, Nat.shiftLeft_eq] at hl
     exact Int.ofNat_lt.1 hl
    rcases Int.lt_or_le e (-39) with he | he
    ·rw [show min e (-39) = e from by omega, show (e - e).toNat = 0 from by omega, Nat.pow_zero, Nat.mul_one] at hl2
     rw [show e.toNat = 0 from by omega, Nat.pow_zero, Nat.mul_one]
     have e3 : (5497558138880000 : Nat) * 2 ^ (-39 - e).toNat = 10000 * 2 ^ (-e).toNat := by
      rw [show (-e).toNat = (-39 - e).toNat + 39 from by omega, Nat.pow_add]; omega
     rw [e3] at hl2
     exact cut_le hl2
    ·rw [show min e (-39) = -39 from by omega, show (-39 - (-39 : Int)).toNat = 0 from by decide, Nat.pow_zero, Nat.mul_one] at hl2
     rcases Int.lt_or_le e 0 with h0 | h0
     ·rw [show e.toNat = 0 from by omega, Nat.pow_zero, Nat.mul_one]
      refine cut_le ?_
      have e4 : (549755813888 : Nat) = 2 ^ (e - -39).toNat * 2 ^ (-e).toNat := by
       rw [← Nat.pow_add, show (e - -39).toNat + (-e).toNat = 39 from by omega]
      have e5 : m * 2 ^ (e - -39).toNat < 10000 * 2 ^ (-e).toNat * 2 ^ (e - -39).toNat := by
       have : (5497558138880000 : Nat) = 10000 * 549755813888 := by decide
       rw [this, e4] at hl2
       calc _ < _ := hl2
        _ = _ := by rw [Nat.mul_assoc, Nat.mul_comm (2 ^ (-e).toNat)]
      exact Nat.lt_of_mul_lt_mul_right e5
     ·rw [show (-e).toNat = 0 from by omega]
      simp only [Nat.zero_min, Nat.pow_zero, Nat.div_one]
      have e6 : m * 2 ^ (e - -39).toNat = m * 2 ^ e.toNat * 549755813888 := by
       rw [show (e - -39).toNat = e.toNat + 39 from by omega, Nat.pow_add, Nat.mul_assoc]
      rw [e6] at hl2
      omega
  obtain ⟨v, hv1, hv2⟩ := hv
  refine ⟨v, ?_, by omega, by omega⟩
  unfold floatToIntVal FloatKind.decode
  rw [show FloatKind.f64.format.read y = _ from e1, hv1]
  simp only
  rw [if_pos]
  constructor
  ·show (-9223372036854775808 : Int) ≤ _; omega
  ·show _ ≤ (9223372036854775807 : Int); omega
 ·rw [e1] at hl
  simp [Datum.order] at hl
theorem absb_eq {x : Nat} (h : x < 18446744073709551616) : absb x = x % 9223372036854775808 := by
 unfold absb
 rw [u64_andNot (x : Int) 9223372036854775808 (by omega) (by omega) (by decide) (by decide)]
 rw [Int.toNat_natCast, Int.toNat_natCast]
 exact Nat.and_two_pow_sub_one_eq_mod x 63
theorem abs_le {x : Nat} (h : x < 18446744073709551616) (hn : isNan x = false) : absb x ≤ 9218868437227405312 := by
 rw [absb_eq h]
 rcases Nat.lt_or_ge 9218868437227405312 (x % 9223372036854775808) with h1 | h1
 ·rw [nan_of_rung h1] at hn; cases hn
 ·exact h1
theorem badness_ok {x : Nat} (h : x < 18446744073709551616) : ∃ n : Int, ratio_Badness.f x = some n ∧ 0 ≤ n ∧ n ≤ 10000 := by
 unfold ratio_Badness.f
 by_cases hn : isNan x = true
 ·rw [if_pos hn]; exact ⟨0, rfl, by decide, by decide⟩
 ·rw [if_neg hn]
  have ha := abs_le h (by simpa using hn)
  have hc : Pos (cube x) := fop_pos (fop_pos (fop_pos (.inl (by decide)) ha) ha) ha
  by_cases hl : (FloatKind.f64.format.order (cube x) 4666723172467343360 == some .lt) = true
  ·rw [if_pos hl]
   have hl' : dbl.order (cube x) 4666723172467343360 = some .lt := by simpa using hl
   rcases hc with hc | hc
   ·obtain ⟨n, h1, h2, h3⟩ := trunc_ok hc hl'
    exact ⟨n, h1, h2, by omega⟩
   ·rw [hc, show dbl.order NANB 4666723172467343360 = none from order_nan_l nan_B] at hl'
    cases hl'
  ·rw [if_neg hl]; exact ⟨10000, rfl, by decide, by decide⟩
theorem fop_lt (op : BinOp) (x y : Nat) : fop op x y < 18446744073709551616 := by
 unfold fop
 cases h : floatBits op .f64 x y with
 | none => decide
 | some r =>
  have := floatBits_wf h
  simpa [Lit.wf] using this
def bdn (r : Nat) : Int := (ratio_Badness.f r).getD 0
theorem bdn_bd {r : Nat} (h : r < 18446744073709551616) : 0 ≤ bdn r ∧ bdn r ≤ 10000 ∧ ratio_Badness.f r = some (bdn r) := by
 obtain ⟨n, h1, h2, h3⟩ := badness_ok h
 unfold bdn
 rw [h1]
 exact ⟨h2, h3, rfl⟩
end Go.Proofs.Ytmpnnpibpodmkaa.Pure
end
section
/- How floats stand to each other, by their bits. -/
namespace Go.Proofs.Ytmpnnpibpodmkaa.Pure
open Go.RowKit Go.Proofs.YtmpnnpibpodmkaaW.PrintWords
open Ieee (Format Datum)
def rg (x : Nat) : Nat := x % 9223372036854775808
def sg (x : Nat) : Bool := x / 9223372036854775808 % 2 == 1
def sm (x : Nat) : Int := if sg x = true then -(rg x : Int) else (rg x : Int)
def mg (r : Nat) : Nat := if r < 4503599627370496 then r else (4503599627370496 + r % 4503599627370496) * 2 ^ (r / 4503599627370496 - 1)
theorem mg_ge {r : Nat} (h : ¬ r < 4503599627370496) : 4503599627370496 * 2 ^ (r / 4503599627370496 - 1) ≤ mg r ∧ mg r < 4503599627370496 * 2 ^ (r / 4503599627370496) := by
 unfold mg
 rw [if_neg h]
 refine ⟨Nat.mul_le_mul_right _ (by omega), ?_⟩
 have h1 : 2 ^ (r / 4503599627370496) = 2 ^ (r / 4503599627370496 - 1) * 2 := by
  rw [← Nat.pow_succ]; congr 1; omega
 rw [h1, ← Nat.mul_assoc, Nat.mul_comm 4503599627370496, Nat.mul_assoc, Nat.mul_comm (2 ^ _)]
 exact Nat.mul_lt_mul_of_pos_right (by omega) (Nat.two_pow_pos _)
theorem mg_mono {r q : Nat} (h : r < q) : mg r < mg q := by
 by_cases c1 : r < 4503599627370496
 ·by_cases c2 : q < 4503599627370496
  ·unfold mg; rw [if_pos c1, if_pos c2]; exact h
  ·have h2 := (mg_ge c2).1
   have h3 : 4503599627370496 * 1 ≤ 4503599627370496 * 2 ^ (q / 4503599627370496 - 1) := Nat.mul_le_mul_left _ (Nat.two_pow_pos _)
   have h4 : mg r = r := by unfold mg; rw [if_pos c1]
   omega
 ·have c2 : ¬ q < 4503599627370496 := by omega
  rcases Nat.lt_or_ge (r / 4503599627370496) (q / 4503599627370496) with h1 | h1
  ·have h2 := (mg_ge c1).2
   have h3 := (mg_ge c2).1
   have h4 : 4503599627370496 * 2 ^ (r / 4503599627370496) ≤ 4503599627370496 * 2 ^ (q / 4503599627370496 - 1) := Nat.mul_le_mul_left _ (Nat.pow_le_pow_right (by decide) (by omega))
   omega
  ·have he : r / 4503599627370496 = q / 4503599627370496 := by omega
   unfold mg
   rw [if_neg c1, if_neg c2, he]
   exact Nat.mul_lt_mul_of_pos_right (by omega) (Nat.two_pow_pos _)
theorem mg_lt {r q : Nat} : mg r < mg q ↔ r < q := by
 refine ⟨fun h => ?_, mg_mono⟩
 rcases Nat.lt_trichotomy r q with h1 | h1 | h1
 ·exact h1
 ·rw [h1] at h; omega
 ·have := mg_mono h1; omega
theorem d_lp : dbl.leastPlace = -1074 := by decide
theorem read_fin {x : Nat} (h : rg x < 9218868437227405312) : ∃ (m : Nat) (k : Nat), dbl.read x = .number (sg x) m (-1074 + (k : Int)) ∧ mg (rg x) = m * 2 ^ k := by
 unfold rg at h ⊢
 unfold Format.read
 simp only [d_sw, d_bi, d_ir, d_lp]
 by_cases c : x % 9223372036854775808 < 4503599627370496
 ·rw [if_pos c]
  refine ⟨x % 9223372036854775808, 0, rfl, ?_⟩
  unfold mg; rw [if_pos c]; simp
 ·rw [if_neg c, if_pos h]
  refine ⟨_, _, rfl, ?_⟩
  unfold mg; rw [if_neg c]
theorem read_infy {x : Nat} (h : rg x = 9218868437227405312) : dbl.read x = .infinity (sg x) := by
 unfold rg at h
 unfold Format.read
 simp only [d_sw, d_bi, d_ir]
 rw [if_neg (by omega), if_neg (by omega), if_pos h]; rfl
theorem nan_rg (x : Nat) : isNan x = decide (9218868437227405312 < rg x) := by
 rcases Nat.lt_trichotomy (rg x) 9218868437227405312 with h | h | h
 ·obtain ⟨m, k, h1, _⟩ := read_fin h
  unfold isNan FloatKind.decode
  rw [show Format.read FloatKind.f64.format x = dbl.read x from rfl, h1, decide_eq_false (by omega)]; rfl
 ·have h1 := read_infy h
  unfold isNan FloatKind.decode
  rw [show Format.read FloatKind.f64.format x = dbl.read x from rfl, h1, decide_eq_false (by omega)]; rfl
 ·rw [decide_eq_true h]
  exact nan_of_rung h
theorem cmp_iff {a b c d : Int} (h1 : a < b ↔ c < d) (h2 : a = b ↔ c = d) : compare a b = compare c d := by
 show compareOfLessAndEq a b = compareOfLessAndEq c d
 unfold compareOfLessAndEq
 by_cases h : a < b
 ·rw [if_pos h, if_pos (h1.1 h)]
 ·rw [if_neg h, if_neg (fun hh => h (h1.2 hh))]
  by_cases h' : a = b
  ·rw [if_pos h', if_pos (h2.1 h')]
  ·rw [if_neg h', if_neg (fun hh => h' (h2.2 hh))]
theorem cmp_lt {a b : Int} (h : a < b) : compare a b = .lt := by
 show compareOfLessAndEq a b = .lt
 unfold compareOfLessAndEq
 rw [if_pos h]
theorem cmp_gt {a b : Int} (h : b < a) : compare a b = .gt := by
 show compareOfLessAndEq a b = .gt
 unfold compareOfLessAndEq
 rw [if_neg (by omega), if_neg (by omega)]
theorem order_sm {x y : Nat} (hx : rg x ≤ 9218868437227405312) (hy : rg y ≤ 9218868437227405312) : dbl.order x y = some (compare (sm x) (sm y)) := by
 unfold Format.order
 rcases Nat.lt_or_eq_of_le hx with cx | cx <;> rcases Nat.lt_or_eq_of_le hy with cy | cy
 ·obtain ⟨m, k, e1, v1⟩ := read_fin cx
  obtain ⟨n, l, e2, v2⟩ := read_fin cy
  rw [e1, e2]
  show some (compare (Ieee.signed _ m _) (Ieee.signed _ n _)) = _
  congr 1
  obtain ⟨c, a, b, hk, hl, ha, hb⟩ : ∃ c a b : Nat, k = c + a ∧ l = c + b ∧ ((-1074 + (k : Int)) - min (-1074 + (k : Int)) (-1074 + (l : Int))).toNat = a ∧ ((-1074 + (l : Int)) - min (-1074 + (k : Int)) (-1074 + (l : Int))).toNat = b := by
   refine ⟨min k l, k - min k l, l - min k l, by omega, by omega, by omega, by omega⟩
  rw [ha, hb]
  have w1 : mg (rg x) = (m <<< a) * 2 ^ c := by rw [v1, hk, Nat.shiftLeft_eq, Nat.add_comm c a, Nat.pow_add, Nat.mul_assoc]
  have w2 : mg (rg y) = (n <<< b) * 2 ^ c := by rw [v2, hl, Nat.shiftLeft_eq, Nat.add_comm c b, Nat.pow_add, Nat.mul_assoc]
  have hp : 0 < 2 ^ c := Nat.two_pow_pos c
  have i1 : m <<< a < n <<< b ↔ rg x < rg y := by
   exact (Nat.mul_lt_mul_right hp).symm.trans (by rw [← w1, ← w2]; exact mg_lt)
  have i2 : n <<< b < m <<< a ↔ rg y < rg x := by
   exact (Nat.mul_lt_mul_right hp).symm.trans (by rw [← w1, ← w2]; exact mg_lt)
  have z1 : 0 < m <<< a ↔ 0 < rg x := by
   have : mg 0 < mg (rg x) ↔ 0 < rg x := mg_lt
   rw [w1, show mg 0 = 0 from rfl] at this
   rw [← this]
   exact ⟨fun h => Nat.mul_pos h hp, fun h => Nat.pos_of_mul_pos_right h⟩
  have z2 : 0 < n <<< b ↔ 0 < rg y := by
   have : mg 0 < mg (rg y) ↔ 0 < rg y := mg_lt
   rw [w2, show mg 0 = 0 from rfl] at this
   rw [← this]
   exact ⟨fun h => Nat.mul_pos h hp, fun h => Nat.pos_of_mul_pos_right h⟩
  unfold Ieee.signed sm
  generalize m <<< a = M at *
  generalize n <<< b = N at *
  refine cmp_iff ?_ ?_ <;> (cases sg x <;> cases sg y <;> simp <;> omega)
 ·obtain ⟨m, k, e1, _⟩ := read_fin cx
  rw [e1, read_infy cy]
  show some (if sg y = true then Ordering.gt else .lt) = _
  congr 1
  unfold sm
  cases sg x <;> cases sg y <;> simp only [if_true, if_false, Bool.false_eq_true]
  ·exact (cmp_lt (by omega)).symm
  ·exact (cmp_gt (by omega)).symm
  ·exact (cmp_lt (by omega)).symm
  ·exact (cmp_gt (by omega)).symm
 ·obtain ⟨n, l, e2, _⟩ := read_fin cy
  rw [e2, read_infy cx]
  show some (if sg x = true then Ordering.lt else .gt) = _
  congr 1
  unfold sm
  cases sg x <;> cases sg y <;> simp only [if_true, if_false, Bool.false_eq_true]
  ·exact (cmp_gt (by omega)).symm
  ·exact (cmp_gt (by omega)).symm
  ·exact (cmp_lt (by omega)).symm
  ·exact (cmp_lt (by omega)).symm
 ·rw [read_infy cx, read_infy cy]
  show some (compare (sg y).toNat (sg x).toNat) = _
  congr 1
  unfold sm
  rw [cx, cy]
  cases sg x <;> cases sg y <;> decide
end Go.Proofs.Ytmpnnpibpodmkaa.Pure
end
section
/- ratio.Order and the document's come to one order; layer 12's Awake; the edges. -/
namespace Go.Proofs.Ytmpnnpibpodmkaa.Pure
open Go.RowKit Go.Proofs.YtmpnnpibpodmkaaW.PrintWords Go.Proofs.Ytmpnnpibpodmkaa.F
def rk (x : Nat) : Int := if sg x = true then -(rg x : Int) - 1 else (rg x : Int)
def ord (x y : Nat) : Int := if isNan x = true then (if isNan y = true then 0 else -1) else if isNan y = true then 1 else if rk x < rk y then -1 else if rk x > rk y then 1 else 0
theorem rk_lt {x y : Nat} (h : sm x < sm y) : rk x < rk y := by
 revert h
 unfold sm rk
 cases sg x <;> cases sg y <;> simp only [if_true, if_false, Bool.false_eq_true] <;> intro h <;> omega
theorem word_split {x : Nat} (h : x < 18446744073709551616) : x = (if sg x = true then 9223372036854775808 else 0) + rg x ∧ rg x < 9223372036854775808 := by
 unfold sg rg
 rcases Nat.lt_or_ge x 9223372036854775808 with h1 | h1
 ·have e : x / 9223372036854775808 = 0 := by omega
  rw [e]
  refine ⟨?_, by omega⟩
  rw [if_neg (by decide)]; omega
 ·have e : x / 9223372036854775808 = 1 := by omega
  rw [e]
  refine ⟨?_, by omega⟩
  rw [if_pos (by decide)]; omega
theorem sign_eq {x : Nat} (h : x < 18446744073709551616) : decide (wrap64 (x : Int) < 0) = sg x := by
 obtain ⟨h1, h2⟩ := word_split h
 cases hs : sg x
 ·rw [hs, if_neg (by decide)] at h1
  rw [w64 (by omega) (by omega)]
  exact decide_eq_false (by omega)
 ·rw [hs, if_pos rfl] at h1
  refine decide_eq_true ?_
  unfold wrap64; omega
theorem ord_ev {x y : Nat} (hx : x < 18446744073709551616) (hy : y < 18446744073709551616) : Ev (fun k => ratio_Order.f k x y) (ord x y) := by
 have ht : ∀ b : Bool, ratio_truth.f b = some (if b = true then 1 else 0) := by intro b; cases b <;> rfl
 have hn : ∀ z, math_IsNaN.f z = some (isNan z) := fun z => rfl
 have hsx : math_Signbit.f x = some (sg x) := by unfold math_Signbit.f; rw [sign_eq hx]
 have hsy : math_Signbit.f y = some (sg y) := by unfold math_Signbit.f; rw [sign_eq hy]
 obtain ⟨_, bx⟩ := word_split hx
 obtain ⟨_, bY⟩ := word_split hy
 unfold ratio_Order.f
 refine ev_bind' (hn x) ?_
 have hj : ∀ b : Bool, b = (isNan x || isNan y) → Ev (fun k => ratio_Order.j0 k x y b) (ord x y) := by
  intro b hb
  refine Ev.step (fun k => by unfold ratio_Order.j0; rfl) ?_
  unfold ord
  cases ex : isNan x <;> cases ey : isNan y <;> rw [ex, ey] at hb
  ·subst hb
   have rx : rg x ≤ 9218868437227405312 := by have := nan_rg x; rw [ex] at this; have := of_decide_eq_false this.symm; omega
   have ry : rg y ≤ 9218868437227405312 := by have := nan_rg y; rw [ey] at this; have := of_decide_eq_false this.symm; omega
   refine ev_neg (by decide) ?_
   rw [show FloatKind.f64.format.order x y = some (compare (sm x) (sm y)) from order_sm rx ry, if_neg (show ¬ (false = true) by decide), if_neg (show ¬ (false = true) by decide)]
   rcases Int.lt_trichotomy (sm x) (sm y) with h | h | h
   ·rw [cmp_lt h, if_pos (rk_lt h)]
    exact ev_pos rfl (Ev.now _)
   ·rw [h, show compare (sm y) (sm y) = .eq from by show compareOfLessAndEq _ _ = _; unfold compareOfLessAndEq; rw [if_neg (by omega), if_pos rfl]]
    refine ev_neg (by decide) (ev_neg (by decide) (ev_bind' hsy (ev_bind' (ht _) (ev_bind' hsx (ev_bind' (ht _) (ev_ret ?_))))))
    unfold sm at h
    unfold rk
    cases sg x <;> cases sg y <;> simp only [if_true, if_false, Bool.false_eq_true] at h ⊢
    ·rw [if_neg (by omega), if_neg (by omega)]; exact (w64 (by decide) (by decide)).trans (by decide)
    ·rw [if_neg (by omega), if_pos (by omega)]; exact (w64 (by decide) (by decide)).trans (by decide)
    ·rw [if_pos (by omega)]; exact (w64 (by decide) (by decide)).trans (by decide)
    ·rw [if_neg (by omega), if_neg (by omega)]; exact (w64 (by decide) (by decide)).trans (by decide)
   ·rw [cmp_gt h, if_neg (show ¬ rk x < rk y by have := rk_lt h; omega), if_pos (show rk x > rk y from rk_lt h)]
    exact ev_neg (by decide) (ev_pos rfl (Ev.now _))
  ·subst hb
   refine ev_pos rfl (ev_bind' (hn y) (ev_bind' (ht _) (ev_bind' (hn x) (ev_bind' (ht _) (ev_ret ?_)))))
   rw [ex, ey]; exact (w64 (by decide) (by decide)).trans rfl
  ·subst hb
   refine ev_pos rfl (ev_bind' (hn y) (ev_bind' (ht _) (ev_bind' (hn x) (ev_bind' (ht _) (ev_ret ?_)))))
   rw [ex, ey]; exact (w64 (by decide) (by decide)).trans rfl
  ·subst hb
   refine ev_pos rfl (ev_bind' (hn y) (ev_bind' (ht _) (ev_bind' (hn x) (ev_bind' (ht _) (ev_ret ?_)))))
   rw [ex, ey]; exact (w64 (by decide) (by decide)).trans rfl
 cases ex : isNan x
 ·exact ev_neg (by decide) (ev_bind' (hn y) (hj _ (by rw [ex]; rfl)))
 ·exact ev_pos rfl (hj _ (by rw [ex]; rfl))
end Go.Proofs.Ytmpnnpibpodmkaa.Pure
end
section
/- Layer 12's Awake is true; its edges. -/
namespace Go.Proofs.Ytmpnnpibpodmkaa.Pure
open Go.RowKit Go.Proofs.YtmpnnpibpodmkaaW.PrintWords Go.Proofs.Ytmpnnpibpodmkaa.F
theorem awake12 : Ev (fun k => stanzalaw12_Awake.f k) true := by
 unfold stanzalaw12_Awake.f
 refine ev_bind' rfl (ev_bind' rfl (ev_pos (by decide +kernel) (ev_bind' (a := 10000) (by decide +kernel) (ev_pos rfl (ev_bind' rfl (ev_bind' (a := 0) (by decide +kernel) (ev_pos rfl (ev_bind' (a := 12) (by decide +kernel) (ev_pos rfl (ev_bind' (a := 100) (by decide +kernel) (ev_pos rfl (ev_bind' (a := 2) (by decide +kernel) (ev_pos rfl (ev_bind' (a := 9223372036854775808) (by decide +kernel) (ev_bind (ord_ev (by decide) (by decide)) (ev_pos (by decide +kernel) (ev_bind' (a := 4607182418800017408) (by decide +kernel) (ev_pos (by decide +kernel) (ev_bind' rfl (ev_bind' rfl (ev_ret (by decide +kernel))))))))))))))))))))))
end Go.Proofs.Ytmpnnpibpodmkaa.Pure
end
section
/- Rounding to the nearest word is monotone. -/
namespace Go.Proofs.Ytmpnnpibpodmkaa.Pure
open Go.RowKit Go.Proofs.YtmpnnpibpodmkaaW.PrintWords
open Ieee (Format Datum Toward)
def Near (n k c : Nat) : Prop := 2 * n ≤ 2 * (c * 2 ^ k) + 2 ^ k ∧ 2 * (c * 2 ^ k) ≤ 2 * n + 2 ^ k ∧ (2 * n = 2 * (c * 2 ^ k) + 2 ^ k → c % 2 = 0) ∧ (2 * (c * 2 ^ k) = 2 * n + 2 ^ k → c % 2 = 0)
theorem near_of {n k q r : Nat} (h : n = 2 ^ k * q + r) (hr : r < 2 ^ k) : Near n k (q + (decide (2 ^ k < 2 * r) || (2 ^ k == 2 * r && q % 2 == 1)).toNat) := by
 have hc : 2 ^ k * q = q * 2 ^ k := Nat.mul_comm _ _
 have h1 : (q + 1) * 2 ^ k = q * 2 ^ k + 2 ^ k := by rw [Nat.add_mul, Nat.one_mul]
 rw [hc] at h
 unfold Near
 generalize hg : 2 ^ k = g at *
 by_cases c1 : g < 2 * r
 ·rw [decide_eq_true c1, Bool.true_or, show Bool.toNat true = 1 from rfl, h1]
  refine ⟨by omega, by omega, fun e => by omega, fun e => by omega⟩
 ·rw [decide_eq_false c1, Bool.false_or]
  by_cases c2 : g = 2 * r
  ·rw [beq_iff_eq.2 c2, Bool.true_and]
   by_cases c3 : q % 2 = 1
   ·rw [beq_iff_eq.2 c3, show Bool.toNat true = 1 from rfl, h1]
    refine ⟨by omega, by omega, fun e => by omega, fun e => by omega⟩
   ·rw [beq_eq_false_iff_ne.2 c3, show Bool.toNat false = 0 from rfl, Nat.add_zero]
    refine ⟨by omega, by omega, fun e => by omega, fun e => by omega⟩
  ·rw [beq_eq_false_iff_ne.2 c2, Bool.false_and, show Bool.toNat false = 0 from rfl, Nat.add_zero]
   refine ⟨by omega, by omega, fun e => by omega, fun e => by omega⟩
theorem cut_near (s : Bool) (n k : Nat) : Near n k (Toward.even.cut s n k) := by
 unfold Toward.cut
 simp only [pow_cut]
 rcases Nat.le_total k (n.log2 + 2) with h1 | h1
 ·rw [Nat.min_eq_left h1]
  exact near_of (Nat.div_add_mod n (2 ^ k)).symm (Nat.mod_lt _ (Nat.two_pow_pos k))
 ·rw [Nat.min_eq_right h1]
  have h2 : n < 2 ^ (n.log2 + 1) := Nat.lt_log2_self
  have h3 : 2 ^ (n.log2 + 2) = 2 ^ (n.log2 + 1) * 2 := Nat.pow_succ ..
  have h4 : 2 ^ (n.log2 + 2) ≤ 2 ^ k := Nat.pow_le_pow_right (by decide) h1
  have e1 : n / 2 ^ (n.log2 + 2) = 0 := Nat.div_eq_of_lt (by omega)
  have e2 : n % 2 ^ (n.log2 + 2) = n := Nat.mod_eq_of_lt (by omega)
  rw [e1, e2, decide_eq_false (by omega), beq_eq_false_iff_ne.2 (show ¬ 2 ^ (n.log2 + 2) = 2 * n by omega)]
  show Near n k 0
  unfold Near
  rw [Nat.zero_mul]
  refine ⟨by omega, by omega, fun e => by omega, fun e => by omega⟩
theorem near_mono {n k c n' k' c' : Nat} (h : Near n k c) (h' : Near n' k' c') (hle : n * 2 ^ k' ≤ n' * 2 ^ k) : c ≤ c' := by
 obtain ⟨_, a2, _, a4⟩ := h
 obtain ⟨b1, _, b3, _⟩ := h'
 refine Nat.le_of_not_lt (fun hlt => ?_)
 have hg : 0 < 2 ^ k := Nat.two_pow_pos k
 have hg' : 0 < 2 ^ k' := Nat.two_pow_pos k'
 generalize 2 ^ k = g at *
 generalize 2 ^ k' = g' at *
 have m1 : 2 * (c * g) * g' ≤ (2 * n + g) * g' := Nat.mul_le_mul_right _ a2
 have m2 : 2 * n' * g ≤ (2 * (c' * g') + g') * g := Nat.mul_le_mul_right _ b1
 have hp : 0 < g * g' := Nat.mul_pos hg hg'
 have e1 : 2 * (c * g) * g' = 2 * (c * (g * g')) := by rw [Nat.mul_assoc 2, Nat.mul_assoc c]
 have e2 : (2 * n + g) * g' = 2 * (n * g') + g * g' := by rw [Nat.add_mul, Nat.mul_assoc]
 have e3 : 2 * n' * g = 2 * (n' * g) := Nat.mul_assoc ..
 have e4 : (2 * (c' * g') + g') * g = 2 * (c' * (g * g')) + g * g' := by rw [Nat.add_mul, Nat.mul_assoc 2, Nat.mul_assoc c', Nat.mul_comm g' g]
 rw [e1, e2] at m1
 rw [e3, e4] at m2
 generalize hG : g * g' = G at *
 have k1 : (c' + 1) * G ≤ c * G := Nat.mul_le_mul_right _ hlt
 rw [Nat.add_mul, Nat.one_mul] at k1
 have f1 : c * G = c' * G + G := by omega
 have f2 : 2 * (c * G) = 2 * (n * g') + G := by omega
 have f3 : 2 * (n' * g) = 2 * (c' * G) + G := by omega
 have hc : c = c' + 1 := by
  have : c * G = (c' + 1) * G := by rw [Nat.add_mul, Nat.one_mul]; exact f1
  exact Nat.eq_of_mul_eq_mul_right hp this
 have t1 : 2 * (c * g) = 2 * n + g := by
  apply Nat.eq_of_mul_eq_mul_right hg'
  rw [e1, e2]; exact f2
 have t2 : 2 * n' = 2 * (c' * g') + g' := by
  apply Nat.eq_of_mul_eq_mul_right hg
  rw [e3, e4]; exact f3
 have := a4 t1
 have := b3 t2
 omega
theorem pow_le {m m' i i' j j' : Nat} (h : m * 2 ^ i ≤ m' * 2 ^ i') (e : j + i' = j' + i) : m * 2 ^ j ≤ m' * 2 ^ j' := by
 have h1 : m * 2 ^ i * 2 ^ j ≤ m' * 2 ^ i' * 2 ^ j := Nat.mul_le_mul_right _ h
 rw [Nat.mul_assoc, ← Nat.pow_add, Nat.mul_assoc, ← Nat.pow_add, show i' + j = j' + i from by omega, show i + j = j + i from by omega, Nat.pow_add, Nat.pow_add, ← Nat.mul_assoc, ← Nat.mul_assoc] at h1
 exact Nat.le_of_mul_le_mul_right h1 (Nat.two_pow_pos i)
theorem near_whole (c : Nat) : Near c 0 c := by
 unfold Near
 rw [Nat.pow_zero, Nat.mul_one]
 exact ⟨by omega, by omega, fun e => by omega, fun e => by omega⟩
def lst (m : Nat) (p : Int) : Int := max (p + m.log2 - 52) (-1074)
def kpt (m : Nat) (p : Int) : Nat := Toward.even.cut false (m <<< (p - lst m p).toNat) (lst m p - p).toNat
theorem nearest_eq {m : Nat} (p : Int) (hm : 0 < m) : dbl.nearest false m p = min ((lst m p + 1074).toNat * 4503599627370496 + kpt m p) 9218868437227405312 := by
 unfold Format.nearest
 rw [if_neg (by omega)]
 show (if false = true then _ else min ((lst m p - dbl.leastPlace).toNat * dbl.binade + kpt m p) dbl.infRung) = _
 rw [if_neg (by decide), d_bi, d_ir, d_lp, show lst m p - -1074 = lst m p + 1074 from by omega]
theorem kpt_near (m : Nat) (p : Int) : Near (m * 2 ^ (p - lst m p).toNat) (lst m p - p).toNat (kpt m p) := by
 unfold kpt
 rw [Nat.shiftLeft_eq]
 exact cut_near _ _ _
theorem kpt_le {m : Nat} {p : Int} : kpt m p ≤ 9007199254740992 := by
 refine near_mono (kpt_near m p) (near_whole _) ?_
 have h1 : m < 2 ^ (m.log2 + 1) := Nat.lt_log2_self
 have h2 : lst m p ≥ p + m.log2 - 52 := Int.le_max_left _ _
 rw [Nat.pow_zero, Nat.mul_one, show (9007199254740992 : Nat) = 2 ^ 53 from by decide, ← Nat.pow_add]
 have h3 : m * 2 ^ (p - lst m p).toNat ≤ 2 ^ (m.log2 + 1) * 2 ^ (p - lst m p).toNat := Nat.mul_le_mul_right _ (Nat.le_of_lt h1)
 rw [← Nat.pow_add] at h3
 exact Nat.le_trans h3 (Nat.pow_le_pow_right (by decide) (by omega))
theorem kpt_ge {m : Nat} {p : Int} (hm : 0 < m) (h : -1074 < lst m p) : 4503599627370496 ≤ kpt m p := by
 refine near_mono (near_whole _) (kpt_near m p) ?_
 have h1 : 2 ^ m.log2 ≤ m := Nat.log2_self_le (by omega)
 have h2 : lst m p = p + m.log2 - 52 := by unfold lst at h ⊢; omega
 rw [Nat.pow_zero, Nat.mul_one, show (4503599627370496 : Nat) = 2 ^ 52 from by decide, ← Nat.pow_add]
 have h3 : 2 ^ m.log2 * 2 ^ (p - lst m p).toNat ≤ m * 2 ^ (p - lst m p).toNat := Nat.mul_le_mul_right _ h1
 rw [← Nat.pow_add] at h3
 exact Nat.le_trans (Nat.pow_le_pow_right (by decide) (by omega)) h3
theorem nearest_mono {m m' : Nat} {b : Int} {i i' : Nat} (hm : 0 < m) (hm' : 0 < m') (h : m * 2 ^ i ≤ m' * 2 ^ i') : dbl.nearest false m (b + i) ≤ dbl.nearest false m' (b + i') := by
 rw [nearest_eq _ hm, nearest_eq _ hm']
 have key : (lst m (b + i) + 1074).toNat * 4503599627370496 + kpt m (b + i) ≤ (lst m' (b + i') + 1074).toNat * 4503599627370496 + kpt m' (b + i') := by
  have l1 : -1074 ≤ lst m (b + i) := Int.le_max_right _ _
  have l2 : -1074 ≤ lst m' (b + i') := Int.le_max_right _ _
  have l3 : lst m' (b + i') ≥ (b + i') + m'.log2 - 52 := Int.le_max_left _ _
  rcases Int.lt_trichotomy (lst m (b + i)) (lst m' (b + i')) with c | c | c
  ·have k1 := kpt_le (m := m) (p := b + i)
   have k2 := kpt_ge (m := m') (p := b + i') hm' (by omega)
   omega
  ·have k := near_mono (kpt_near m (b + i)) (kpt_near m' (b + i')) (by
    rw [Nat.mul_assoc, ← Nat.pow_add, Nat.mul_assoc, ← Nat.pow_add]
    exact pow_le h (by omega))
   rw [c]; omega
  ·exfalso
   have l4 : lst m (b + i) = (b + i) + m.log2 - 52 := by unfold lst at c l2 l1 ⊢; omega
   have h1 : 2 ^ m.log2 ≤ m := Nat.log2_self_le (by omega)
   have h2 : m' < 2 ^ (m'.log2 + 1) := Nat.lt_log2_self
   have h3 : 2 ^ m.log2 * 2 ^ i ≤ m * 2 ^ i := Nat.mul_le_mul_right _ h1
   have h4 : m' * 2 ^ i' < 2 ^ (m'.log2 + 1) * 2 ^ i' := Nat.mul_lt_mul_of_pos_right h2 (Nat.two_pow_pos i')
   rw [← Nat.pow_add] at h3 h4
   have h5 : 2 ^ (m'.log2 + 1 + i') ≤ 2 ^ (m.log2 + i) := Nat.pow_le_pow_right (by decide) (by omega)
   omega
 omega
end Go.Proofs.Ytmpnnpibpodmkaa.Pure
end
section
/- The document's Badness comes to the same number as the code's. -/
namespace Go.Proofs.Ytmpnnpibpodmkaa.Pure
open Go.RowKit Go.Proofs.YtmpnnpibpodmkaaW.PrintWords Go.Proofs.Ytmpnnpibpodmkaa.F
open Ieee (Format Datum)
theorem rabs_eq {x : Nat} (h : x < 18446744073709551616) : rabs x = absb x := by
 rw [absb_eq h]
 unfold rabs
 by_cases hs : (x : Int) / 9223372036854775808 = 1
 ·rw [if_pos (by simp [hs])]
  show x ^^^ 2 ^ 63 = _
  obtain ⟨y, hy, hy2⟩ : ∃ y, x = 2 ^ 63 + y ∧ y < 2 ^ 63 := ⟨x - 2 ^ 63, by omega, by omega⟩
  subst hy
  rw [show (9223372036854775808 : Nat) = 2 ^ 63 from rfl, Nat.add_mod_left, Nat.mod_eq_of_lt hy2]
  refine Nat.eq_of_testBit_eq fun i => ?_
  rw [Nat.testBit_xor, Nat.testBit_two_pow]
  by_cases hi : 63 = i
  ·subst hi
   rw [Nat.testBit_two_pow_add_eq]
   simp
  ·rw [decide_eq_false hi, Bool.xor_false]
   rcases Nat.lt_or_ge i 63 with h1 | h1
   ·exact Nat.testBit_two_pow_add_gt (by omega) y
   ·have e1 : y.testBit i = false := Nat.testBit_lt_two_pow (Nat.lt_of_lt_of_le hy2 (Nat.pow_le_pow_right (by decide) h1))
    have e2 : (2 ^ 63 + y).testBit i = false := Nat.testBit_lt_two_pow (Nat.lt_of_lt_of_le (show 2 ^ 63 + y < 2 ^ 64 from by omega) (Nat.pow_le_pow_right (by decide) (by omega)))
    rw [e1, e2]
 ·rw [if_neg (by simp [hs])]
  omega
theorem rcube_eq {x : Nat} (h : x < 18446744073709551616) : rcube x = cube x := by unfold rcube cube; rw [rabs_eq h]
theorem read_int {n : Nat} (h1 : 1 ≤ n) (h2 : n ≤ 10000) : ∃ L : Nat, L ≤ 13 ∧ dbl.read (floatOfInt .f64 (n : Int)) = .number false (n * 2 ^ (52 - L)) ((L : Int) - 52) := by
 obtain ⟨L, hL⟩ : ∃ L, L = n.log2 := ⟨_, rfl⟩
 have hlo : 2 ^ L ≤ n := by rw [hL]; exact Nat.log2_self_le (by omega)
 have hhi : n < 2 ^ (L + 1) := by rw [hL]; exact Nat.lt_log2_self
 have hl : L ≤ 13 := by
  rcases Nat.lt_or_ge 13 L with h | h
  ·have := Nat.pow_le_pow_right (show 0 < 2 from by decide) (show 14 ≤ L from h)
   have : (2 : Nat) ^ 14 = 16384 := rfl
   omega
  ·exact h
 refine ⟨L, hl, ?_⟩
 have hk1 : 4503599627370496 ≤ n * 2 ^ (52 - L) := by
  calc (4503599627370496 : Nat) = 2 ^ L * 2 ^ (52 - L) := by rw [← Nat.pow_add, show L + (52 - L) = 52 from by omega]
   _ ≤ _ := Nat.mul_le_mul_right _ hlo
 have hk2 : n * 2 ^ (52 - L) < 9007199254740992 := by
  calc n * 2 ^ (52 - L) < 2 ^ (L + 1) * 2 ^ (52 - L) := Nat.mul_lt_mul_of_pos_right hhi (Nat.two_pow_pos _)
   _ = 9007199254740992 := by rw [← Nat.pow_add, show L + 1 + (52 - L) = 53 from by omega]
 have hw : floatOfInt .f64 (n : Int) = (L + 1022) * 4503599627370496 + n * 2 ^ (52 - L) := by
  unfold floatOfInt FloatKind.nearest FloatKind.encode Format.write
  show Format.nearest dbl (decide ((n : Int) < 0)) (n : Int).natAbs 0 = _
  rw [show decide ((n : Int) < 0) = false from by simp, Int.natAbs_natCast]
  unfold Format.nearest Format.word
  rw [if_neg (by omega), ← hL]
  have e1 : (dbl.fractionBits : Int) = 52 := rfl
  have e2 : dbl.leastPlace = -1074 := rfl
  simp only [e1, e2, Bool.false_eq_true, if_false, d_bi, d_ir]
  rw [show max (0 + (L : Int) - 52) (-1074) = (L : Int) - 52 from by omega, show ((L : Int) - 52 - -1074).toNat = L + 1022 from by omega,
   show (0 - ((L : Int) - 52)).toNat = 52 - L from by omega, show ((L : Int) - 52 - 0).toNat = 0 from by omega]
  unfold Ieee.Toward.cut
  simp only [Nat.zero_min, Nat.shiftLeft_zero, Nat.div_one, Nat.mod_one]
  rw [Nat.shiftLeft_eq]
  simp
  omega
 generalize n * 2 ^ (52 - L) = K at *
 have hr : ((L + 1022) * 4503599627370496 + K) % 9223372036854775808 = (L + 1022) * 4503599627370496 + K := Nat.mod_eq_of_lt (by omega)
 have hd : ((L + 1022) * 4503599627370496 + K) / 9223372036854775808 = 0 := Nat.div_eq_of_lt (by omega)
 rw [hw]
 unfold Format.read
 simp only [d_sw, d_bi, d_ir, hr, hd]
 rw [if_neg (by omega), if_pos (by omega)]
 have e2 : dbl.leastPlace = -1074 := rfl
 rw [e2, show ((L + 1022) * 4503599627370496 + K) / 4503599627370496 - 1 = L + 1022 from by omega, show 4503599627370496 + ((L + 1022) * 4503599627370496 + K) % 4503599627370496 = K from by omega,
  show (-1074 : Int) + ((L + 1022 : Nat) : Int) = (L : Int) - 52 from by omega]
 rfl
theorem floor_cut (m d : Nat) : Ieee.Toward.cut .zero false m d = m / 2 ^ d := by
 unfold Ieee.Toward.cut
 simp only [Bool.toNat_false, Nat.add_zero]
 rw [pow_cut]
 rcases Nat.le_total d (m.log2 + 2) with h1 | h1
 ·rw [Nat.min_eq_left h1]
 ·rw [Nat.min_eq_right h1]
  have h2 : m < 2 ^ (m.log2 + 2) := Nat.lt_trans (Nat.lt_log2_self) (Nat.pow_lt_pow_right (by decide) (by omega))
  have h3 : m < 2 ^ d := Nat.lt_of_lt_of_le h2 (Nat.pow_le_pow_right (by decide) h1)
  rw [Nat.div_eq_of_lt h2, Nat.div_eq_of_lt h3]
theorem le_trunc {z n : Nat} {v : Int} (hz : z ≤ 9218868437227405312) (hv : floatToIntVal .f64 z .i64 = some v) (h1 : 1 ≤ n) (h2 : n ≤ 10000) :
  (dbl.order (floatOfInt .f64 (n : Int)) z = some .lt ∨ dbl.order (floatOfInt .f64 (n : Int)) z = some .eq) ↔ (n : Int) ≤ v := by
 obtain ⟨L, hl, hr⟩ := read_int h1 h2
 rcases read_pos hz with ⟨m, e, e1⟩ | e1
 ·have hv' : v = ((m * 2 ^ e.toNat / 2 ^ (-e).toNat : Nat) : Int) := by
   unfold floatToIntVal FloatKind.decode at hv
   rw [show FloatKind.f64.format.read z = _ from e1] at hv
   simp only [Datum.toInt, Datum.integral, floor_cut, Ieee.signed, Bool.false_eq_true, if_false, Nat.shiftLeft_eq] at hv
   split at hv
   ·simpa using (Option.some.inj hv).symm
   ·cases hv
  have ho : dbl.order (floatOfInt .f64 (n : Int)) z = some (compare ((n * 2 ^ (52 - L) * 2 ^ ((L : Int) - 52 - min ((L : Int) - 52) e).toNat : Nat) : Int) ((m * 2 ^ (e - min ((L : Int) - 52) e).toNat : Nat) : Int)) := by
   unfold Format.order
   rw [hr, e1]
   simp only [Datum.order, Ieee.signed, Bool.false_eq_true, if_false, Nat.shiftLeft_eq]
  rw [ho, hv']
  have hle : (some (compare ((n * 2 ^ (52 - L) * 2 ^ ((L : Int) - 52 - min ((L : Int) - 52) e).toNat : Nat) : Int) ((m * 2 ^ (e - min ((L : Int) - 52) e).toNat : Nat) : Int)) = some Ordering.lt ∨
    some (compare ((n * 2 ^ (52 - L) * 2 ^ ((L : Int) - 52 - min ((L : Int) - 52) e).toNat : Nat) : Int) ((m * 2 ^ (e - min ((L : Int) - 52) e).toNat : Nat) : Int)) = some Ordering.eq) ↔
    n * 2 ^ (52 - L) * 2 ^ ((L : Int) - 52 - min ((L : Int) - 52) e).toNat ≤ m * 2 ^ (e - min ((L : Int) - 52) e).toNat := by
   generalize n * 2 ^ (52 - L) * 2 ^ ((L : Int) - 52 - min ((L : Int) - 52) e).toNat = A
   generalize m * 2 ^ (e - min ((L : Int) - 52) e).toNat = B
   simp only [Option.some.injEq, Int.compare_eq_lt, Int.compare_eq_eq]
   omega
  rw [hle, Int.ofNat_le, Nat.le_div_iff_mul_le (Nat.two_pow_pos _), Nat.mul_assoc n, ← Nat.pow_add]
  rcases Int.le_total e 0 with h0 | h0
  ·rw [show e.toNat = 0 from by omega, Nat.pow_zero, Nat.mul_one]
   rw [show 52 - L + ((L : Int) - 52 - min ((L : Int) - 52) e).toNat = (-e).toNat + (e - min ((L : Int) - 52) e).toNat from by omega, Nat.pow_add, ← Nat.mul_assoc]
   exact ⟨fun h => Nat.le_of_mul_le_mul_right h (Nat.two_pow_pos _), fun h => Nat.mul_le_mul_right _ h⟩
  ·rw [show (-e).toNat = 0 from by omega, Nat.pow_zero, Nat.mul_one]
   rw [show 52 - L + ((L : Int) - 52 - min ((L : Int) - 52) e).toNat = 52 - L from by omega, show (e - min ((L : Int) - 52) e).toNat = e.toNat + (52 - L) from by omega, Nat.pow_add, ← Nat.mul_assoc]
   exact ⟨fun h => Nat.le_of_mul_le_mul_right h (Nat.two_pow_pos _), fun h => Nat.mul_le_mul_right _ h⟩
 ·unfold floatToIntVal FloatKind.decode at hv
  rw [show FloatKind.f64.format.read z = _ from e1] at hv
  simp [Datum.toInt, Datum.integral] at hv
theorem rbad_l0 {z : Nat} {v : Int} (hz : z ≤ 9218868437227405312) (hv : floatToIntVal .f64 z .i64 = some v) (h0 : 0 ≤ v) (h9 : v ≤ 9999) : ∀ (d n : Nat), (n : Int) + d = v →
  Ev (fun k => r2_Badness.l0 k z (n : Int)) v := by
 intro d
 induction d with
 | zero =>
  intro n hn
  have := mt (le_trunc hz hv (n := n + 1) (by omega) (by omega)).1 (by omega)
  refine Ev.step (fun k => by unfold r2_Badness.l0; rfl) (ev_neg ?_ (ev_ret (by omega)))
  rw [show wrap64 ((n : Int) + 1) = ((n + 1 : Nat) : Int) from by rw [w64 (by omega) (by omega)]; rfl]
  simpa using this
 | succ d ih =>
  intro n hn
  have := (le_trunc hz hv (n := n + 1) (by omega) (by omega)).2 (by omega)
  refine Ev.step (fun k => by unfold r2_Badness.l0; rfl) (ev_pos ?_ ?_)
  ·rw [show wrap64 ((n : Int) + 1) = ((n + 1 : Nat) : Int) from by rw [w64 (by omega) (by omega)]; rfl]
   simpa using this
  ·rw [show wrap64 ((n : Int) + 1) = ((n + 1 : Nat) : Int) from by rw [w64 (by omega) (by omega)]; rfl]
   exact ih (n + 1) (by omega)
theorem rbad_ev {x : Nat} (h : x < 18446744073709551616) : Ev (fun k => r2_Badness.f k x) (bdn x) := by
 unfold r2_Badness.f bdn ratio_Badness.f
 rw [rcube_eq h]
 by_cases hn : isNan x = true
 ·rw [if_pos hn]
  exact ev_pos hn (Ev.now _)
 ·rw [if_neg hn]
  refine ev_neg hn ?_
  have ha := abs_le h (by simpa using hn)
  have hc : Pos (cube x) := fop_pos (fop_pos (fop_pos (.inl (by decide)) ha) ha) ha
  cases ho : FloatKind.f64.format.order (cube x) 4666723172467343360 with
  | none =>
   refine ev_neg (by simp) ?_
   rw [if_neg (by simp)]
   by_cases hnn : isNan (cube x) = true
   ·exact ev_pos hnn (Ev.now _)
   ·exfalso
    rcases hc with hc | hc
    ·unfold Format.order at ho
     rw [show dbl.read 4666723172467343360 = _ from ten_k] at ho
     rcases read_pos hc with ⟨m, e, e1⟩ | e1 <;> (rw [show FloatKind.f64.format.read (cube x) = _ from e1] at ho; simp [Datum.order] at ho)
    ·rw [hc] at hnn; exact hnn nan_B
  | some o =>
   have hnn : isNan (cube x) = false := by
    cases hnn : isNan (cube x) with
    | false => rfl
    | true => rw [order_nan_l hnn] at ho; cases ho
   cases o with
   | lt =>
    refine ev_neg (by simp) (ev_neg (by simp [hnn]) ?_)
    rw [if_pos (by simp)]
    rcases hc with hc | hc
    ·obtain ⟨n, h1, h2, h3⟩ := trunc_ok hc ho
     rw [h1]
     show Ev _ n
     have := rbad_l0 hc h1 h2 h3 n.toNat 0 (by omega)
     exact this
    ·rw [hc, nan_B] at hnn; cases hnn
   | eq => rw [if_neg (by simp)]; exact ev_pos (by simp) (Ev.now _)
   | gt => rw [if_neg (by simp)]; exact ev_pos (by simp) (Ev.now _)
end Go.Proofs.Ytmpnnpibpodmkaa.Pure
end
section
/- How bad a number is rises with it. -/
namespace Go.Proofs.Ytmpnnpibpodmkaa.Pure
open Go.RowKit Go.Proofs.YtmpnnpibpodmkaaW.PrintWords Go.Proofs.Ytmpnnpibpodmkaa.F
open Ieee (Format Datum)
abbrev INFW : Nat := 9218868437227405312
theorem pos_fin {u : Nat} (h : u < INFW) : ∃ m k : Nat, dbl.read u = .number false m (-1074 + (k : Int)) ∧ mg u = m * 2 ^ k := by
 have hr : rg u = u := Nat.mod_eq_of_lt (by unfold INFW at h; omega)
 have hs : sg u = false := by
  unfold sg
  rw [Nat.div_eq_of_lt (by unfold INFW at h; omega)]; rfl
 obtain ⟨m, k, h1, h2⟩ := read_fin (x := u) (by rw [hr]; exact h)
 rw [hs] at h1
 rw [hr] at h2
 exact ⟨m, k, h1, h2⟩
theorem pos_inf : dbl.read INFW = .infinity false := by decide
theorem mg_le {u v : Nat} (h : u ≤ v) : mg u ≤ mg v := by
 rcases Nat.eq_or_lt_of_le h with h1 | h1
 ·rw [h1]; exact Nat.le_refl _
 ·exact Nat.le_of_lt (mg_mono h1)
theorem mg_pos {u : Nat} : 0 < mg u ↔ 0 < u := by
 have : mg 0 < mg u ↔ 0 < u := mg_lt
 rw [show mg 0 = 0 from rfl] at this
 exact this
theorem mul_fin {u w : Nat} (hu : u < INFW) (hw : w < INFW) : ∃ m k : Nat, fop .mul u w = dbl.nearest false m (-2148 + (k : Int)) ∧ mg u * mg w = m * 2 ^ k := by
 obtain ⟨m, k, h1, h2⟩ := pos_fin hu
 obtain ⟨n, l, h3, h4⟩ := pos_fin hw
 refine ⟨m * n, k + l, ?_, ?_⟩
 ·unfold fop floatBits Format.mul
  show (((dbl.read u).product (dbl.read w)).map dbl.write).getD NANB = _
  rw [h1, h3]
  show dbl.nearest (false ^^ false) (m * n) (-1074 + (k : Int) + (-1074 + (l : Int))) = _
  rw [show -1074 + (k : Int) + (-1074 + (l : Int)) = -2148 + ((k + l : Nat) : Int) from by omega]; rfl
 ·rw [h2, h4, Nat.pow_add, Nat.mul_mul_mul_comm]
theorem mul_inf {u w : Nat} (hu : u ≤ INFW) (hw : w ≤ INFW) (h0 : 0 < u) (h1 : 0 < w) (h : u = INFW ∨ w = INFW) : fop .mul u w = INFW := by
 unfold fop floatBits Format.mul
 show (((dbl.read u).product (dbl.read w)).map dbl.write).getD NANB = _
 have nz : ∀ {z : Nat}, z < INFW → 0 < z → ∃ m k, dbl.read z = .number false m k ∧ m ≠ 0 := by
  intro z hz h0
  obtain ⟨m, k, e1, e2⟩ := pos_fin hz
  refine ⟨m, _, e1, fun e => ?_⟩
  rw [e, Nat.zero_mul] at e2
  have := mg_pos.2 h0
  omega
 rcases Nat.lt_or_eq_of_le hu with cu | cu <;> rcases Nat.lt_or_eq_of_le hw with cw | cw
 ·omega
 ·obtain ⟨m, k, e1, e2⟩ := nz cu h0
  rw [cw, e1, pos_inf]
  show ((if m = 0 then none else some (Datum.infinity (false ^^ false))).map dbl.write).getD NANB = _
  rw [if_neg e2]; decide
 ·obtain ⟨m, k, e1, e2⟩ := nz cw h1
  rw [cu, e1, pos_inf]
  show ((if m = 0 then none else some (Datum.infinity (false ^^ false))).map dbl.write).getD NANB = _
  rw [if_neg e2]; decide
 ·rw [cu, cw, pos_inf]; decide
theorem mul_le {u w : Nat} (hu : u ≤ INFW) (hw : w ≤ INFW) (n1 : ¬ (u = INFW ∧ w = 0)) (n2 : ¬ (u = 0 ∧ w = INFW)) : fop .mul u w ≤ INFW := by
 rcases Nat.lt_or_eq_of_le hu with cu | cu
 ·rcases Nat.lt_or_eq_of_le hw with cw | cw
  ·obtain ⟨m, k, h1, _⟩ := mul_fin cu cw
   rw [h1]; exact write_pos m _
  ·rw [mul_inf hu hw (by omega) (by rw [cw]; decide) (.inr cw)]; exact Nat.le_refl _
 ·rw [mul_inf hu hw (by rw [cu]; decide) (by omega) (.inl cu)]; exact Nat.le_refl _
theorem mul_mono {u u' w w' : Nat} (hu : u ≤ u') (hw : w ≤ w') (hu' : u' ≤ INFW) (hw' : w' ≤ INFW) (n1 : ¬ (u = INFW ∧ w = 0)) (n2 : ¬ (u = 0 ∧ w = INFW)) (n3 : ¬ (u' = INFW ∧ w' = 0)) (n4 : ¬ (u' = 0 ∧ w' = INFW)) : fop .mul u w ≤ fop .mul u' w' := by
 by_cases h : u' = INFW ∨ w' = INFW
 ·rw [mul_inf hu' hw' (by rcases h with h | h <;> (unfold INFW at *; omega)) (by rcases h with h | h <;> (unfold INFW at *; omega)) h]
  exact mul_le (by omega) (by omega) n1 n2
 ·have cu' : u' < INFW := by omega
  have cw' : w' < INFW := by omega
  obtain ⟨m, k, h1, h2⟩ := mul_fin (show u < INFW by omega) (show w < INFW by omega)
  obtain ⟨m', k', h1', h2'⟩ := mul_fin cu' cw'
  have hv : m * 2 ^ k ≤ m' * 2 ^ k' := by
   rw [← h2, ← h2']
   exact Nat.mul_le_mul (mg_le hu) (mg_le hw)
  rw [h1, h1']
  rcases Nat.eq_zero_or_pos m with hm | hm
  ·rw [hm]; exact Nat.zero_le _
  ·have hm' : 0 < m' := by
    rcases Nat.eq_zero_or_pos m' with h0 | h0
    ·rw [h0, Nat.zero_mul] at hv
     have := Nat.mul_pos hm (Nat.two_pow_pos k)
     omega
    ·exact h0
   exact nearest_mono hm hm' hv
def cub (a : Nat) : Nat := fop .mul (fop .mul (fop .mul 4636737291354636288 a) a) a
theorem cub_parts {a : Nat} (ha : a ≤ INFW) : fop .mul 4636737291354636288 a ≤ INFW ∧ (a = 0 → fop .mul 4636737291354636288 a = 0) ∧ (a = INFW → fop .mul 4636737291354636288 a = INFW) ∧
  fop .mul (fop .mul 4636737291354636288 a) a ≤ INFW ∧ (a = 0 → fop .mul (fop .mul 4636737291354636288 a) a = 0) ∧ (a = INFW → fop .mul (fop .mul 4636737291354636288 a) a = INFW) := by
 have z1 : fop .mul 4636737291354636288 0 = 0 := by decide +kernel
 have z2 : fop .mul 4636737291354636288 INFW = INFW := by decide +kernel
 have z3 : fop .mul 0 0 = 0 := by decide +kernel
 have z4 : fop .mul INFW INFW = INFW := by decide +kernel
 have h1 : fop .mul 4636737291354636288 a ≤ INFW := mul_le (by decide) ha (fun h => absurd h.1 (by decide)) (fun h => absurd h.1 (by decide))
 have h2 : a = 0 → fop .mul 4636737291354636288 a = 0 := fun h => by rw [h]; exact z1
 have h3 : a = INFW → fop .mul 4636737291354636288 a = INFW := fun h => by rw [h]; exact z2
 refine ⟨h1, h2, h3, ?_, fun h => ?_, fun h => ?_⟩
 ·refine mul_le h1 ha (fun h => ?_) (fun h => ?_)
  ·have := h2 h.2; rw [h.1] at this; exact absurd this (by decide)
  ·have := h3 h.2; rw [h.1] at this; exact absurd this (by decide)
 ·rw [h2 h, h]; exact z3
 ·rw [h3 h, h]; exact z4
theorem cub_mono {a b : Nat} (h : a ≤ b) (hb : b ≤ INFW) : cub a ≤ cub b ∧ cub b ≤ INFW := by
 obtain ⟨a1, a2, a3, a4, a5, a6⟩ := cub_parts (show a ≤ INFW by omega)
 obtain ⟨b1, b2, b3, b4, b5, b6⟩ := cub_parts hb
 have ne : (0 : Nat) ≠ INFW := by decide
 have c1 : fop .mul 4636737291354636288 a ≤ fop .mul 4636737291354636288 b :=
  mul_mono (Nat.le_refl _) h (by decide) hb (fun h => absurd h.1 (by decide)) (fun h => absurd h.1 (by decide)) (fun h => absurd h.1 (by decide)) (fun h => absurd h.1 (by decide))
 have c2 := mul_mono c1 h b1 hb (fun h => ne ((a2 h.2).symm.trans h.1)) (fun h => ne (h.1.symm.trans (a3 h.2))) (fun h => ne ((b2 h.2).symm.trans h.1)) (fun h => ne (h.1.symm.trans (b3 h.2)))
 have c3 := mul_mono c2 h b4 hb (fun h => ne ((a5 h.2).symm.trans h.1)) (fun h => ne (h.1.symm.trans (a6 h.2))) (fun h => ne ((b5 h.2).symm.trans h.1)) (fun h => ne (h.1.symm.trans (b6 h.2)))
 exact ⟨c3, mul_le b4 hb (fun h => ne ((b5 h.2).symm.trans h.1)) (fun h => ne (h.1.symm.trans (b6 h.2)))⟩
theorem sm_pos {c : Nat} (h : c ≤ INFW) : sm c = (c : Int) ∧ rg c = c := by
 have hr : rg c = c := Nat.mod_eq_of_lt (by unfold INFW at h; omega)
 have hs : sg c = false := by
  unfold sg
  rw [Nat.div_eq_of_lt (by unfold INFW at h; omega)]; rfl
 refine ⟨?_, hr⟩
 unfold sm
 rw [hs, hr]; rfl
theorem ord_lt_pos {c d : Nat} (hc : c ≤ INFW) (hd : d ≤ INFW) : (dbl.order c d == some .lt) = decide (c < d) := by
 rw [order_sm (by rw [(sm_pos hc).2]; exact hc) (by rw [(sm_pos hd).2]; exact hd), (sm_pos hc).1, (sm_pos hd).1]
 rcases Nat.lt_trichotomy c d with h | h | h
 ·rw [cmp_lt (by omega), decide_eq_true h]; rfl
 ·subst h
  rw [show compare (c : Int) (c : Int) = .eq from by show compareOfLessAndEq _ _ = _; unfold compareOfLessAndEq; rw [if_neg (by omega), if_pos rfl], decide_eq_false (by omega)]; rfl
 ·rw [cmp_gt (by omega), decide_eq_false (by omega)]; rfl
theorem ord_le_up {f c d : Nat} (hc : c ≤ INFW) (hd : d ≤ INFW) (h : c ≤ d) (ho : dbl.order f c = some .lt ∨ dbl.order f c = some .eq) : dbl.order f d = some .lt ∨ dbl.order f d = some .eq := by
 have hf : rg f ≤ 9218868437227405312 := by
  rcases Nat.lt_or_ge 9218868437227405312 (rg f) with h1 | h1
  ·have hn : isNan f = true := nan_of_rung h1
   have := order_nan_l (y := c) hn
   rcases ho with ho | ho <;> (rw [show dbl.order f c = none from this] at ho; cases ho)
  ·exact h1
 have rc : rg c ≤ 9218868437227405312 := by rw [(sm_pos hc).2]; exact hc
 have rd : rg d ≤ 9218868437227405312 := by rw [(sm_pos hd).2]; exact hd
 rw [order_sm hf rc, (sm_pos hc).1] at ho
 rw [order_sm hf rd, (sm_pos hd).1]
 have hle : sm f ≤ (c : Int) := by
  rcases Int.lt_trichotomy (sm f) (c : Int) with h1 | h1 | h1
  ·omega
  ·omega
  ·rw [cmp_gt h1] at ho; rcases ho with ho | ho <;> cases ho
 rcases Int.lt_or_eq_of_le (show sm f ≤ (d : Int) by omega) with h1 | h1
 ·left; rw [cmp_lt h1]
 ·right
  rw [h1]
  show some (compareOfLessAndEq _ _) = _
  unfold compareOfLessAndEq; rw [if_neg (by omega), if_pos rfl]
theorem bdn_of {x : Nat} (h : x < 18446744073709551616) (hn : isNan x = false) : cub (absb x) ≤ INFW ∧
  (cub (absb x) < 4666723172467343360 → floatToIntVal .f64 (cub (absb x)) .i64 = some (bdn x)) ∧ (¬ cub (absb x) < 4666723172467343360 → bdn x = 10000) := by
 have ha := abs_le h hn
 have hc := (cub_mono (Nat.le_refl (absb x)) ha).2
 obtain ⟨_, _, hb⟩ := bdn_bd h
 unfold ratio_Badness.f at hb
 rw [if_neg (by rw [hn]; decide), show cube x = cub (absb x) from rfl, ord_lt_pos hc (by decide)] at hb
 refine ⟨hc, fun h1 => ?_, fun h1 => ?_⟩
 ·rw [decide_eq_true h1, if_pos rfl] at hb; exact hb
 ·rw [decide_eq_false h1, if_neg (by decide)] at hb
  exact (Option.some.inj hb).symm
theorem bdn_mono {x y : Nat} (hx : x < 18446744073709551616) (hy : y < 18446744073709551616) (nx : isNan x = false) (ny : isNan y = false) (h : absb x ≤ absb y) : bdn x ≤ bdn y := by
 obtain ⟨c1, t1, f1⟩ := bdn_of hx nx
 obtain ⟨c2, t2, f2⟩ := bdn_of hy ny
 have hm := (cub_mono h (abs_le hy ny)).1
 have b1 := bdn_bd hx
 have b2 := bdn_bd hy
 by_cases d2 : cub (absb y) < 4666723172467343360
 ·have v1 := t1 (by omega)
  have v2 := t2 d2
  rcases Int.lt_or_le 0 (bdn x) with h0 | h0
  ·have k1 := (le_trunc (n := (bdn x).toNat) c1 v1 (by omega) (by omega)).2 (by omega)
   have k2 := ord_le_up c1 c2 hm k1
   have k3 := (le_trunc (n := (bdn x).toNat) c2 v2 (by omega) (by omega)).1 k2
   omega
  ·omega
 ·rw [f2 d2]; omega
end Go.Proofs.Ytmpnnpibpodmkaa.Pure
end
section
/- RatioBadness: how bad a number is, is the document's; it rises with it, whatever its sign. -/
namespace Go.Proofs.Ytmpnnpibpodmkaa.Pure
open Go.RowKit Go.Proofs.YtmpnnpibpodmkaaW.PrintWords Go.Proofs.Ytmpnnpibpodmkaa.F
def PW (x : Nat) : Prop := x < 18446744073709551616 ∨ isNan x = true
theorem wn5 {n : Nat} (h : n ≤ 100000) : wrap64 ((n : Int) + 1) = ((n + 1 : Nat) : Int) := by
 rw [w64 (by omega) (by omega)]; rfl
theorem absb_all (x : Nat) : absb x = x % 9223372036854775808 := by
 have h : absb x = absb (x % 18446744073709551616) := by
  unfold absb Go.bits
  have e : BitVec.ofInt (IntKind.bits .u64) (x : Int) = BitVec.ofInt (IntKind.bits .u64) ((x % 18446744073709551616 : Nat) : Int) := by
   show BitVec.ofInt 64 (x : Int) = BitVec.ofInt 64 ((x % 18446744073709551616 : Nat) : Int)
   rw [BitVec.ofInt_natCast, BitVec.ofInt_natCast]
   apply BitVec.eq_of_toNat_eq
   simp
  rw [e]
 rw [h, absb_eq (Nat.mod_lt _ (by decide))]
 omega
theorem neg_rg (x : Nat) : rg (Op.negFloat .f64 x) = rg x := by
 show (x ^^^ 2 ^ 63) % 9223372036854775808 = x % 9223372036854775808
 rw [show (9223372036854775808 : Nat) = 2 ^ 63 from by decide, Nat.xor_mod_two_pow]
 simp
theorem neg_bad (x : Nat) : ratio_Badness.f (Op.negFloat .f64 x) = ratio_Badness.f x := by
 have h1 : isNan (Op.negFloat .f64 x) = isNan x := by rw [nan_rg, nan_rg, neg_rg]
 have h2 : absb (Op.negFloat .f64 x) = absb x := by
  rw [absb_all, absb_all]; exact neg_rg x
 unfold ratio_Badness.f cube
 rw [h1, h2]
theorem bad_eq {x : Nat} (h : PW x) : ratio_Badness.f x = some (bdn x) ∧ 0 ≤ bdn x ∧ bdn x ≤ 10000 := by
 rcases h with h | h
 ·have := bdn_bd h
  exact ⟨this.2.2, this.1, this.2.1⟩
 ·have e : ratio_Badness.f x = some 0 := by unfold ratio_Badness.f; rw [if_pos h]
  have e2 : bdn x = 0 := by unfold bdn; rw [e]; rfl
  rw [e2, e]
  exact ⟨rfl, by decide, by decide⟩
theorem rbad_all {x : Nat} (h : PW x) : Ev (fun k => r2_Badness.f k x) (bdn x) := by
 rcases h with h | h
 ·exact rbad_ev h
 ·have e : ratio_Badness.f x = some 0 := by unfold ratio_Badness.f; rw [if_pos h]
  have e2 : bdn x = 0 := by unfold bdn; rw [e]; rfl
  rw [e2]
  unfold r2_Badness.f
  exact ev_pos h (Ev.now _)
theorem bad_le {x y : Nat} (hx : PW x) (hy : PW y) (h : ((FloatKind.f64.format.order (absb x) (absb y) == some .lt) || (FloatKind.f64.format.order (absb x) (absb y) == some .eq)) = true) : bdn x ≤ bdn y := by
 have ra : ∀ z, rg (absb z) = rg z := fun z => by rw [absb_all]; unfold rg; omega
 have nx : isNan x = false := by
  rcases Bool.eq_false_or_eq_true (isNan x) with hh | hh
  ·have : isNan (absb x) = true := by rw [nan_rg, ra, ← nan_rg]; exact hh
   rw [order_nan_l this] at h; exact absurd h (by decide)
  ·exact hh
 have ny : isNan y = false := by
  rcases Bool.eq_false_or_eq_true (isNan y) with hh | hh
  ·have : isNan (absb y) = true := by rw [nan_rg, ra, ← nan_rg]; exact hh
   rw [order_nan_r this] at h; exact absurd h (by decide)
  ·exact hh
 have wx : x < 18446744073709551616 := hx.resolve_right (by rw [nx]; decide)
 have wy : y < 18446744073709551616 := hy.resolve_right (by rw [ny]; decide)
 have ax := abs_le wx nx
 have ay := abs_le wy ny
 refine bdn_mono wx wy nx ny ?_
 rw [show FloatKind.f64.format.order (absb x) (absb y) = some (compare (sm (absb x)) (sm (absb y))) from order_sm (by rw [(sm_pos ax).2]; exact ax) (by rw [(sm_pos ay).2]; exact ay), (sm_pos ax).1, (sm_pos ay).1] at h
 rcases Nat.lt_or_ge (absb y) (absb x) with c | c
 ·rw [cmp_gt (by omega)] at h
  exact absurd h (by decide)
 ·exact c
theorem edgy_lt : ∀ x ∈ EDGY, x < 18446744073709551616 := by decide
theorem rd_pw {l : List Nat} (h : ∀ x ∈ l, PW x) {i : Nat} (hi : i < l.length) : PW (rdOf (0 : Nat) l (i : Int)) := by
 show PW (l.getD i 0)
 rw [List.getD_eq_getElem?_getD, List.getElem?_eq_getElem hi]
 exact h _ (List.getElem_mem hi)
section
variable {a : Nat} {E : List Nat} (hE : ∀ x ∈ E, PW x) (lE : E.length ≤ 1000)
theorem bad_l1 {L i : Int} {x : Nat} {Y : List Nat} (hx : PW x) (hY : ∀ y ∈ Y, PW y) (lY : Y.length ≤ 1000) (hn : Ev (fun k => stanzalaw12_RatioBadness.l0 k a E L (wrap64 (i + 1))) true) : ∀ (d j : Nat), j + d = Y.length →
  Ev (fun k => stanzalaw12_RatioBadness.l1 k a x (bdn x) E L i Y (Y.length : Int) (j : Int)) true := by
 intro d
 induction d with
 | zero =>
  intro j hj
  exact Ev.step (fun k => by unfold stanzalaw12_RatioBadness.l1; rfl) (ev_neg (by omega) hn)
 | succ d ih =>
  intro j hj
  have ih' := ih (j + 1) (by omega)
  rw [← wn5 (show j ≤ 100000 by omega)] at ih'
  have hy := rd_pw hY (show j < Y.length by omega)
  refine Ev.step (fun k => by unfold stanzalaw12_RatioBadness.l1; rfl) (ev_pos (by omega) (ev_pos (by omega) (ev_pos (by omega) ?_)))
  generalize rdOf (0 : Nat) Y (j : Int) = y at *
  have m1 : math_Abs.f x = some (absb x) := rfl
  have m2 : math_Abs.f y = some (absb y) := rfl
  refine ev_bind' m1 ?_
  refine ev_bind' m2 ?_
  by_cases c : ((FloatKind.f64.format.order (absb x) (absb y) == some .lt) || (FloatKind.f64.format.order (absb x) (absb y) == some .eq)) = true
  ·refine ev_pos c ?_
   refine ev_bind' (bad_eq hy).1 ?_
   have := bad_le hx hy c
   exact ev_neg (by omega) ih'
  ·exact ev_neg c ih'
include hE lE
theorem bad_l0 (ha : PW a) : ∀ (d i : Nat), i + d = E.length → Ev (fun k => stanzalaw12_RatioBadness.l0 k a E (E.length : Int) (i : Int)) true := by
 intro d
 induction d with
 | zero =>
  intro i hi
  exact Ev.step (fun k => by unfold stanzalaw12_RatioBadness.l0; rfl) (ev_neg (by omega) (Ev.now _))
 | succ d ih =>
  intro i hi
  have hn := ih (i + 1) (by omega)
  rw [← wn5 (show i ≤ 100000 by omega)] at hn
  have hx := rd_pw hE (show i < E.length by omega)
  refine Ev.step (fun k => by unfold stanzalaw12_RatioBadness.l0; rfl) (ev_pos (by omega) (ev_pos (by omega) (ev_pos (by omega) ?_)))
  generalize rdOf (0 : Nat) E (i : Int) = x at *
  obtain ⟨b1, b2, b3⟩ := bad_eq hx
  refine ev_bind' b1 ?_
  refine ev_bind (rbad_all hx) ?_
  refine ev_pos rfl ?_
  refine ev_bind' ((neg_bad x).trans b1) ?_
  refine ev_pos rfl (ev_neg (by omega) ?_)
  rw [decide_eq_false (show ¬ bdn x > 10000 by omega)]
  refine Ev.step (fun k => by unfold stanzalaw12_RatioBadness.j1; rfl) (ev_neg (by decide) ?_)
  refine ev_bind' edges_y ?_
  refine ev_pos (by decide) (ev_let ?_)
  have hY : ∀ y ∈ EDGY ++ [a], PW y := by
   intro y hy
   rcases List.mem_append.1 hy with h | h
   ·exact .inl (edgy_lt y h)
   ·rw [List.mem_singleton] at h; rw [h]; exact ha
  exact bad_l1 hx hY (by rw [List.length_append]; show 23 + 1 ≤ 1000; decide) hn (EDGY ++ [a]).length 0 (Nat.zero_add _)
end
theorem RatioBadness : stanzalaw12_RatioBadness.Pure := by
 intro a p q ha _ _
 have ha' : a < 18446744073709551616 := by simpa [Lit.wf] using ha
 refine Ev.rounds ?_
 unfold stanzalaw12_RatioBadness.f
 refine ev_bind awake12 (ev_pos rfl (@ev_pos _ _ (Classical.propDecidable _) _ _ _ ?_ (Ev.now _)))
 intro b hb
 have hP : PW b := by
  rcases hb with h | h
  ·rw [← h]; exact .inl (fop_lt _ _ _)
  ·exact .inr h.2
 have hE : ∀ x ∈ EDGY ++ [a, b], PW x := by
  intro x hx
  rcases List.mem_append.1 hx with h | h
  ·exact .inl (edgy_lt x h)
  ·simp only [List.mem_cons, List.not_mem_nil, or_false] at h
   rcases h with rfl | rfl
   ·exact .inl ha'
   ·exact hP
 exact Ev.rounds (bad_l0 hE (by rw [List.length_append]; show 23 + 2 ≤ 1000; decide) (.inl ha') (EDGY ++ [a, b]).length 0 (Nat.zero_add _))
end Go.Proofs.Ytmpnnpibpodmkaa.Pure
end
