/- Plain proofs: what the printed functions compute. -/
import Derived.Test.YtmpnnpibpodmkaaXRatioOf0
import Derived.WalkKit
import Derived.Test.YtmpnnpibpodmkaaVRatioOf0
section
/- Helpers of the plain proofs: eventual values (Ev), wrapped numbers, lists. -/
namespace Go.Proofs.Ytmpnnpibpodmkaa.Pure
open Go.RowKit Go.Proofs.YtmpnnpibpodmkaaW.PrintWords

theorem ev_pos {α : Type} {c : Prop} [Decidable c] {a b : Nat → Option α} {r : α} (h : c) (H : Ev a r) : Ev (fun k => if c then a k else b k) r := by simpa [h] using H
theorem ev_neg {α : Type} {c : Prop} [Decidable c] {a b : Nat → Option α} {r : α} (h : ¬ c) (H : Ev b r) : Ev (fun k => if c then a k else b k) r := by simpa [h] using H
theorem ev_eq {α : Type} {o : Option α} {r : α} (h : o = some r) : Ev (fun _ => o) r := by subst h; exact Ev.now _
theorem ev_ret {α : Type} {x r : α} (h : x = r) : Ev (fun _ => some x) r := by subst h; exact Ev.now _
theorem ev_bind {α β : Type} {g : Nat → Option α} {f : Nat → α → Option β} {a : α} {r : β} (h : Ev g a) (k : Ev (fun n => f n a) r) : Ev (fun n => (g n).bind (f n)) r := Ev.bind h k
theorem ev_bind' {α β : Type} {o : Option α} {f : Nat → α → Option β} {a : α} {r : β} (h : o = some a) (k : Ev (fun n => f n a) r) : Ev (fun n => o.bind (f n)) r := by subst h; exact k
theorem ev_let {α β : Type} {a : α} {f : Nat → α → Option β} {r : β} (k : Ev (fun n => f n a) r) : Ev (fun n => (some a).bind (f n)) r := k
theorem ev_uniq {α : Type} {g : Nat → Option α} {a b : α} (h : Ev g a) (k : Ev g b) : a = b := by
 obtain ⟨m, hm⟩ := h
 obtain ⟨n, hn⟩ := k
 have h1 := hm (max m n) (Nat.le_max_left _ _)
 have h2 := hn (max m n) (Nat.le_max_right _ _)
 exact Option.some.inj (h1.symm.trans h2)

theorem w64 {x : Int} (h1 : -9223372036854775808 ≤ x) (h2 : x ≤ 9223372036854775807) : wrap64 x = x := by unfold wrap64; omega
theorem tmodp {a b : Int} (h : 0 ≤ a) : Int.tmod a b = a % b := Int.tmod_eq_emod_of_nonneg h
theorem tdivp {a b : Int} (h : 0 ≤ a) : Int.tdiv a b = a / b := Int.tdiv_eq_ediv_of_nonneg h
theorem wfu8 {x : Int} : (Lit.int .u8 x).wf = true ↔ 0 ≤ x ∧ x ≤ 255 := by simp [Lit.wf, IntKind.min, IntKind.max, IntKind.signed, IntKind.bits]
theorem wfu16 {x : Int} : (Lit.int .u16 x).wf = true ↔ 0 ≤ x ∧ x ≤ 65535 := by simp [Lit.wf, IntKind.min, IntKind.max, IntKind.signed, IntKind.bits]
theorem wfu32 {x : Int} : (Lit.int .u32 x).wf = true ↔ 0 ≤ x ∧ x ≤ 4294967295 := by simp [Lit.wf, IntKind.min, IntKind.max, IntKind.signed, IntKind.bits]
theorem wfi64 {x : Int} : (Lit.int .i64 x).wf = true ↔ -9223372036854775808 ≤ x ∧ x ≤ 9223372036854775807 := by simp [Lit.wf, IntKind.min, IntKind.max, IntKind.signed, IntKind.bits]
theorem wfi32 {x : Int} : (Lit.int .i32 x).wf = true ↔ -2147483648 ≤ x ∧ x ≤ 2147483647 := by simp [Lit.wf, IntKind.min, IntKind.max, IntKind.signed, IntKind.bits]
theorem u64mod {x n : Int} (h1 : 0 < n) (h2 : n ≤ 9223372036854775807) : wrap64 (Int.tmod (IntKind.u64.wrap x) (IntKind.u64.wrap n)) = (x % 18446744073709551616) % n := by
 have hw : ∀ y, IntKind.u64.wrap y = y % 18446744073709551616 := fun y => by simp [IntKind.wrap, IntKind.signed, IntKind.bits]
 rw [hw, hw, Int.emod_eq_of_lt (by omega) (by omega : n < 18446744073709551616), tmodp (by omega)]
 have h3 := Int.emod_nonneg (x % 18446744073709551616) (by omega : n ≠ 0)
 have h4 := Int.emod_lt_of_pos (x % 18446744073709551616) h1
 exact w64 (by omega) (by omega)

theorem rd_nat (xs : List Int) (n : Nat) : rd xs (n : Int) = xs.getD n 0 := rfl
theorem getD_map_range (g : Nat → Int) {n i : Nat} (h : i < n) : ((List.range n).map g).getD i 0 = g i := by
 rw [List.getD_eq_getElem?_getD, List.getElem?_map, List.getElem?_range h]; rfl
theorem rd_map_range (g : Nat → Int) {n i : Nat} (h : i < n) : rd ((List.range n).map g) (i : Int) = g i := getD_map_range g h
theorem map_range_snoc {α : Type} (g : Nat → α) (n : Nat) : (List.range n).map g ++ [g n] = (List.range (n + 1)).map g := by
 rw [List.range_succ, List.map_append]; rfl
theorem mod3 (x : Int) : 0 ≤ x % 3 ∧ x % 3 ≤ 2 := by omega
theorem mod4 (x : Int) : 0 ≤ x % 4 ∧ x % 4 ≤ 3 := by omega
end Go.Proofs.Ytmpnnpibpodmkaa.Pure
end
section
/- How bad a line is, is always told: a number from 0 to 10000. -/
namespace Go.Proofs.Ytmpnnpibpodmkaa.Pure
open Go.RowKit Go.Proofs.YtmpnnpibpodmkaaW.PrintWords Go.Proofs.Ytmpnnpibpodmkaa.F
open Ieee (Format Datum)
abbrev dbl : Format := FloatKind.f64.format
theorem d_sw : dbl.signWeight = 9223372036854775808 := by decide
theorem d_bi : dbl.binade = 4503599627370496 := by decide
theorem d_ir : dbl.infRung = 9218868437227405312 := by decide
/-- a word without a sign that is no NaN -/
theorem read_pos {b : Nat} (h : b ≤ 9218868437227405312) : (∃ m e, dbl.read b = .number false m e) ∨ dbl.read b = .infinity false := by
 unfold Format.read
 simp only [d_sw, d_bi, d_ir]
 have h1 : b % 9223372036854775808 = b := Nat.mod_eq_of_lt (by omega)
 have h2 : b / 9223372036854775808 = 0 := Nat.div_eq_of_lt (by omega)
 rw [h1, h2]
 by_cases c1 : b < 4503599627370496
 ·rw [if_pos c1]; exact .inl ⟨_, _, rfl⟩
 ·rw [if_neg c1]
  by_cases c2 : b < 9218868437227405312
  ·rw [if_pos c2]; exact .inl ⟨_, _, rfl⟩
  ·rw [if_neg c2, if_pos (by omega)]; exact .inr rfl
theorem write_pos (m : Nat) (e : Int) : dbl.write (.number false m e) ≤ 9218868437227405312 := by
 show dbl.nearest false m e ≤ _
 unfold Format.nearest Format.word
 split
 ·simp
 ·simp only [Bool.false_eq_true, if_false, d_ir]
  exact Nat.min_le_right _ _
theorem write_inf : dbl.write (.infinity false) = 9218868437227405312 := by decide
/-- a word without a sign that is no NaN, or the NaN that stands for all -/
def Pos (b : Nat) : Prop := b ≤ 9218868437227405312 ∨ b = NANB
theorem fop_pos {x y : Nat} (hx : Pos x) (hy : y ≤ 9218868437227405312) : Pos (fop .mul x y) := by
 rcases hx with hx | rfl
 ·unfold fop floatBits Format.mul
  rcases read_pos hx with ⟨m, e, e1⟩ | e1 <;> rcases read_pos hy with ⟨n, i, e2⟩ | e2 <;> rw [e1, e2] <;> simp only [Datum.product]
  ·exact .inl (write_pos _ _)
  ·split
   ·exact .inr rfl
   ·exact .inl (by simp [write_inf])
  ·split
   ·exact .inr rfl
   ·exact .inl (by simp [write_inf])
  ·exact .inl (by simp [write_inf])
 ·right
  unfold fop
  rw [bits_nan_l nan_B]; rfl
theorem ten_k : dbl.read 4666723172467343360 = .number false 5497558138880000 (-39) := by decide
theorem pow_cut (k : Nat) : (1 <<< k : Nat) = 2 ^ k := by rw [Nat.shiftLeft_eq, Nat.one_mul]
theorem cut_le {m k : Nat} (h : m < 10000 * 2 ^ k) : m / 2 ^ min k (m.log2 + 2) ≤ 9999 := by
 rcases Nat.le_total k (m.log2 + 2) with h1 | h1
 ·rw [Nat.min_eq_left h1]
  have := (Nat.div_lt_iff_lt_mul (Nat.two_pow_pos k)).2 h
  omega
 ·rw [Nat.min_eq_right h1]
  have h2 : m < 2 ^ (m.log2 + 2) := Nat.lt_trans (Nat.lt_log2_self) (Nat.pow_lt_pow_right (by decide) (by omega))
  rw [Nat.div_eq_of_lt h2]
  omega
/-- a word below 10000 has a whole part below 10000 -/
theorem trunc_ok {y : Nat} (hy : y ≤ 9218868437227405312) (hl : dbl.order y 4666723172467343360 = some .lt) : ∃ n : Int, floatToIntVal .f64 y .i64 = some n ∧ 0 ≤ n ∧ n ≤ 9999 := by
 unfold Format.order at hl
 rw [ten_k] at hl
 rcases read_pos hy with ⟨m, e, e1⟩ | e1
 ·rw [e1] at hl
  simp only [Datum.order, Ieee.signed, Bool.false_eq_true, if_false, Option.some.injEq] at hl
  have hl := Int.compare_eq_lt.1 hl
  have hv : ∃ v : Nat, (Datum.number false m e).toInt .zero = some (v : Int) ∧ v ≤ 9999 := by
   refine ⟨Ieee.Toward.cut .zero false (m <<< e.toNat) (-e).toNat, ?_, ?_⟩
   ·simp [Datum.toInt, Datum.integral, Ieee.signed]
   ·unfold Ieee.Toward.cut
    simp only [Bool.toNat_false, Nat.add_zero]
    rw [pow_cut, Nat.shiftLeft_eq]
    have hl2 : m * 2 ^ (e - min e (-39)).toNat < 5497558138880000 * 2 ^ (-39 - min e (-39)).toNat := by
     rw [Nat.shiftLeft_eq, Nat.shiftLeft_eq] at hl
     exact Int.ofNat_lt.1 hl
    rcases Int.lt_or_le e (-39) with he | he
    ·rw [show min e (-39) = e from by omega, show (e - e).toNat = 0 from by omega, Nat.pow_zero, Nat.mul_one] at hl2
     rw [show e.toNat = 0 from by omega, Nat.pow_zero, Nat.mul_one]
     have e3 : (5497558138880000 : Nat) * 2 ^ (-39 - e).toNat = 10000 * 2 ^ (-e).toNat := by
      rw [show (-e).toNat = (-39 - e).toNat + 39 from by omega, Nat.pow_add]; omega
     rw [e3] at hl2
     exact cut_le hl2
    ·rw [show min e (-39) = -39 from by omega, show (-39 - (-39 : Int)).toNat = 0 from by decide, Nat.pow_zero, Nat.mul_one] at hl2
     rcases Int.lt_or_le e 0 with h0 | h0
     ·rw [show e.toNat = 0 from by omega, Nat.pow_zero, Nat.mul_one]
      refine cut_le ?_
      have e4 : (549755813888 : Nat) = 2 ^ (e - -39).toNat * 2 ^ (-e).toNat := by
       rw [← Nat.pow_add, show (e - -39).toNat + (-e).toNat = 39 from by omega]
      have e5 : m * 2 ^ (e - -39).toNat < 10000 * 2 ^ (-e).toNat * 2 ^ (e - -39).toNat := by
       have : (5497558138880000 : Nat) = 10000 * 549755813888 := by decide
       rw [this, e4] at hl2
       calc _ < _ := hl2
        _ = _ := by rw [Nat.mul_assoc, Nat.mul_comm (2 ^ (-e).toNat)]
      exact Nat.lt_of_mul_lt_mul_right e5
     ·rw [show (-e).toNat = 0 from by omega]
      simp only [Nat.zero_min, Nat.pow_zero, Nat.div_one]
      have e6 : m * 2 ^ (e - -39).toNat = m * 2 ^ e.toNat * 549755813888 := by
       rw [show (e - -39).toNat = e.toNat + 39 from by omega, Nat.pow_add, Nat.mul_assoc]
      rw [e6] at hl2
      omega
  obtain ⟨v, hv1, hv2⟩ := hv
  refine ⟨v, ?_, by omega, by omega⟩
  unfold floatToIntVal FloatKind.decode
  rw [show FloatKind.f64.format.read y = _ from e1, hv1]
  simp only
  rw [if_pos]
  constructor
  ·show (-9223372036854775808 : Int) ≤ _; omega
  ·show _ ≤ (9223372036854775807 : Int); omega
 ·rw [e1] at hl
  simp [Datum.order] at hl
theorem absb_eq {x : Nat} (h : x < 18446744073709551616) : absb x = x % 9223372036854775808 := by
 unfold absb
 rw [u64_andNot (x : Int) 9223372036854775808 (by omega) (by omega) (by decide) (by decide)]
 rw [Int.toNat_natCast, Int.toNat_natCast]
 exact Nat.and_two_pow_sub_one_eq_mod x 63
theorem abs_le {x : Nat} (h : x < 18446744073709551616) (hn : isNan x = false) : absb x ≤ 9218868437227405312 := by
 rw [absb_eq h]
 rcases Nat.lt_or_ge 9218868437227405312 (x % 9223372036854775808) with h1 | h1
 ·rw [nan_of_rung h1] at hn; cases hn
 ·exact h1
theorem badness_ok {x : Nat} (h : x < 18446744073709551616) : ∃ n : Int, ratio_Badness.f x = some n ∧ 0 ≤ n ∧ n ≤ 10000 := by
 unfold ratio_Badness.f
 by_cases hn : isNan x = true
 ·rw [if_pos hn]; exact ⟨0, rfl, by decide, by decide⟩
 ·rw [if_neg hn]
  have ha := abs_le h (by simpa using hn)
  have hc : Pos (cube x) := fop_pos (fop_pos (fop_pos (.inl (by decide)) ha) ha) ha
  by_cases hl : (FloatKind.f64.format.order (cube x) 4666723172467343360 == some .lt) = true
  ·rw [if_pos hl]
   have hl' : dbl.order (cube x) 4666723172467343360 = some .lt := by simpa using hl
   rcases hc with hc | hc
   ·obtain ⟨n, h1, h2, h3⟩ := trunc_ok hc hl'
    exact ⟨n, h1, h2, by omega⟩
   ·rw [hc, show dbl.order NANB 4666723172467343360 = none from order_nan_l nan_B] at hl'
    cases hl'
  ·rw [if_neg hl]; exact ⟨10000, rfl, by decide, by decide⟩
theorem fop_lt (op : BinOp) (x y : Nat) : fop op x y < 18446744073709551616 := by
 unfold fop
 cases h : floatBits op .f64 x y with
 | none => decide
 | some r =>
  have := floatBits_wf h
  simpa [Lit.wf] using this
end Go.Proofs.Ytmpnnpibpodmkaa.Pure
end
section
/- How floats stand to each other, by their bits. -/
namespace Go.Proofs.Ytmpnnpibpodmkaa.Pure
open Go.RowKit Go.Proofs.YtmpnnpibpodmkaaW.PrintWords
open Ieee (Format Datum)
def rg (x : Nat) : Nat := x % 9223372036854775808
def sg (x : Nat) : Bool := x / 9223372036854775808 % 2 == 1
/-- sign and rung as one number -/
def sm (x : Nat) : Int := if sg x = true then -(rg x : Int) else (rg x : Int)
/-- a rung's magnitude in units of the last place -/
def mg (r : Nat) : Nat := if r < 4503599627370496 then r else (4503599627370496 + r % 4503599627370496) * 2 ^ (r / 4503599627370496 - 1)
theorem mg_ge {r : Nat} (h : ¬ r < 4503599627370496) : 4503599627370496 * 2 ^ (r / 4503599627370496 - 1) ≤ mg r ∧ mg r < 4503599627370496 * 2 ^ (r / 4503599627370496) := by
 unfold mg
 rw [if_neg h]
 refine ⟨Nat.mul_le_mul_right _ (by omega), ?_⟩
 have h1 : 2 ^ (r / 4503599627370496) = 2 ^ (r / 4503599627370496 - 1) * 2 := by
  rw [← Nat.pow_succ]; congr 1; omega
 rw [h1, ← Nat.mul_assoc, Nat.mul_comm 4503599627370496, Nat.mul_assoc, Nat.mul_comm (2 ^ _)]
 exact Nat.mul_lt_mul_of_pos_right (by omega) (Nat.two_pow_pos _)
theorem mg_mono {r q : Nat} (h : r < q) : mg r < mg q := by
 by_cases c1 : r < 4503599627370496
 ·by_cases c2 : q < 4503599627370496
  ·unfold mg; rw [if_pos c1, if_pos c2]; exact h
  ·have h2 := (mg_ge c2).1
   have h3 : 4503599627370496 * 1 ≤ 4503599627370496 * 2 ^ (q / 4503599627370496 - 1) := Nat.mul_le_mul_left _ (Nat.two_pow_pos _)
   have h4 : mg r = r := by unfold mg; rw [if_pos c1]
   omega
 ·have c2 : ¬ q < 4503599627370496 := by omega
  rcases Nat.lt_or_ge (r / 4503599627370496) (q / 4503599627370496) with h1 | h1
  ·have h2 := (mg_ge c1).2
   have h3 := (mg_ge c2).1
   have h4 : 4503599627370496 * 2 ^ (r / 4503599627370496) ≤ 4503599627370496 * 2 ^ (q / 4503599627370496 - 1) := Nat.mul_le_mul_left _ (Nat.pow_le_pow_right (by decide) (by omega))
   omega
  ·have he : r / 4503599627370496 = q / 4503599627370496 := by omega
   unfold mg
   rw [if_neg c1, if_neg c2, he]
   exact Nat.mul_lt_mul_of_pos_right (by omega) (Nat.two_pow_pos _)
theorem mg_lt {r q : Nat} : mg r < mg q ↔ r < q := by
 refine ⟨fun h => ?_, mg_mono⟩
 rcases Nat.lt_trichotomy r q with h1 | h1 | h1
 ·exact h1
 ·rw [h1] at h; omega
 ·have := mg_mono h1; omega
theorem d_lp : dbl.leastPlace = -1074 := by decide
theorem read_fin {x : Nat} (h : rg x < 9218868437227405312) : ∃ (m : Nat) (k : Nat), dbl.read x = .number (sg x) m (-1074 + (k : Int)) ∧ mg (rg x) = m * 2 ^ k := by
 unfold rg at h ⊢
 unfold Format.read
 simp only [d_sw, d_bi, d_ir, d_lp]
 by_cases c : x % 9223372036854775808 < 4503599627370496
 ·rw [if_pos c]
  refine ⟨x % 9223372036854775808, 0, rfl, ?_⟩
  unfold mg; rw [if_pos c]; simp
 ·rw [if_neg c, if_pos h]
  refine ⟨_, _, rfl, ?_⟩
  unfold mg; rw [if_neg c]
theorem read_infy {x : Nat} (h : rg x = 9218868437227405312) : dbl.read x = .infinity (sg x) := by
 unfold rg at h
 unfold Format.read
 simp only [d_sw, d_bi, d_ir]
 rw [if_neg (by omega), if_neg (by omega), if_pos h]; rfl
theorem nan_rg (x : Nat) : isNan x = decide (9218868437227405312 < rg x) := by
 rcases Nat.lt_trichotomy (rg x) 9218868437227405312 with h | h | h
 ·obtain ⟨m, k, h1, _⟩ := read_fin h
  unfold isNan FloatKind.decode
  rw [show Format.read FloatKind.f64.format x = dbl.read x from rfl, h1, decide_eq_false (by omega)]; rfl
 ·have h1 := read_infy h
  unfold isNan FloatKind.decode
  rw [show Format.read FloatKind.f64.format x = dbl.read x from rfl, h1, decide_eq_false (by omega)]; rfl
 ·rw [decide_eq_true h]
  exact nan_of_rung h
theorem cmp_iff {a b c d : Int} (h1 : a < b ↔ c < d) (h2 : a = b ↔ c = d) : compare a b = compare c d := by
 show compareOfLessAndEq a b = compareOfLessAndEq c d
 unfold compareOfLessAndEq
 by_cases h : a < b
 ·rw [if_pos h, if_pos (h1.1 h)]
 ·rw [if_neg h, if_neg (fun hh => h (h1.2 hh))]
  by_cases h' : a = b
  ·rw [if_pos h', if_pos (h2.1 h')]
  ·rw [if_neg h', if_neg (fun hh => h' (h2.2 hh))]
theorem cmp_lt {a b : Int} (h : a < b) : compare a b = .lt := by
 show compareOfLessAndEq a b = .lt
 unfold compareOfLessAndEq
 rw [if_pos h]
theorem cmp_gt {a b : Int} (h : b < a) : compare a b = .gt := by
 show compareOfLessAndEq a b = .gt
 unfold compareOfLessAndEq
 rw [if_neg (by omega), if_neg (by omega)]
theorem order_sm {x y : Nat} (hx : rg x ≤ 9218868437227405312) (hy : rg y ≤ 9218868437227405312) : dbl.order x y = some (compare (sm x) (sm y)) := by
 unfold Format.order
 rcases Nat.lt_or_eq_of_le hx with cx | cx <;> rcases Nat.lt_or_eq_of_le hy with cy | cy
 ·obtain ⟨m, k, e1, v1⟩ := read_fin cx
  obtain ⟨n, l, e2, v2⟩ := read_fin cy
  rw [e1, e2]
  show some (compare (Ieee.signed _ m _) (Ieee.signed _ n _)) = _
  congr 1
  -- both in units of the smaller place
  obtain ⟨c, a, b, hk, hl, ha, hb⟩ : ∃ c a b : Nat, k = c + a ∧ l = c + b ∧ ((-1074 + (k : Int)) - min (-1074 + (k : Int)) (-1074 + (l : Int))).toNat = a ∧ ((-1074 + (l : Int)) - min (-1074 + (k : Int)) (-1074 + (l : Int))).toNat = b := by
   refine ⟨min k l, k - min k l, l - min k l, by omega, by omega, by omega, by omega⟩
  rw [ha, hb]
  have w1 : mg (rg x) = (m <<< a) * 2 ^ c := by rw [v1, hk, Nat.shiftLeft_eq, Nat.add_comm c a, Nat.pow_add, Nat.mul_assoc]
  have w2 : mg (rg y) = (n <<< b) * 2 ^ c := by rw [v2, hl, Nat.shiftLeft_eq, Nat.add_comm c b, Nat.pow_add, Nat.mul_assoc]
  have hp : 0 < 2 ^ c := Nat.two_pow_pos c
  have i1 : m <<< a < n <<< b ↔ rg x < rg y := by
   exact (Nat.mul_lt_mul_right hp).symm.trans (by rw [← w1, ← w2]; exact mg_lt)
  have i2 : n <<< b < m <<< a ↔ rg y < rg x := by
   exact (Nat.mul_lt_mul_right hp).symm.trans (by rw [← w1, ← w2]; exact mg_lt)
  have z1 : 0 < m <<< a ↔ 0 < rg x := by
   have : mg 0 < mg (rg x) ↔ 0 < rg x := mg_lt
   rw [w1, show mg 0 = 0 from rfl] at this
   rw [← this]
   exact ⟨fun h => Nat.mul_pos h hp, fun h => Nat.pos_of_mul_pos_right h⟩
  have z2 : 0 < n <<< b ↔ 0 < rg y := by
   have : mg 0 < mg (rg y) ↔ 0 < rg y := mg_lt
   rw [w2, show mg 0 = 0 from rfl] at this
   rw [← this]
   exact ⟨fun h => Nat.mul_pos h hp, fun h => Nat.pos_of_mul_pos_right h⟩
  unfold Ieee.signed sm
  generalize m <<< a = M at *
  generalize n <<< b = N at *
  refine cmp_iff ?_ ?_ <;> (cases sg x <;> cases sg y <;> simp <;> omega)
 ·obtain ⟨m, k, e1, _⟩ := read_fin cx
  rw [e1, read_infy cy]
  show some (if sg y = true then Ordering.gt else .lt) = _
  congr 1
  unfold sm
  cases sg x <;> cases sg y <;> simp only [if_true, if_false, Bool.false_eq_true]
  ·exact (cmp_lt (by omega)).symm
  ·exact (cmp_gt (by omega)).symm
  ·exact (cmp_lt (by omega)).symm
  ·exact (cmp_gt (by omega)).symm
 ·obtain ⟨n, l, e2, _⟩ := read_fin cy
  rw [e2, read_infy cx]
  show some (if sg x = true then Ordering.lt else .gt) = _
  congr 1
  unfold sm
  cases sg x <;> cases sg y <;> simp only [if_true, if_false, Bool.false_eq_true]
  ·exact (cmp_gt (by omega)).symm
  ·exact (cmp_gt (by omega)).symm
  ·exact (cmp_lt (by omega)).symm
  ·exact (cmp_lt (by omega)).symm
 ·rw [read_infy cx, read_infy cy]
  show some (compare (sg y).toNat (sg x).toNat) = _
  congr 1
  unfold sm
  rw [cx, cy]
  cases sg x <;> cases sg y <;> decide
end Go.Proofs.Ytmpnnpibpodmkaa.Pure
end
section
/- ratio.Order and the document's come to one order; layer 12's Awake; the edges. -/
namespace Go.Proofs.Ytmpnnpibpodmkaa.Pure
open Go.RowKit Go.Proofs.YtmpnnpibpodmkaaW.PrintWords Go.Proofs.Ytmpnnpibpodmkaa.F
/-- sign and rung as one number, -0 below 0 -/
def rk (x : Nat) : Int := if sg x = true then -(rg x : Int) - 1 else (rg x : Int)
/-- the order of all words: what is no number is ahead of all -/
def ord (x y : Nat) : Int := if isNan x = true then (if isNan y = true then 0 else -1) else if isNan y = true then 1 else if rk x < rk y then -1 else if rk x > rk y then 1 else 0
theorem rk_lt {x y : Nat} (h : sm x < sm y) : rk x < rk y := by
 revert h
 unfold sm rk
 cases sg x <;> cases sg y <;> simp only [if_true, if_false, Bool.false_eq_true] <;> intro h <;> omega
theorem word_split {x : Nat} (h : x < 18446744073709551616) : x = (if sg x = true then 9223372036854775808 else 0) + rg x ∧ rg x < 9223372036854775808 := by
 unfold sg rg
 rcases Nat.lt_or_ge x 9223372036854775808 with h1 | h1
 ·have e : x / 9223372036854775808 = 0 := by omega
  rw [e]
  refine ⟨?_, by omega⟩
  rw [if_neg (by decide)]; omega
 ·have e : x / 9223372036854775808 = 1 := by omega
  rw [e]
  refine ⟨?_, by omega⟩
  rw [if_pos (by decide)]; omega
theorem sign_eq {x : Nat} (h : x < 18446744073709551616) : decide (wrap64 (x : Int) < 0) = sg x := by
 obtain ⟨h1, h2⟩ := word_split h
 cases hs : sg x
 ·rw [hs, if_neg (by decide)] at h1
  rw [w64 (by omega) (by omega)]
  exact decide_eq_false (by omega)
 ·rw [hs, if_pos rfl] at h1
  refine decide_eq_true ?_
  unfold wrap64; omega
theorem minus_eq {x : Nat} (h : x < 18446744073709551616) : ((x : Int) / 9223372036854775808 == 1) = sg x := by
 obtain ⟨h1, h2⟩ := word_split h
 cases hs : sg x
 ·rw [hs, if_neg (by decide)] at h1
  exact beq_eq_false_iff_ne.2 (by omega)
 ·rw [hs, if_pos rfl] at h1
  exact beq_iff_eq.2 (by omega)
theorem rank_eq {x : Nat} (h : x < 18446744073709551616) : r2_rank.f x = some (rk x) := by
 obtain ⟨h1, h2⟩ := word_split h
 have hb : Go.bits .and .u64 (x : Int) 9223372036854775807 = (rg x : Int) := by
  have := u64_and_nat x 9223372036854775807 h (by decide)
  rw [show ((9223372036854775807 : Nat) : Int) = 9223372036854775807 from rfl] at this
  rw [this, show (9223372036854775807 : Nat) = 2 ^ 63 - 1 from by decide, Nat.and_two_pow_sub_one_eq_mod]; rfl
 unfold r2_rank.f
 rw [hb, minus_eq h, w64 (x := (rg x : Int)) (by omega) (by omega), w64 (x := -(rg x : Int)) (by omega) (by omega), w64 (x := -(rg x : Int) - 1) (by omega) (by omega)]
 rfl
theorem ord_ev {x y : Nat} (hx : x < 18446744073709551616) (hy : y < 18446744073709551616) : Ev (fun k => ratio_Order.f k x y) (ord x y) := by
 have ht : ∀ b : Bool, ratio_truth.f b = some (if b = true then 1 else 0) := by intro b; cases b <;> rfl
 have hn : ∀ z, math_IsNaN.f z = some (isNan z) := fun z => rfl
 have hsx : math_Signbit.f x = some (sg x) := by unfold math_Signbit.f; rw [sign_eq hx]
 have hsy : math_Signbit.f y = some (sg y) := by unfold math_Signbit.f; rw [sign_eq hy]
 obtain ⟨_, bx⟩ := word_split hx
 obtain ⟨_, bY⟩ := word_split hy
 unfold ratio_Order.f
 refine ev_bind' (hn x) ?_
 have hj : ∀ b : Bool, b = (isNan x || isNan y) → Ev (fun k => ratio_Order.j0 k x y b) (ord x y) := by
  intro b hb
  refine Ev.step (fun k => by unfold ratio_Order.j0; rfl) ?_
  unfold ord
  cases ex : isNan x <;> cases ey : isNan y <;> rw [ex, ey] at hb
  ·subst hb
   have rx : rg x ≤ 9218868437227405312 := by have := nan_rg x; rw [ex] at this; have := of_decide_eq_false this.symm; omega
   have ry : rg y ≤ 9218868437227405312 := by have := nan_rg y; rw [ey] at this; have := of_decide_eq_false this.symm; omega
   refine ev_neg (by decide) ?_
   rw [show FloatKind.f64.format.order x y = some (compare (sm x) (sm y)) from order_sm rx ry, if_neg (show ¬ (false = true) by decide), if_neg (show ¬ (false = true) by decide)]
   rcases Int.lt_trichotomy (sm x) (sm y) with h | h | h
   ·rw [cmp_lt h, if_pos (rk_lt h)]
    exact ev_pos rfl (Ev.now _)
   ·rw [h, show compare (sm y) (sm y) = .eq from by show compareOfLessAndEq _ _ = _; unfold compareOfLessAndEq; rw [if_neg (by omega), if_pos rfl]]
    refine ev_neg (by decide) (ev_neg (by decide) (ev_bind' hsy (ev_bind' (ht _) (ev_bind' hsx (ev_bind' (ht _) (ev_ret ?_))))))
    unfold sm at h
    unfold rk
    cases sg x <;> cases sg y <;> simp only [if_true, if_false, Bool.false_eq_true] at h ⊢
    ·rw [if_neg (by omega), if_neg (by omega)]; exact (w64 (by decide) (by decide)).trans (by decide)
    ·rw [if_neg (by omega), if_pos (by omega)]; exact (w64 (by decide) (by decide)).trans (by decide)
    ·rw [if_pos (by omega)]; exact (w64 (by decide) (by decide)).trans (by decide)
    ·rw [if_neg (by omega), if_neg (by omega)]; exact (w64 (by decide) (by decide)).trans (by decide)
   ·rw [cmp_gt h, if_neg (show ¬ rk x < rk y by have := rk_lt h; omega), if_pos (show rk x > rk y from rk_lt h)]
    exact ev_neg (by decide) (ev_pos rfl (Ev.now _))
  ·subst hb
   refine ev_pos rfl (ev_bind' (hn y) (ev_bind' (ht _) (ev_bind' (hn x) (ev_bind' (ht _) (ev_ret ?_)))))
   rw [ex, ey]; exact (w64 (by decide) (by decide)).trans rfl
  ·subst hb
   refine ev_pos rfl (ev_bind' (hn y) (ev_bind' (ht _) (ev_bind' (hn x) (ev_bind' (ht _) (ev_ret ?_)))))
   rw [ex, ey]; exact (w64 (by decide) (by decide)).trans rfl
  ·subst hb
   refine ev_pos rfl (ev_bind' (hn y) (ev_bind' (ht _) (ev_bind' (hn x) (ev_bind' (ht _) (ev_ret ?_)))))
   rw [ex, ey]; exact (w64 (by decide) (by decide)).trans rfl
 cases ex : isNan x
 ·exact ev_neg (by decide) (ev_bind' (hn y) (hj _ (by rw [ex]; rfl)))
 ·exact ev_pos rfl (hj _ (by rw [ex]; rfl))
theorem none_nan' (x : Nat) : r2_None.f x = some (isNan x) := by
 unfold r2_None.f
 cases h : isNan x
 ·rw [order_self h]; rfl
 ·rw [order_nan_l h]; rfl
theorem fnt : ¬ (false = true) := by decide
theorem rord_ev {x y : Nat} (hx : x < 18446744073709551616) (hy : y < 18446744073709551616) : Ev (fun k => r2_Order.f k x y) (ord x y) := by
 have hn : ∀ z, r2_None.f z = some (isNan z) := none_nan'
 unfold r2_Order.f
 refine ev_bind' (hn x) ?_
 have nx := hn x
 have ny := hn y
 cases ex : isNan x <;> cases ey : isNan y <;> rw [ex] at nx <;> rw [ey] at ny
 ·have ho : ord x y = if rk x < rk y then -1 else if rk x > rk y then 1 else 0 := by unfold ord; rw [ex, ey]; rfl
  rw [ho]
  have hr : Ev (fun k => (r2_rank.f x).bind fun t135 => (r2_rank.f y).bind fun t136 => if t135 < t136 then (some (-1) : Option Int) else ((r2_rank.f x).bind fun t137 => (r2_rank.f y).bind fun t138 => if t137 > t138 then some 1 else some 0)) (if rk x < rk y then -1 else if rk x > rk y then 1 else 0) := by
   refine ev_bind' (rank_eq hx) (ev_bind' (rank_eq hy) ?_)
   by_cases h : rk x < rk y
   ·rw [show (if rk x < rk y then (-1 : Int) else if rk x > rk y then 1 else 0) = -1 from if_pos h]; exact ev_pos h (Ev.now _)
   ·rw [show (if rk x < rk y then (-1 : Int) else if rk x > rk y then 1 else 0) = if rk x > rk y then 1 else 0 from if_neg h]
    refine ev_neg h (ev_bind' (rank_eq hx) (ev_bind' (rank_eq hy) ?_))
    by_cases h' : rk x > rk y
    ·rw [show (if rk x > rk y then (1 : Int) else 0) = 1 from if_pos h']; exact ev_pos h' (Ev.now _)
    ·rw [show (if rk x > rk y then (1 : Int) else 0) = 0 from if_neg h']; exact ev_neg h' (Ev.now _)
  refine ev_neg fnt (Ev.step (fun k => by unfold r2_Order.j0; rfl) ?_)
  refine ev_neg fnt ?_
  refine ev_bind' nx ?_
  refine ev_neg fnt ?_
  refine ev_bind' ny ?_
  exact ev_neg fnt hr
 ·have ho : ord x y = 1 := by unfold ord; rw [ex, ey]; rfl
  rw [ho]
  refine ev_neg fnt (Ev.step (fun k => by unfold r2_Order.j0; rfl) ?_)
  refine ev_neg fnt ?_
  refine ev_bind' nx ?_
  refine ev_neg fnt ?_
  refine ev_bind' ny ?_
  exact ev_pos rfl (Ev.now _)
 ·have ho : ord x y = -1 := by unfold ord; rw [ex, ey]; rfl
  rw [ho]
  refine ev_pos rfl ?_
  refine ev_bind' ny ?_
  refine Ev.step (fun k => by unfold r2_Order.j0; rfl) ?_
  refine ev_neg fnt ?_
  refine ev_bind' nx ?_
  exact ev_pos rfl (Ev.now _)
 ·have ho : ord x y = 0 := by unfold ord; rw [ex, ey]; rfl
  rw [ho]
  refine ev_pos rfl ?_
  refine ev_bind' ny ?_
  refine Ev.step (fun k => by unfold r2_Order.j0; rfl) ?_
  exact ev_pos rfl (Ev.now _)
end Go.Proofs.Ytmpnnpibpodmkaa.Pure
end
section
/- Layer 12's Awake is true; its edges. -/
namespace Go.Proofs.Ytmpnnpibpodmkaa.Pure
open Go.RowKit Go.Proofs.YtmpnnpibpodmkaaW.PrintWords Go.Proofs.Ytmpnnpibpodmkaa.F
theorem awake12 : Ev (fun k => stanzalaw12_Awake.f k) true := by
 unfold stanzalaw12_Awake.f
 refine ev_bind' rfl (ev_bind' rfl (ev_pos (by decide +kernel) (ev_bind' (a := 10000) (by decide +kernel) (ev_pos rfl (ev_bind' rfl (ev_bind' (a := 0) (by decide +kernel) (ev_pos rfl (ev_bind' (a := 12) (by decide +kernel) (ev_pos rfl (ev_bind' (a := 100) (by decide +kernel) (ev_pos rfl (ev_bind' (a := 2) (by decide +kernel) (ev_pos rfl (ev_bind' (a := 9223372036854775808) (by decide +kernel) (ev_bind (ord_ev (by decide) (by decide)) (ev_pos (by decide +kernel) (ev_bind' (a := 4607182418800017408) (by decide +kernel) (ev_pos (by decide +kernel) (ev_bind' rfl (ev_bind' rfl (ev_ret (by decide +kernel))))))))))))))))))))))
def EDG : List Nat := [9221120237041090561, 18442240474082181120, 18442240474082181119, 13970166044105375744, 13970166044103278592, 13970166044101181440, 13830554455654793216, 13826050856027422720, 9223372036854775809, 9223372036854775808, 0, 1, 4602678819172646912, 4607182418800017408, 4609434218613702656, 4612811918334230528, 4616911982862754295, 4616911982862754296, 4746794007242211328, 4746794007244308480, 4746794007248502784, 9218868437227405311, 9218868437227405312]
theorem edges_eq : stanzalaw12_edges.f = some EDG := by decide +kernel
theorem edges_lt : ∀ x ∈ EDG, x < 18446744073709551616 := by decide
end Go.Proofs.Ytmpnnpibpodmkaa.Pure
end
section
/- RatioOf: room for gaps is the document's; what fits is no looser. -/
namespace Go.Proofs.Ytmpnnpibpodmkaa.Pure
open Go.RowKit Go.Proofs.YtmpnnpibpodmkaaW.PrintWords Go.Proofs.Ytmpnnpibpodmkaa.F
theorem RatioOf : stanzalaw12_RatioOf.Pure := by
 intro a b m _ _ _
 refine Ev.rounds ?_
 unfold stanzalaw12_RatioOf.f
 exact ev_bind awake12 (ev_pos rfl (Ev.now _))
end Go.Proofs.Ytmpnnpibpodmkaa.Pure
end
