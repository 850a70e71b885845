/- Plain proofs: what the printed functions compute. -/
import Derived.Test.YtfeidhmkmbgnoaaXFirstRest0
import Derived.WalkKit
import Derived.Test.YtfeidhmkmbgnoaaVFirstRest0
import Derived.Test.YtfeidhmkmbgnoaaVFirstRest1
section
/- Helpers of the plain proofs: eventual values (Ev), wrapped numbers, lists. -/
namespace Go.Proofs.Ytfeidhmkmbgnoaa.Pure
open Go.RowKit Go.Proofs.YtfeidhmkmbgnoaaW.PrintWords

theorem ev_pos {α : Type} {c : Prop} [Decidable c] {a b : Nat → Option α} {r : α} (h : c) (H : Ev a r) : Ev (fun k => if c then a k else b k) r := by simpa [h] using H
theorem ev_neg {α : Type} {c : Prop} [Decidable c] {a b : Nat → Option α} {r : α} (h : ¬ c) (H : Ev b r) : Ev (fun k => if c then a k else b k) r := by simpa [h] using H
theorem ev_eq {α : Type} {o : Option α} {r : α} (h : o = some r) : Ev (fun _ => o) r := by subst h; exact Ev.now _
theorem ev_ret {α : Type} {x r : α} (h : x = r) : Ev (fun _ => some x) r := by subst h; exact Ev.now _
theorem ev_bind {α β : Type} {g : Nat → Option α} {f : Nat → α → Option β} {a : α} {r : β} (h : Ev g a) (k : Ev (fun n => f n a) r) : Ev (fun n => (g n).bind (f n)) r := Ev.bind h k
theorem ev_bind' {α β : Type} {o : Option α} {f : Nat → α → Option β} {a : α} {r : β} (h : o = some a) (k : Ev (fun n => f n a) r) : Ev (fun n => o.bind (f n)) r := by subst h; exact k
theorem ev_let {α β : Type} {a : α} {f : Nat → α → Option β} {r : β} (k : Ev (fun n => f n a) r) : Ev (fun n => (some a).bind (f n)) r := k
theorem ev_uniq {α : Type} {g : Nat → Option α} {a b : α} (h : Ev g a) (k : Ev g b) : a = b := by
 obtain ⟨m, hm⟩ := h
 obtain ⟨n, hn⟩ := k
 have h1 := hm (max m n) (Nat.le_max_left _ _)
 have h2 := hn (max m n) (Nat.le_max_right _ _)
 exact Option.some.inj (h1.symm.trans h2)

theorem w64 {x : Int} (h1 : -9223372036854775808 ≤ x) (h2 : x ≤ 9223372036854775807) : wrap64 x = x := by unfold wrap64; omega
theorem tmodp {a b : Int} (h : 0 ≤ a) : Int.tmod a b = a % b := Int.tmod_eq_emod_of_nonneg h
theorem tdivp {a b : Int} (h : 0 ≤ a) : Int.tdiv a b = a / b := Int.tdiv_eq_ediv_of_nonneg h
theorem wfu8 {x : Int} : (Lit.int .u8 x).wf = true ↔ 0 ≤ x ∧ x ≤ 255 := by simp [Lit.wf, IntKind.min, IntKind.max, IntKind.signed, IntKind.bits]
theorem wfu16 {x : Int} : (Lit.int .u16 x).wf = true ↔ 0 ≤ x ∧ x ≤ 65535 := by simp [Lit.wf, IntKind.min, IntKind.max, IntKind.signed, IntKind.bits]
theorem wfu32 {x : Int} : (Lit.int .u32 x).wf = true ↔ 0 ≤ x ∧ x ≤ 4294967295 := by simp [Lit.wf, IntKind.min, IntKind.max, IntKind.signed, IntKind.bits]
theorem wfi64 {x : Int} : (Lit.int .i64 x).wf = true ↔ -9223372036854775808 ≤ x ∧ x ≤ 9223372036854775807 := by simp [Lit.wf, IntKind.min, IntKind.max, IntKind.signed, IntKind.bits]
theorem wfi32 {x : Int} : (Lit.int .i32 x).wf = true ↔ -2147483648 ≤ x ∧ x ≤ 2147483647 := by simp [Lit.wf, IntKind.min, IntKind.max, IntKind.signed, IntKind.bits]
theorem u64mod {x n : Int} (h1 : 0 < n) (h2 : n ≤ 9223372036854775807) : wrap64 (Int.tmod (IntKind.u64.wrap x) (IntKind.u64.wrap n)) = (x % 18446744073709551616) % n := by
 have hw : ∀ y, IntKind.u64.wrap y = y % 18446744073709551616 := fun y => by simp [IntKind.wrap, IntKind.signed, IntKind.bits]
 rw [hw, hw, Int.emod_eq_of_lt (by omega) (by omega : n < 18446744073709551616), tmodp (by omega)]
 have h3 := Int.emod_nonneg (x % 18446744073709551616) (by omega : n ≠ 0)
 have h4 := Int.emod_lt_of_pos (x % 18446744073709551616) h1
 exact w64 (by omega) (by omega)

theorem rd_nat (xs : List Int) (n : Nat) : rd xs (n : Int) = xs.getD n 0 := rfl
theorem getD_map_range (g : Nat → Int) {n i : Nat} (h : i < n) : ((List.range n).map g).getD i 0 = g i := by
 rw [List.getD_eq_getElem?_getD, List.getElem?_map, List.getElem?_range h]; rfl
theorem rd_map_range (g : Nat → Int) {n i : Nat} (h : i < n) : rd ((List.range n).map g) (i : Int) = g i := getD_map_range g h
theorem map_range_snoc {α : Type} (g : Nat → α) (n : Nat) : (List.range n).map g ++ [g n] = (List.range (n + 1)).map g := by
 rw [List.range_succ, List.map_append]; rfl
theorem mod3 (x : Int) : 0 ≤ x % 3 ∧ x % 3 ≤ 2 := by omega
theorem mod4 (x : Int) : 0 ≤ x % 4 ∧ x % 4 ≤ 3 := by omega
end Go.Proofs.Ytfeidhmkmbgnoaa.Pure
end
section
/- Texts of clusters and widths, as plain functions: what Para makes, columns, what is empty at a line's end, gaps. -/
namespace Go.Proofs.Ytfeidhmkmbgnoaa.Pure
open Go.RowKit Go.Proofs.YtfeidhmkmbgnoaaW.PrintWords Go.Proofs.Ytfeidhmkmbgnoaa.F

def cl (C : List S61) (i : Nat) : S61 := C.getD i z61
theorem rd_cl (C : List S61) (i : Nat) : rd_T61 C (i : Int) = cl C i := rfl
def bit (l : List S49) (i : Nat) : S49 := l.getD i z49
theorem rd_bit (l : List S49) (i : Nat) : rd_T49 l (i : Int) = bit l i := rfl
/-- a bit of small numbers -/
def Small (b : S49) : Prop := (0 ≤ b.f0 ∧ b.f0 ≤ 255) ∧ (0 ≤ b.f1 ∧ b.f1 ≤ 255) ∧ (0 ≤ b.f2 ∧ b.f2 ≤ 255) ∧ (0 ≤ b.f3 ∧ b.f3 ≤ 255)
theorem small_of {b : S49} (h : (Lit.int .u8 b.f0).wf = true ∧ (Lit.int .u8 b.f1).wf = true ∧ (Lit.int .u8 b.f2).wf = true ∧ (Lit.int .u8 b.f3).wf = true) : Small b := by
 rw [wfu8, wfu8, wfu8, wfu8] at h
 exact h
theorem bit_mem {l : List S49} {i : Nat} (h : i < l.length) : bit l i ∈ l := by
 unfold bit
 rw [List.getD_eq_getElem?_getD, List.getElem?_eq_getElem h]
 exact List.getElem_mem h
/-- where cluster i begins -/
def atl (l : List S49) : Nat → Int
 | 0 => 0
 | i + 1 => atl l i + (1 + (bit l i).f2 % 4)
def clus (l : List S49) (i : Nat) : S61 := ⟨atl l i, 1 + (bit l i).f2 % 4, (bit l i).f0 % 3, (bit l i).f1 % 3⟩
def opp (l : List S49) (i : Nat) : Int := if i = l.length then 2 else if i = 0 then 0 else (bit l (i - 1)).f3 % 4
/-- what Para makes of a list of at most 1000 bits -/
def CL (l : List S49) : List S61 := (List.range l.length).map (clus l)
def OP (l : List S49) : List Int := (List.range (l.length + 1)).map (opp l)
theorem CL_len (l : List S49) : (CL l).length = l.length := by simp [CL]
theorem OP_len (l : List S49) : (OP l).length = l.length + 1 := by simp [OP]
theorem cl_CL {l : List S49} {i : Nat} (h : i < l.length) : cl (CL l) i = clus l i := by
 unfold cl CL
 rw [List.getD_eq_getElem?_getD, List.getElem?_map, List.getElem?_range h]; rfl
theorem rd_OP {l : List S49} {i : Nat} (h : i ≤ l.length) : rd (OP l) (i : Int) = opp l i := rd_map_range (opp l) (by omega)
theorem atl_bd (l : List S49) (i : Nat) : (i : Int) ≤ atl l i ∧ atl l i ≤ 4 * i := by
 induction i with
 | zero => simp [atl]
 | succ i ih =>
  have := mod4 (bit l i).f2
  simp only [atl, Int.natCast_add, Int.natCast_one]
  omega
theorem opp_bd (l : List S49) (i : Nat) : 0 ≤ opp l i ∧ opp l i ≤ 3 := by
 unfold opp
 have := mod4 (bit l (i - 1)).f3
 split
 ·omega
 ·split <;> omega

/-- clusters whose cells and kinds are small, and at most 4000 of them -/
structure Good (C : List S61) : Prop where
 len : C.length ≤ 4000
 cells : ∀ i, 0 ≤ (cl C i).f2 ∧ (cl C i).f2 ≤ 2
 kind : ∀ i, 0 ≤ (cl C i).f3 ∧ (cl C i).f3 ≤ 2
theorem cl_out {C : List S61} {i : Nat} (h : C.length ≤ i) : cl C i = z61 := by
 unfold cl
 rw [List.getD_eq_getElem?_getD, List.getElem?_eq_none h]; rfl
theorem good_CL {l : List S49} (h : l.length ≤ 4000) : Good (CL l) := by
 refine ⟨by rw [CL_len]; exact h, fun i => ?_, fun i => ?_⟩
 ·by_cases hi : i < l.length
  ·rw [cl_CL hi]; exact mod3 _
  ·rw [cl_out (by rw [CL_len]; omega)]; exact ⟨Int.le_refl _, by decide⟩
 ·by_cases hi : i < l.length
  ·rw [cl_CL hi]; exact mod3 _
  ·rw [cl_out (by rw [CL_len]; omega)]; exact ⟨Int.le_refl _, by decide⟩

/-- the column behind a cluster -/
def nxt (c : S61) (x t : Int) : Int := if c.f3 = 2 then x + t - x % t else x + c.f2
/-- the column n clusters behind boundary 'from' -/
def col (C : List S61) (fr : Nat) (t : Int) : Nat → Int
 | 0 => 0
 | n + 1 => nxt (cl C (fr + n)) (col C fr t n) t
def emp (c : S61) : Bool := c.f3 == 1 || (c.f3 == 0 && c.f2 == 0)
/-- of n clusters behind 'from': how many are left without what is empty at the end -/
def trm (C : List S61) (fr : Nat) : Nat → Nat
 | 0 => 0
 | n + 1 => if emp (cl C (fr + n)) then trm C fr n else n + 1
def cel (C : List S61) (fr n : Nat) (e t : Int) : Int := col C fr t (trm C fr n) + if e = 3 then 1 else 0
/-- how many spaces there are among n clusters behind 'from' -/
def spc (C : List S61) (fr : Nat) : Nat → Nat
 | 0 => 0
 | n + 1 => spc C fr n + if (cl C (fr + n)).f3 = 1 then 1 else 0
def gap (C : List S61) (fr n : Nat) : Nat := spc C fr (trm C fr n)

theorem nxt_bd {c : S61} {x t : Int} (h0 : 0 ≤ c.f2 ∧ c.f2 ≤ 2) (_ : 0 ≤ x) (ht : 1 ≤ t ∧ t ≤ 64) : x ≤ nxt c x t ∧ nxt c x t ≤ x + 64 := by
 unfold nxt
 have h1 := Int.emod_nonneg x (by omega : t ≠ 0)
 have h2 := Int.emod_lt_of_pos x (by omega : 0 < t)
 split <;> omega
theorem col_bd {C : List S61} (g : Good C) (fr : Nat) {t : Int} (ht : 1 ≤ t ∧ t ≤ 64) (n : Nat) : 0 ≤ col C fr t n ∧ col C fr t n ≤ 64 * n := by
 induction n with
 | zero => simp [col]
 | succ n ih =>
  have := nxt_bd (g.cells (fr + n)) ih.1 ht
  simp only [col, Int.natCast_add, Int.natCast_one]
  omega
theorem col_mono {C : List S61} (g : Good C) (fr : Nat) {t : Int} (ht : 1 ≤ t ∧ t ≤ 64) {m n : Nat} (h : m ≤ n) : col C fr t m ≤ col C fr t n := by
 induction n with
 | zero => rw [show m = 0 from by omega]; exact Int.le_refl _
 | succ n ih =>
  rcases Nat.lt_or_ge n m with h1 | h1
  ·rw [show m = n + 1 from by omega]; exact Int.le_refl _
  ·have := nxt_bd (g.cells (fr + n)) (col_bd g fr ht n).1 ht
   have := ih h1
   simp only [col]
   omega
theorem trm_le (C : List S61) (fr n : Nat) : trm C fr n ≤ n := by
 induction n with
 | zero => exact Nat.le_refl _
 | succ n ih =>
  unfold trm
  split <;> omega
theorem trm_mono (C : List S61) (fr : Nat) {m n : Nat} (h : m ≤ n) : trm C fr m ≤ trm C fr n := by
 induction n with
 | zero => rw [show m = 0 from by omega]; exact Nat.le_refl _
 | succ n ih =>
  rcases Nat.lt_or_ge n m with h1 | h1
  ·rw [show m = n + 1 from by omega]; exact Nat.le_refl _
  ·have h2 := ih h1
   have h3 := trm_le C fr m
   rw [show trm C fr (n + 1) = if emp (cl C (fr + n)) then trm C fr n else n + 1 from rfl]
   split <;> omega
theorem trm_trm (C : List S61) (fr n : Nat) : trm C fr (trm C fr n) = trm C fr n := by
 induction n with
 | zero => rfl
 | succ n ih =>
  by_cases h : emp (cl C (fr + n)) = true
  ·rw [show trm C fr (n + 1) = trm C fr n from if_pos h]; exact ih
  ·rw [show trm C fr (n + 1) = n + 1 from if_neg h, show trm C fr (n + 1) = n + 1 from if_neg h]
theorem spc_le (C : List S61) (fr n : Nat) : spc C fr n ≤ n := by
 induction n with
 | zero => exact Nat.le_refl _
 | succ n ih =>
  unfold spc
  split <;> omega
theorem cel_bd {C : List S61} (g : Good C) (fr n : Nat) (e : Int) {t : Int} (ht : 1 ≤ t ∧ t ≤ 64) : 0 ≤ cel C fr n e t ∧ cel C fr n e t ≤ 64 * n + 1 := by
 have h1 := col_bd g fr ht (trm C fr n)
 have h2 := trm_le C fr n
 unfold cel
 split <;> omega
end Go.Proofs.Ytfeidhmkmbgnoaa.Pure
end
section
/- Lines as long as may be, as plain functions. -/
namespace Go.Proofs.Ytfeidhmkmbgnoaa.Pure
open Go.RowKit Go.Proofs.YtfeidhmkmbgnoaaW.PrintWords Go.Proofs.Ytfeidhmkmbgnoaa.F

def op (O : List Int) (i : Nat) : Int := O.getD i 0
theorem rd_op (O : List Int) (i : Nat) : rd O (i : Int) = op O i := rfl
/-- of n clusters behind fr: the greatest number, at least 1, of those that fit; 0: none -/
def cutN (C : List S61) (fr : Nat) (w t : Int) : Nat → Nat
 | 0 => 0
 | n + 1 => if cel C fr (n + 1) 0 t ≤ w then n + 1 else cutN C fr w t n
/-- .. behind which a line may end, and fits so -/
def bestN (C : List S61) (O : List Int) (fr : Nat) (w t : Int) : Nat → Nat
 | 0 => 0
 | n + 1 => if op O (fr + (n + 1)) ≠ 0 ∧ cel C fr (n + 1) (op O (fr + (n + 1))) t ≤ w then n + 1 else bestN C O fr w t n
/-- how many clusters the next line has, of N at most -/
def lnN (C : List S61) (O : List Int) (fr : Nat) (w t : Int) (N : Nat) : Nat :=
 if bestN C O fr w t N = 0 then (if cutN C fr w t N = 0 then 1 else cutN C fr w t N) else bestN C O fr w t N
/-- how it ends -/
def lnE (C : List S61) (O : List Int) (fr : Nat) (w t : Int) (N : Nat) : Int :=
 if bestN C O fr w t N = 0 then (if op O (fr + lnN C O fr w t N) = 2 ∨ op O (fr + lnN C O fr w t N) = 1 then op O (fr + lnN C O fr w t N) else 4) else op O (fr + lnN C O fr w t N)
def mkln (C : List S61) (fr n : Nat) (e t : Int) : S45 := ⟨(fr : Int), ((fr + n : Nat) : Int), cel C fr n e t, e⟩
/-- the lines of a part (so many at most) -/
def FL (C : List S61) (O : List Int) (w t : Int) : Nat → Nat → Nat → List S45
 | 0, _, _ => []
 | d + 1, fr, z => if fr < z then mkln C fr (lnN C O fr w t (z - fr)) (lnE C O fr w t (z - fr)) t :: FL C O w t d (fr + lnN C O fr w t (z - fr)) z else []

theorem cutN_le (C : List S61) (fr : Nat) (w t : Int) (n : Nat) : cutN C fr w t n ≤ n := by
 induction n with
 | zero => exact Nat.le_refl _
 | succ n ih => unfold cutN; split <;> omega
theorem bestN_le (C : List S61) (O : List Int) (fr : Nat) (w t : Int) (n : Nat) : bestN C O fr w t n ≤ n := by
 induction n with
 | zero => exact Nat.le_refl _
 | succ n ih => unfold bestN; split <;> omega
theorem lnN_bd (C : List S61) (O : List Int) (fr : Nat) (w t : Int) {N : Nat} (h : 1 ≤ N) : 1 ≤ lnN C O fr w t N ∧ lnN C O fr w t N ≤ N := by
 have h1 := cutN_le C fr w t N
 have h2 := bestN_le C O fr w t N
 unfold lnN
 split
 ·split <;> omega
 ·omega
theorem cutN_spec (C : List S61) (fr : Nat) (w t : Int) (n : Nat) : (cutN C fr w t n ≠ 0 → cel C fr (cutN C fr w t n) 0 t ≤ w) ∧ ∀ m, cutN C fr w t n < m → m ≤ n → w < cel C fr m 0 t := by
 induction n with
 | zero => exact ⟨fun h => absurd rfl h, fun m h1 h2 => by omega⟩
 | succ n ih =>
  by_cases h : cel C fr (n + 1) 0 t ≤ w
  ·have e : cutN C fr w t (n + 1) = n + 1 := if_pos h
   rw [e]
   exact ⟨fun _ => h, fun m h1 h2 => by omega⟩
  ·have e : cutN C fr w t (n + 1) = cutN C fr w t n := if_neg h
   rw [e]
   refine ⟨ih.1, fun m h1 h2 => ?_⟩
   rcases Nat.lt_or_ge n m with h3 | h3
   ·rw [show m = n + 1 from by omega]; omega
   ·exact ih.2 m h1 h3
theorem bestN_spec (C : List S61) (O : List Int) (fr : Nat) (w t : Int) (n : Nat) :
  (bestN C O fr w t n ≠ 0 → op O (fr + bestN C O fr w t n) ≠ 0 ∧ cel C fr (bestN C O fr w t n) (op O (fr + bestN C O fr w t n)) t ≤ w) ∧
  ∀ m, bestN C O fr w t n < m → m ≤ n → ¬ (op O (fr + m) ≠ 0 ∧ cel C fr m (op O (fr + m)) t ≤ w) := by
 induction n with
 | zero => exact ⟨fun h => absurd rfl h, fun m h1 h2 => by omega⟩
 | succ n ih =>
  by_cases h : op O (fr + (n + 1)) ≠ 0 ∧ cel C fr (n + 1) (op O (fr + (n + 1))) t ≤ w
  ·have e : bestN C O fr w t (n + 1) = n + 1 := if_pos h
   rw [e]
   exact ⟨fun _ => h, fun m h1 h2 => by omega⟩
  ·have e : bestN C O fr w t (n + 1) = bestN C O fr w t n := if_neg h
   rw [e]
   refine ⟨ih.1, fun m h1 h2 => ?_⟩
   rcases Nat.lt_or_ge n m with h3 | h3
   ·rw [show m = n + 1 from by omega]; exact h
   ·exact ih.2 m h1 h3
theorem cel_mono {C : List S61} (g : Good C) (fr : Nat) {t : Int} (ht : 1 ≤ t ∧ t ≤ 64) (e : Int) {m n : Nat} (h : m ≤ n) : cel C fr m e t ≤ cel C fr n e t := by
 have := col_mono g fr ht (trm_mono C fr h)
 unfold cel
 omega
theorem cel_zero_le (C : List S61) (fr n : Nat) (e t : Int) : cel C fr n 0 t ≤ cel C fr n e t := by
 unfold cel
 rw [if_neg (by decide)]
 split <;> omega

/-- a line within boundaries lo and hi -/
def LineIn (C : List S61) (t : Int) (lo hi : Nat) (x : S45) : Prop := ∃ a n : Nat, ∃ e : Int, x = mkln C a n e t ∧ lo ≤ a ∧ 1 ≤ n ∧ a + n ≤ hi
theorem FL_in (C : List S61) (O : List Int) (w t : Int) (z : Nat) : ∀ (d fr : Nat), ∀ x ∈ FL C O w t d fr z, LineIn C t fr z x := by
 intro d
 induction d with
 | zero => intro fr x hx; cases hx
 | succ d ih =>
  intro fr x hx
  unfold FL at hx
  split at hx
  ·rename_i h
   have hb := lnN_bd C O fr w t (N := z - fr) (by omega)
   rcases List.mem_cons.1 hx with rfl | hx
   ·exact ⟨fr, _, _, rfl, Nat.le_refl _, hb.1, by omega⟩
   ·obtain ⟨a, n, e, h1, h2, h3, h4⟩ := ih _ x hx
    exact ⟨a, n, e, h1, by omega, h3, h4⟩
  ·cases hx
theorem FL_len (C : List S61) (O : List Int) (w t : Int) (z : Nat) : ∀ (d fr : Nat), (FL C O w t d fr z).length ≤ z - fr := by
 intro d
 induction d with
 | zero => intro fr; exact Nat.zero_le _
 | succ d ih =>
  intro fr
  unfold FL
  split
  ·rename_i h
   have hb := lnN_bd C O fr w t (N := z - fr) (by omega)
   have := ih (fr + lnN C O fr w t (z - fr))
   simp only [List.length_cons]
   omega
  ·exact Nat.zero_le _
/-- enough is enough -/
theorem FL_more (C : List S61) (O : List Int) (w t : Int) (z : Nat) : ∀ (d d' fr : Nat), z - fr ≤ d → z - fr ≤ d' → FL C O w t d fr z = FL C O w t d' fr z := by
 intro d
 induction d with
 | zero =>
  intro d' fr h h'
  cases d' with
  | zero => rfl
  | succ d' => unfold FL; rw [if_neg (by omega)]
 | succ d ih =>
  intro d' fr h h'
  cases d' with
  | zero => unfold FL; rw [if_neg (by omega)]
  | succ d' =>
   unfold FL
   split
   ·rename_i hlt
    have hb := lnN_bd C O fr w t (N := z - fr) (by omega)
    rw [ih d' _ (by omega) (by omega)]
   ·rfl
/-- the lines of a part -/
def PL (C : List S61) (O : List Int) (w t : Int) (fr z : Nat) : List S45 := FL C O w t (z - fr) fr z
theorem PL_lt (C : List S61) (O : List Int) (w t : Int) {fr z : Nat} (h : fr < z) :
  PL C O w t fr z = mkln C fr (lnN C O fr w t (z - fr)) (lnE C O fr w t (z - fr)) t :: PL C O w t (fr + lnN C O fr w t (z - fr)) z := by
 have hb := lnN_bd C O fr w t (N := z - fr) (by omega)
 obtain ⟨d, hd⟩ : ∃ d, z - fr = d + 1 := ⟨z - fr - 1, by omega⟩
 unfold PL
 rw [show FL C O w t (z - fr) fr z = FL C O w t (d + 1) fr z from by rw [hd]]
 rw [show FL C O w t (d + 1) fr z = mkln C fr (lnN C O fr w t (z - fr)) (lnE C O fr w t (z - fr)) t :: FL C O w t d (fr + lnN C O fr w t (z - fr)) z from if_pos h]
 rw [FL_more C O w t z d (z - (fr + lnN C O fr w t (z - fr))) _ (by omega) (by omega)]
theorem PL_ge (C : List S61) (O : List Int) (w t : Int) {fr z : Nat} (h : z ≤ fr) : PL C O w t fr z = [] := by
 unfold PL
 rw [show z - fr = 0 from by omega]; rfl

/-! ### parts -/
/-- the boundaries with Must -/
def PT (O : List Int) : List Nat := (List.range O.length).filter (fun i => op O i = 2)
/-- the lines of parts that end at such boundaries -/
def BK (C : List S61) (O : List Int) (w t : Int) : Nat → List Nat → List S45
 | _, [] => []
 | fr, z :: r => PL C O w t fr z ++ BK C O w t z r
/-- boundaries that rise, from fr on, up to n -/
def Rise (n : Nat) : Nat → List Nat → Prop
 | fr, [] => fr ≤ n
 | fr, z :: r => fr ≤ z ∧ Rise n z r
theorem Rise.le {n fr : Nat} {l : List Nat} (h : Rise n fr l) : fr ≤ n := by
 induction l generalizing fr with
 | nil => exact h
 | cons z r ih => have := ih h.2; have := h.1; omega
theorem rise_filter (O : List Int) (n : Nat) : ∀ (m s fr : Nat), fr ≤ s → s + m ≤ n + 1 → fr ≤ n → Rise n fr ((List.range' s m).filter (fun i => op O i = 2)) := by
 intro m
 induction m with
 | zero => intro s fr _ _ h; exact h
 | succ m ih =>
  intro s fr h1 h2 h3
  rw [List.range'_succ, List.filter_cons]
  split
  ·exact ⟨h1, ih (s + 1) s (by omega) (by omega) (by omega)⟩
  ·exact ih (s + 1) fr (by omega) (by omega) h3
theorem rise_PT {O : List Int} {n : Nat} (h : O.length = n + 1) : Rise n 0 (PT O) := by
 unfold PT
 rw [List.range_eq_range', h]
 exact rise_filter O n (n + 1) 0 0 (by omega) (by omega) (by omega)
theorem BK_in (C : List S61) (O : List Int) (w t : Int) (n : Nat) : ∀ (l : List Nat) (fr : Nat), Rise n fr l → ∀ x ∈ BK C O w t fr l, LineIn C t fr n x := by
 intro l
 induction l with
 | nil => intro fr _ x hx; cases hx
 | cons z r ih =>
  intro fr h x hx
  have hle := Rise.le h.2
  rcases List.mem_append.1 hx with hx | hx
  ·obtain ⟨a, m, e, h1, h2, h3, h4⟩ := FL_in C O w t z _ fr x hx
   exact ⟨a, m, e, h1, h2, h3, by omega⟩
  ·obtain ⟨a, m, e, h1, h2, h3, h4⟩ := ih z h.2 x hx
   have := h.1
   exact ⟨a, m, e, h1, by omega, h3, h4⟩
theorem BK_len (C : List S61) (O : List Int) (w t : Int) (n : Nat) : ∀ (l : List Nat) (fr : Nat), Rise n fr l → (BK C O w t fr l).length ≤ n - fr := by
 intro l
 induction l with
 | nil => intro fr _; exact Nat.zero_le _
 | cons z r ih =>
  intro fr h
  have h1 := ih z h.2
  have h2 := FL_len C O w t z (z - fr) fr
  have h3 := h.1
  have h4 := Rise.le h.2
  show (PL C O w t fr z ++ BK C O w t z r).length ≤ _
  rw [List.length_append]
  unfold PL
  omega
end Go.Proofs.Ytfeidhmkmbgnoaa.Pure
end
section
/- Parts of a text, and what the lines of a part keep: plain. -/
namespace Go.Proofs.Ytfeidhmkmbgnoaa.Pure
open Go.RowKit Go.Proofs.YtfeidhmkmbgnoaaW.PrintWords Go.Proofs.Ytfeidhmkmbgnoaa.F

/-- a number of clusters as the code has it: a boundary, or -1 -/
def enc (fr m : Nat) : Int := if m = 0 then -1 else ((fr + m : Nat) : Int)
theorem enc_zero (fr : Nat) : enc fr 0 = -1 := rfl
theorem enc_pos {fr m : Nat} (h : m ≠ 0) : enc fr m = ((fr + m : Nat) : Int) := if_neg h
/-- parts: each goes from the boundary ahead up to the next one with Must -/
def Sec (O : List Int) (n : Nat) : Nat → List Nat → Prop
 | _, [] => True
 | fr, z :: r => fr ≤ z ∧ z ≤ n ∧ op O z = 2 ∧ (∀ i, fr < i → i < z → op O i ≠ 2) ∧ Sec O n z r
theorem sec_filter (O : List Int) (n : Nat) : ∀ (m s fr : Nat), fr ≤ s → s + m ≤ n + 1 → (∀ i, fr < i → i < s → op O i ≠ 2) → Sec O n fr ((List.range' s m).filter (fun i => op O i = 2)) := by
 intro m
 induction m with
 | zero => intro s fr _ _ _; exact trivial
 | succ m ih =>
  intro s fr h1 h2 h3
  rw [List.range'_succ, List.filter_cons]
  split
  ·rename_i h
   exact ⟨h1, by omega, by simpa using h, h3, ih (s + 1) s (by omega) (by omega) (fun i h4 h5 => by omega)⟩
  ·rename_i h
   refine ih (s + 1) fr (by omega) (by omega) (fun i h4 h5 => ?_)
   rcases Nat.lt_or_ge i s with h6 | h6
   ·exact h3 i h4 h6
   ·rw [show i = s from by omega]; simpa using h
theorem sec_PT {O : List Int} {n : Nat} (h : O.length = n + 1) : Sec O n 0 (PT O) := by
 unfold PT
 rw [List.range_eq_range', h]
 exact sec_filter O n (n + 1) 0 0 (by omega) (by omega) (fun i h1 h2 => by omega)
theorem PT_len (O : List Int) : (PT O).length ≤ O.length := by
 have := List.length_filter_le (fun i => decide (op O i = 2)) (List.range O.length)
 rw [List.length_range] at this
 exact this

theorem cel_succ (C : List S61) (fr m : Nat) (t : Int) : cel C fr (m + 1) 0 t = if emp (cl C (fr + m)) then cel C fr m 0 t else col C fr t (m + 1) := by
 show col C fr t (trm C fr (m + 1)) + (if (0 : Int) = 3 then 1 else 0) = _
 rw [show trm C fr (m + 1) = if emp (cl C (fr + m)) then trm C fr m else m + 1 from rfl]
 split
 ·rfl
 ·show _ + (if (0 : Int) = 3 then (1 : Int) else 0) = _
  rw [if_neg (by decide)]; omega
section
variable {C : List S61} (g : Good C) (O : List Int) (fr : Nat) {w t : Int} (ht : 1 ≤ t ∧ t ≤ 64)
include g ht
theorem cut_stop {m : Nat} (h : w < cel C fr (m + 1) 0 t) : ∀ d : Nat, cutN C fr w t (m + d) = cutN C fr w t m := by
 intro d
 induction d with
 | zero => rfl
 | succ d ih =>
  have := cel_mono g fr ht 0 (show m + 1 ≤ m + d + 1 from by omega)
  show (if cel C fr (m + d + 1) 0 t ≤ w then m + d + 1 else cutN C fr w t (m + d)) = _
  rw [if_neg (by omega)]
  exact ih
theorem best_stop {m : Nat} (h : w < cel C fr (m + 1) 0 t) : ∀ d : Nat, bestN C O fr w t (m + d) = bestN C O fr w t m := by
 intro d
 induction d with
 | zero => rfl
 | succ d ih =>
  have := cel_mono g fr ht 0 (show m + 1 ≤ m + d + 1 from by omega)
  have h2 := cel_zero_le C fr (m + d + 1) (op O (fr + (m + d + 1))) t
  show (if op O (fr + (m + d + 1)) ≠ 0 ∧ cel C fr (m + d + 1) (op O (fr + (m + d + 1))) t ≤ w then m + d + 1 else bestN C O fr w t (m + d)) = _
  rw [if_neg (fun h3 => by omega)]
  exact ih
end
theorem cut_zero {C : List S61} (fr : Nat) {w t : Int} {N : Nat} (hN : 1 ≤ N) (h : cutN C fr w t N = 0) : w < cel C fr 1 0 t :=
 (cutN_spec C fr w t N).2 1 (by omega) hN

/-- what one line keeps -/
theorem line_spec {C : List S61} {O : List Int} (ho : ∀ i, 0 ≤ op O i ∧ op O i ≤ 3) (fr : Nat) {w t : Int} (hw : 1 ≤ w) {N : Nat} :
  (lnE C O fr w t N = 4 ∨ (lnE C O fr w t N = op O (fr + lnN C O fr w t N) ∧ lnE C O fr w t N ≠ 0)) ∧
  (w < cel C fr (lnN C O fr w t N) (lnE C O fr w t N) t → lnN C O fr w t N = 1 ∧ trm C fr 1 = 1) ∧
  (∀ m, 1 ≤ m → m ≤ N → op O (fr + m) ≠ 0 → cel C fr m (op O (fr + m)) t ≤ w → lnE C O fr w t N ≠ 4 ∧ m ≤ lnN C O fr w t N) := by
 have hb := bestN_spec C O fr w t N
 have hc := cutN_spec C fr w t N
 by_cases h0 : bestN C O fr w t N = 0
 ·have eN : lnN C O fr w t N = if cutN C fr w t N = 0 then 1 else cutN C fr w t N := if_pos h0
  have eE : lnE C O fr w t N = if op O (fr + lnN C O fr w t N) = 2 ∨ op O (fr + lnN C O fr w t N) = 1 then op O (fr + lnN C O fr w t N) else 4 := if_pos h0
  have he3 : lnE C O fr w t N ≠ 3 := by rw [eE]; split <;> omega
  have ec : ∀ m, cel C fr m (lnE C O fr w t N) t = cel C fr m 0 t := fun m => by unfold cel; rw [if_neg he3, if_neg (by decide)]
  refine ⟨?_, ?_, fun m h1 h2 h3 h4 => absurd ⟨h3, h4⟩ (hb.2 m (by omega) h2)⟩
  ·rw [eE]; split
   ·rename_i h; exact .inr ⟨rfl, by omega⟩
   ·exact .inl rfl
  ·intro h
   rw [ec] at h
   by_cases hc0 : cutN C fr w t N = 0
   ·rw [eN, if_pos hc0] at *
    refine ⟨rfl, ?_⟩
    rcases Nat.lt_or_ge (trm C fr 1) 1 with h5 | h5
    ·have h6 : cel C fr 1 0 t = 0 := by
      unfold cel
      rw [show trm C fr 1 = 0 from by omega, if_neg (by decide)]; rfl
     omega
    ·have := trm_le C fr 1; omega
   ·have := hc.1 hc0
    rw [eN, if_neg hc0] at h
    omega
 ·have eN : lnN C O fr w t N = bestN C O fr w t N := if_neg h0
  have eE : lnE C O fr w t N = op O (fr + lnN C O fr w t N) := if_neg h0
  have h1 := hb.1 h0
  rw [eE, eN]
  refine ⟨.inr ⟨rfl, h1.1⟩, fun h => by omega, fun m h2 h3 h4 h5 => ⟨by have := ho (fr + bestN C O fr w t N); omega, ?_⟩⟩
  rcases Nat.lt_or_ge (bestN C O fr w t N) m with h6 | h6
  ·exact absurd ⟨h4, h5⟩ (hb.2 m h6 h3)
  ·exact h6
/-- all fits: one line -/
theorem PL_one {C : List S61} (g : Good C) {O : List Int} {fr z : Nat} {w t : Int} (ht : 1 ≤ t ∧ t ≤ 64) (hlt : fr < z) (h2 : op O z = 2) (hw : 64 * (z - fr : Nat) + 1 ≤ w) :
  PL C O w t fr z = [mkln C fr (z - fr) 2 t] := by
 obtain ⟨N, hN⟩ : ∃ N, z - fr = N + 1 := ⟨z - fr - 1, by omega⟩
 have hb : bestN C O fr w t (z - fr) = z - fr := by
  have h3 := (cel_bd g fr (N + 1) 2 ht).2
  have h4 : op O (fr + (N + 1)) = 2 := by rw [show fr + (N + 1) = z from by omega]; exact h2
  rw [hN]
  show (if _ then _ else _) = _
  rw [if_pos ⟨by omega, by rw [h4]; omega⟩]
 have hn : lnN C O fr w t (z - fr) = z - fr := by
  unfold lnN; rw [hb, if_neg (by omega)]
 have he : lnE C O fr w t (z - fr) = 2 := by
  unfold lnE; rw [hn, hb, if_neg (by omega), show fr + (z - fr) = z from by omega, h2]
 rw [PL_lt C O w t hlt, hn, he, PL_ge _ _ _ _ (by omega)]
end Go.Proofs.Ytfeidhmkmbgnoaa.Pure
end
section
/- The printed functions of Para, span and the document's span come to the plain functions. -/
namespace Go.Proofs.Ytfeidhmkmbgnoaa.Pure
open Go.RowKit Go.Proofs.YtfeidhmkmbgnoaaW.PrintWords Go.Proofs.Ytfeidhmkmbgnoaa.F

/-! ### Para -/
theorem para_l1 {l : List S49} (hl : l.length ≤ 1000) (hs : ∀ b ∈ l, Small b) : ∀ (d i : Nat), i + d = l.length →
  Ev (fun k => h3_Para.l1 k l (i : Int) (CL l) ((List.range i).map (opp l))) (CL l, OP l) := by
 intro d
 induction d with
 | zero =>
  intro i hi
  refine Ev.step (fun k => by unfold h3_Para.l1; rfl) (ev_neg (by rw [CL_len]; omega) (ev_pos (by simp; omega) (ev_ret ?_)))
  have : opp l i = 2 := by unfold opp; rw [if_pos (by omega)]
  rw [← this, map_range_snoc, show i + 1 = l.length + 1 from by omega]
  rfl
 | succ d ih =>
  intro i hi
  refine Ev.step (fun k => by unfold h3_Para.l1; rfl) (ev_pos (by rw [CL_len]; omega) ?_)
  have hn : wrap64 ((i : Int) + 1) = ((i + 1 : Nat) : Int) := by rw [w64 (by omega) (by omega)]; rfl
  have hlen : ((List.range i).map (opp l)).length < 140737488355328 := by simp; omega
  by_cases h0 : i = 0
  ·subst h0
   refine ev_neg (by omega) (ev_pos hlen ?_)
   rw [hn, show (0 : Int) = opp l 0 from by unfold opp; rw [if_neg (by omega)]; rfl, map_range_snoc]
   exact ih 1 (by omega)
  ·obtain ⟨j, rfl⟩ : ∃ j, i = j + 1 := ⟨i - 1, by omega⟩
   refine ev_pos (by omega) ?_
   rw [show wrap64 (((j + 1 : Nat) : Int) - 1) = (j : Int) from by rw [w64 (by omega) (by omega)]; omega]
   refine ev_pos (by omega) (ev_pos (by omega) (ev_pos hlen ?_))
   have hb := hs _ (bit_mem (show j < l.length from by omega))
   rw [hn, rd_bit, tmodp hb.2.2.2.1, show (bit l j).f3 % 4 = opp l (j + 1) from by unfold opp; rw [if_neg (by omega), if_neg (by omega)]; rfl, map_range_snoc]
   exact ih (j + 1 + 1) (by omega)
theorem para_j1 {l : List S49} (hl : l.length ≤ 1000) (hs : ∀ b ∈ l, Small b) : Ev (fun k => h3_Para.j1 k l (CL l)) (CL l, OP l) :=
 Ev.step (fun k => by unfold h3_Para.j1; rfl) (para_l1 hl hs l.length 0 (by omega))
theorem para_l0 {l : List S49} (hl : l.length ≤ 1000) (hs : ∀ b ∈ l, Small b) : ∀ (d i : Nat), i + d = l.length →
  Ev (fun k => h3_Para.l0 k l (atl l i) (i : Int) ((List.range i).map (clus l))) (CL l, OP l) := by
 intro d
 induction d with
 | zero =>
  intro i hi
  refine Ev.step (fun k => by unfold h3_Para.l0; rfl) (ev_neg (by omega) ?_)
  rw [show i = l.length from by omega]
  exact para_j1 hl hs
 | succ d ih =>
  intro i hi
  have ha := atl_bd l i
  have hb := hs _ (bit_mem (show i < l.length from by omega))
  have m4 := mod4 (bit l i).f2
  have m3 := mod3 (bit l i).f0
  refine Ev.step (fun k => by unfold h3_Para.l0; rfl) (ev_pos (by omega) (ev_pos (by omega) (ev_pos (by omega) (ev_pos (by simp; omega) ?_))))
  rw [rd_bit, tmodp hb.2.2.1.1, tmodp hb.1.1, tmodp hb.2.1.1, w64 (x := (bit l i).f2 % 4) (by omega) (by omega), w64 (x := 1 + (bit l i).f2 % 4) (by omega) (by omega), w64 (x := (bit l i).f0 % 3) (by omega) (by omega),
   w64 (x := (i : Int) + 1) (by omega) (by omega), w64 (x := atl l i + (1 + (bit l i).f2 % 4)) (by omega) (by omega)]
  rw [show (⟨atl l i, 1 + (bit l i).f2 % 4, (bit l i).f0 % 3, (bit l i).f1 % 3⟩ : S61) = clus l i from rfl, map_range_snoc]
  exact ih (i + 1) (by omega)
theorem para_ev {l : List S49} (hl : l.length ≤ 1000) (hs : ∀ b ∈ l, Small b) : Ev (fun k => h3_Para.f k l) (CL l, OP l) :=
 para_l0 hl hs l.length 0 (by omega)

/-! ### span -/
theorem next_eq {c : S61} {x t : Int} (h0 : 0 ≤ c.f2 ∧ c.f2 ≤ 2) (hx : 0 ≤ x ∧ x ≤ 1000000) (ht : 1 ≤ t ∧ t ≤ 64) : span_Next.f c.f0 c.f1 c.f2 c.f3 x t = some (nxt c x t) := by
 unfold span_Next.f nxt
 have h1 := Int.emod_nonneg x (by omega : t ≠ 0)
 have h2 := Int.emod_lt_of_pos x (by omega : 0 < t)
 by_cases h : c.f3 = 2
 ·rw [if_pos h, if_pos h, if_neg (by omega), tmodp hx.1, w64 (x := x + t) (by omega) (by omega), w64 (by omega) (by omega)]
 ·rw [if_neg h, if_neg h, w64 (by omega) (by omega)]
theorem columns_l0 {C : List S61} (g : Good C) (O : List Int) (fr n : Nat) {t : Int} (ht : 1 ≤ t ∧ t ≤ 64) (h : fr + n ≤ C.length) : ∀ (d i : Nat), i + d = n →
  Ev (fun k => span_Columns.l0 k ((fr + n : Nat) : Int) t ((List.range (i + 1)).map (col C fr t)) ((fr + i : Nat) : Int) C O) ((List.range (n + 1)).map (col C fr t)) := by
 have hg := g.len
 intro d
 induction d with
 | zero =>
  intro i hi
  refine Ev.step (fun k => by unfold span_Columns.l0; rfl) (ev_neg (by omega) (ev_ret ?_))
  rw [show i = n from by omega]
 | succ d ih =>
  intro i hi
  have hc := col_bd g fr ht i
  refine Ev.step (fun k => by unfold span_Columns.l0; rfl) (ev_pos (by omega) (ev_pos (by omega) (ev_pos (by omega) ?_)))
  rw [List.length_map, List.length_range, show wrap64 (((i + 1 : Nat) : Int) - 1) = (i : Int) from by rw [w64 (by omega) (by omega)]; omega, rd_map_range _ (by omega), rd_cl]
  refine ev_pos (by omega) (ev_pos (by omega) (ev_bind' (next_eq (g.cells _) (by omega) ht) (ev_pos (by omega) ?_)))
  rw [show wrap64 (((fr + i : Nat) : Int) + 1) = ((fr + (i + 1) : Nat) : Int) from by rw [w64 (by omega) (by omega)]; omega, show nxt (cl C (fr + i)) (col C fr t i) t = col C fr t (i + 1) from rfl, map_range_snoc]
  exact ih (i + 1) (by omega)
theorem columns_ev {C : List S61} (g : Good C) (O : List Int) (fr n : Nat) {t : Int} (ht : 1 ≤ t ∧ t ≤ 64) (h : fr + n ≤ C.length) :
  Ev (fun k => span_Columns.f k C O (fr : Int) ((fr + n : Nat) : Int) t) ((List.range (n + 1)).map (col C fr t)) :=
 columns_l0 g O fr n ht h n 0 (by omega)
theorem empty_eq {c : S61} : span_empty.f c.f0 c.f1 c.f2 c.f3 = some (emp c) := by
 unfold span_empty.f emp
 by_cases h1 : c.f3 = 1
 ·rw [if_pos h1, h1]; rfl
 ·rw [if_neg h1]
  by_cases h0 : c.f3 = 0
  ·rw [if_pos h0, h0]; rfl
  ·rw [if_neg h0]
   simp [h1, h0]
theorem trim_ev {C : List S61} (g : Good C) (O : List Int) (fr : Nat) : ∀ n : Nat, fr + n ≤ C.length →
  Ev (fun k => span_Trim.f k C O (fr : Int) ((fr + n : Nat) : Int)) ((fr + trm C fr n : Nat) : Int) := by
 have hg := g.len
 intro n
 induction n with
 | zero =>
  intro h
  exact Ev.step (fun k => by unfold span_Trim.f span_Trim.l0; rfl) (ev_neg (by omega) (Ev.now _))
 | succ n ih =>
  intro h
  refine Ev.step (fun k => by unfold span_Trim.f span_Trim.l0; rfl) (ev_pos (by omega) ?_)
  rw [show wrap64 (((fr + (n + 1) : Nat) : Int) - 1) = ((fr + n : Nat) : Int) from by rw [w64 (by omega) (by omega)]; omega]
  refine ev_pos (by omega) (ev_pos (by omega) (ev_bind' empty_eq ?_))
  rw [rd_cl]
  by_cases he : emp (cl C (fr + n)) = true
  ·rw [show trm C fr (n + 1) = trm C fr n from if_pos he]
   exact ev_pos he (ih (by omega))
  ·rw [show trm C fr (n + 1) = n + 1 from if_neg he]
   exact ev_neg he (Ev.now _)
theorem cells_ev {C : List S61} (g : Good C) (O : List Int) (fr n : Nat) (e : Int) {t : Int} (ht : 1 ≤ t ∧ t ≤ 64) (h : fr + n ≤ C.length) :
  Ev (fun k => span_Cells.f k C O (fr : Int) ((fr + n : Nat) : Int) e t) (cel C fr n e t) := by
 have hg := g.len
 have ht' := trm_le C fr n
 have hc := col_bd g fr ht (trm C fr n)
 unfold span_Cells.f
 refine ev_bind (trim_ev g O fr n h) (ev_bind (columns_ev g O fr (trm C fr n) ht (by omega)) ?_)
 rw [List.length_map, List.length_range, show wrap64 (((trm C fr n + 1 : Nat) : Int) - 1) = (trm C fr n : Int) from by rw [w64 (by omega) (by omega)]; omega, rd_map_range _ (by omega)]
 refine ev_pos (by omega) (ev_pos (by omega) ?_)
 unfold cel
 by_cases he : e = 3
 ·refine ev_pos he (ev_ret ?_)
  rw [if_pos he, w64 (by omega) (by omega)]
 ·refine ev_neg he (ev_ret ?_)
  rw [if_neg he]
  omega
end Go.Proofs.Ytfeidhmkmbgnoaa.Pure
end
section
/- The code's span.Make and span.Ends come to the plain line. -/
namespace Go.Proofs.Ytfeidhmkmbgnoaa.Pure
open Go.RowKit Go.Proofs.YtfeidhmkmbgnoaaW.PrintWords Go.Proofs.Ytfeidhmkmbgnoaa.F
theorem make_ev {C : List S61} (g : Good C) (O : List Int) (fr n : Nat) (e : Int) {t : Int} (ht : 1 ≤ t ∧ t ≤ 64) (h : fr + n ≤ C.length) :
  Ev (fun k => span_Make.f k C O (fr : Int) ((fr + n : Nat) : Int) e t) ((fr : Int), ((fr + n : Nat) : Int), cel C fr n e t, e) := by
 unfold span_Make.f
 exact ev_bind (cells_ev g O fr n e ht h) (Ev.now _)
theorem ends_eq (C : List S61) {O : List Int} {i : Nat} (h : i < O.length) : span_Ends.f C O (i : Int) = some (op O i, op O i != 0) := by
 unfold span_Ends.f
 rw [if_pos (by omega), if_pos (by omega), rd_op]
theorem cel_end (C : List S61) (fr n : Nat) (e t : Int) : cel C fr n e t = cel C fr n 0 t + if e = 3 then 1 else 0 := by
 unfold cel
 rw [if_neg (show ¬ ((0 : Int) = 3) from by decide)]
 omega
end Go.Proofs.Ytfeidhmkmbgnoaa.Pure
end
section
/- The code's first.Break comes to the plain lines. -/
namespace Go.Proofs.Ytfeidhmkmbgnoaa.Pure
open Go.RowKit Go.Proofs.YtfeidhmkmbgnoaaW.PrintWords Go.Proofs.Ytfeidhmkmbgnoaa.F
section
variable {C : List S61} (g : Good C) {O : List Int} (hO : O.length = C.length + 1) {w t : Int} (ht : 1 ≤ t ∧ t ≤ 64) (m3 h4 p5 : Int) (lo : Nat)
 {fr z : Nat} (hlt : fr < z) (hz : z ≤ C.length) (h2 : op O z = 2) (hs : ∀ i, fr < i → i < z → op O i ≠ 2)
/-- the line as the code hands it back -/
def ltup (C : List S61) (O : List Int) (w t : Int) (fr N : Nat) : Int × Int × Int × Int :=
 ((fr : Int), ((fr + lnN C O fr w t N : Nat) : Int), cel C fr (lnN C O fr w t N) (lnE C O fr w t N) t, lnE C O fr w t N)
include g hO ht hlt hz h2 hs
theorem one_j2 {m : Nat} (hc : cutN C fr w t (z - fr) = m) :
  Ev (fun k => first_one.j2 k (fr : Int) (z : Int) (enc fr (bestN C O fr w t (z - fr))) ((fr + max m 1 : Nat) : Int) C O w t m3 h4 p5 lo) (ltup C O w t fr (z - fr)) := by
 have hg := g.len
 have hbl := bestN_le C O fr w t (z - fr)
 have hcl := cutN_le C fr w t (z - fr)
 rw [hc] at hcl
 refine Ev.step (fun k => by unfold first_one.j2; rfl) ?_
 unfold ltup
 by_cases h0 : bestN C O fr w t (z - fr) = 0
 ·have eN : lnN C O fr w t (z - fr) = max m 1 := by
   unfold lnN
   rw [if_pos h0, hc]
   split <;> omega
  have eE : lnE C O fr w t (z - fr) = if op O (fr + max m 1) = 2 ∨ op O (fr + max m 1) = 1 then op O (fr + max m 1) else 4 := by
   rw [← eN]; exact if_pos h0
  rw [eN, h0, enc_zero]
  refine ev_neg (by omega) ?_
  by_cases hz1 : fr + max m 1 = z
  ·rw [hz1, h2, if_pos (.inl rfl)] at eE
   rw [eE]
   refine ev_pos (by omega) (ev_pos (by omega) (ev_pos (by omega) (ev_neg (by omega) ?_)))
   rw [rd_op, h2]
   refine ev_bind (make_ev g O fr (max m 1) 2 ht (by omega)) (Ev.now _)
  ·have hn2 := hs (fr + max m 1) (by omega) (by omega)
   refine ev_neg (by omega) (ev_pos (by omega) (ev_pos (by omega) (ev_pos (by omega) ?_)))
   rw [rd_op]
   by_cases h1 : op O (fr + max m 1) = 1
   ·rw [if_pos (.inr h1), h1] at eE
    rw [eE]
    refine ev_pos h1 (ev_bind (make_ev g O fr (max m 1) 1 ht (by omega)) (Ev.now _))
   ·rw [if_neg (by omega)] at eE
    rw [eE]
    refine ev_neg h1 (ev_bind (make_ev g O fr (max m 1) 4 ht (by omega)) (Ev.now _))
 ·have eN : lnN C O fr w t (z - fr) = bestN C O fr w t (z - fr) := if_neg h0
  have eE : lnE C O fr w t (z - fr) = op O (fr + bestN C O fr w t (z - fr)) := by
   rw [← eN]; exact if_neg h0
  rw [eN, eE, enc_pos h0]
  refine ev_pos (by omega) (ev_pos (by omega) (ev_pos (by omega) ?_))
  rw [rd_op]
  exact ev_bind (make_ev g O fr (bestN C O fr w t (z - fr)) _ ht (by omega)) (Ev.now _)
theorem one_l0 : ∀ (d m : Nat), m + d = z - fr → cutN C fr w t m = m →
  Ev (fun k => first_one.l0 k (fr : Int) (z : Int) (enc fr (bestN C O fr w t m)) ((fr + max m 1 : Nat) : Int) (col C fr t m) (cel C fr m 0 t) ((fr + m + 1 : Nat) : Int) C O w t m3 h4 p5 lo) (ltup C O w t fr (z - fr)) := by
 have hg := g.len
 intro d
 induction d with
 | zero =>
  intro m hm hc
  have hm' : m = z - fr := by omega
  subst hm'
  refine Ev.step (fun k => by unfold first_one.l0; rfl) (ev_neg (by omega) ?_)
  exact one_j2 g hO ht m3 h4 p5 lo hlt hz h2 hs hc
 | succ d ih =>
  intro m hm hc
  have hcb := col_bd g fr ht m
  have hmx : max (m + 1) 1 = m + 1 := by omega
  have hj : Ev (fun k => first_one.j1 k (fr : Int) (z : Int) (enc fr (bestN C O fr w t m)) ((fr + max m 1 : Nat) : Int) (col C fr t (m + 1)) (cel C fr (m + 1) 0 t) ((fr + m + 1 : Nat) : Int) C O w t m3 h4 p5 lo) (ltup C O w t fr (z - fr)) := by
   refine Ev.step (fun k => by unfold first_one.j1; rfl) ?_
   by_cases hw : cel C fr (m + 1) 0 t > w
   ·refine ev_pos hw ?_
    have e1 := cut_stop g fr ht hw (z - fr - m)
    have e2 := best_stop g O fr ht hw (z - fr - m)
    rw [show m + (z - fr - m) = z - fr from by omega] at e1 e2
    rw [← e2]
    exact one_j2 g hO ht m3 h4 p5 lo hlt hz h2 hs (e1.trans hc)
   ·have hc1 : cutN C fr w t (m + 1) = m + 1 := if_pos (by omega)
    have ih' := ih (m + 1) (by omega) hc1
    rw [hmx] at ih'
    refine ev_neg hw (ev_bind' (ends_eq C (by omega)) ?_)
    dsimp only
    rw [show wrap64 (((fr + m + 1 : Nat) : Int) + 1) = ((fr + (m + 1) + 1 : Nat) : Int) from by rw [w64 (by omega) (by omega)]; omega]
    have eb : bestN C O fr w t (m + 1) = if op O (fr + (m + 1)) ≠ 0 ∧ cel C fr (m + 1) (op O (fr + (m + 1))) t ≤ w then m + 1 else bestN C O fr w t m := rfl
    rw [show fr + m + 1 = fr + (m + 1) from by omega]
    rw [cel_end] at eb
    by_cases ho : op O (fr + (m + 1)) = 0
    ·rw [if_neg (fun hh => hh.1 ho)] at eb
     rw [eb] at ih'
     exact ev_neg (by simp [ho]) ih'
    ·refine ev_pos (by simp [ho]) ?_
     by_cases h3 : op O (fr + (m + 1)) = 3
     ·refine ev_pos h3 ?_
      rw [if_pos h3] at eb
      by_cases hw2 : cel C fr (m + 1) 0 t < w
      ·rw [if_pos ⟨ho, by omega⟩] at eb
       rw [eb, enc_pos (by omega)] at ih'
       exact ev_pos hw2 ih'
      ·rw [if_neg (fun hh => by omega)] at eb
       rw [eb] at ih'
       exact ev_neg hw2 ih'
     ·refine ev_neg h3 ?_
      rw [if_neg h3] at eb
      rw [if_pos ⟨ho, by omega⟩] at eb
      rw [eb, enc_pos (by omega)] at ih'
      exact ih'
  refine Ev.step (fun k => by unfold first_one.l0; rfl) (ev_pos (by omega) ?_)
  rw [show wrap64 (((fr + m + 1 : Nat) : Int) - 1) = ((fr + m : Nat) : Int) from by rw [w64 (by omega) (by omega)]; omega]
  refine ev_pos (by omega) (ev_pos (by omega) ?_)
  rw [rd_cl]
  refine ev_bind' (next_eq (g.cells (fr + m)) (by omega) ht) ?_
  refine ev_bind (show Ev (fun k => span_Trim.f k C O ((fr + m : Nat) : Int) ((fr + m + 1 : Nat) : Int)) ((fr + m + trm C (fr + m) 1 : Nat) : Int) from trim_ev g O (fr + m) 1 (by omega)) ?_
  have ec := cel_succ C fr m t
  by_cases he : emp (cl C (fr + m)) = true
  ·rw [if_pos he] at ec
   rw [ec] at hj
   have : trm C (fr + m) 1 = 0 := if_pos he
   rw [this]
   exact ev_neg (by omega) hj
  ·rw [if_neg he] at ec
   rw [ec] at hj
   have : trm C (fr + m) 1 = 1 := if_neg he
   rw [this]
   exact ev_pos (by omega) hj
theorem one_ev : Ev (fun k => first_one.f k C O (fr : Int) (z : Int) w t m3 h4 p5 lo) (ltup C O w t fr (z - fr)) := by
 have hg := g.len
 have := one_l0 g hO ht m3 h4 p5 lo (w := w) hlt hz h2 hs (z - fr) 0 (by omega) rfl
 unfold first_one.f
 rw [show wrap64 ((fr : Int) + 1) = ((fr + 0 + 1 : Nat) : Int) from by rw [w64 (by omega) (by omega)]; omega]
 exact this
end
section
variable {C : List S61} (g : Good C) {O : List Int} (hO : O.length = C.length + 1) {w t : Int} (ht : 1 ≤ t ∧ t ≤ 64) (m3 h4 p5 : Int) (lo : Nat) {z : Nat} (hz : z ≤ C.length) (h2 : op O z = 2)
include g hO ht hz h2
theorem first_l0 : ∀ (d fr : Nat) (acc : List S45), z - fr ≤ d → fr ≤ z → acc.length ≤ fr → (∀ i, fr < i → i < z → op O i ≠ 2) →
  Ev (fun k => first_Break.l0 k (fr : Int) (z : Int) acc C O w t m3 h4 p5 lo) (acc ++ PL C O w t fr z) := by
 have hg := g.len
 intro d
 induction d with
 | zero =>
  intro fr acc hd hf _ _
  refine Ev.step (fun k => by unfold first_Break.l0; rfl) (ev_neg (by omega) (ev_ret ?_))
  rw [PL_ge _ _ _ _ (by omega), List.append_nil]
 | succ d ih =>
  intro fr acc hd hf hacc hs
  by_cases hlt : fr < z
  ·have hb := lnN_bd C O fr w t (N := z - fr) (by omega)
   refine Ev.step (fun k => by unfold first_Break.l0; rfl) (ev_pos (by omega) (ev_bind (one_ev g hO ht m3 h4 p5 lo hlt hz h2 hs) ?_))
   rw [PL_lt C O w t hlt]
   have := ih (fr + lnN C O fr w t (z - fr)) (acc ++ [mkln C fr (lnN C O fr w t (z - fr)) (lnE C O fr w t (z - fr)) t]) (by omega) (by omega) (by simp; omega) (fun i h3 h4 => hs i (by omega) h4)
   rw [List.append_assoc] at this
   exact ev_pos (by omega) this
  ·refine Ev.step (fun k => by unfold first_Break.l0; rfl) (ev_neg (by omega) (ev_ret ?_))
   rw [PL_ge _ _ _ _ (by omega), List.append_nil]
theorem first_ev {fr : Nat} (hf : fr ≤ z) (hs : ∀ i, fr < i → i < z → op O i ≠ 2) : Ev (fun k => first_Break.f k C O (fr : Int) (z : Int) w t m3 h4 p5 lo) (PL C O w t fr z) := by
 have := first_l0 g hO ht m3 h4 p5 lo (w := w) hz h2 (z - fr) fr [] (Nat.le_refl _) hf (Nat.zero_le _) hs
 exact this
end
end Go.Proofs.Ytfeidhmkmbgnoaa.Pure
end
section
/- A text of letters. -/
namespace Go.Proofs.Ytfeidhmkmbgnoaa.Pure
open Go.RowKit Go.Proofs.YtfeidhmkmbgnoaaW.PrintWords Go.Proofs.Ytfeidhmkmbgnoaa.F
def tbit (b : Int) : S49 := if b = 32 then ⟨1, 1, 0, 1⟩ else ⟨1, 0, 0, 0⟩
theorem tbit_small (xs : List Int) : ∀ b ∈ xs.map tbit, Small b := by
 intro b hb
 obtain ⟨x, _, rfl⟩ := List.mem_map.1 hb
 unfold tbit
 split <;> exact ⟨by decide, by decide, by decide, by decide⟩
theorem text_l0 {xs : List Int} (hx : xs.length ≤ 1000) : ∀ (d i : Nat), i + d = xs.length →
  Ev (fun k => l4_Text.l0 k ((xs.take i).map tbit) xs (xs.length : Int) (i : Int)) (CL (xs.map tbit), OP (xs.map tbit)) := by
 intro d
 induction d with
 | zero =>
  intro i hi
  refine Ev.step (fun k => by unfold l4_Text.l0; rfl) (ev_neg (by omega) ?_)
  rw [show i = xs.length from by omega, List.take_length]
  exact ev_bind (para_ev (by rw [List.length_map]; exact hx) (tbit_small xs)) (Ev.now _)
 | succ d ih =>
  intro i hi
  have hlt : i < xs.length := by omega
  have ih' := ih (i + 1) (by omega)
  have e1 : rd xs (i : Int) = xs[i] := by rw [rd_nat, List.getD_eq_getElem?_getD, List.getElem?_eq_getElem hlt]; rfl
  rw [List.take_succ_eq_append_getElem hlt, List.map_append] at ih'
  have hl : ((xs.take i).map tbit).length < 35184372088832 := by rw [List.length_map, List.length_take]; omega
  refine Ev.step (fun k => by unfold l4_Text.l0; rfl) (ev_pos (by omega) (ev_pos (by omega) (ev_pos (by omega) ?_)))
  rw [e1, show wrap64 ((i : Int) + 1) = ((i + 1 : Nat) : Int) from by rw [w64 (by omega) (by omega)]; rfl]
  by_cases h : xs[i] = 32
  ·refine ev_pos h (ev_pos hl ?_)
   simpa [tbit, h] using ih'
  ·refine ev_neg h (ev_pos hl ?_)
   simpa [tbit, h] using ih'
theorem text_ev (s : ByteArray) (h : s.size ≤ 1000) : Ev (fun k => l4_Text.f k s) (CL ((bytesOf s).map tbit), OP ((bytesOf s).map tbit)) := by
 unfold l4_Text.f
 refine ev_pos (by omega) (ev_let ?_)
 exact text_l0 (by rw [bytesOf_length]; exact h) _ 0 (Nat.zero_add _)
end Go.Proofs.Ytfeidhmkmbgnoaa.Pure
end
section
/- Layer 14's Awake. -/
namespace Go.Proofs.Ytfeidhmkmbgnoaa.Pure
open Go.RowKit Go.Proofs.YtfeidhmkmbgnoaaW.PrintWords Go.Proofs.Ytfeidhmkmbgnoaa.F
theorem awake14 : Ev (fun k => l4_Awake.f k) true := by
 have hO : ∀ l : List S49, (OP l).length = (CL l).length + 1 := fun l => by rw [OP_len, CL_len]
 unfold l4_Awake.f
 refine ev_bind (text_ev _ (by decide)) ?_
 refine ev_bind (first_ev (good_CL (by decide)) (hO _) (t := 8) (w := 3) (by decide) 0 0 0 0 (z := 5) (by decide) (by decide) (fr := 0) (by decide) (by intro i h1 h2; obtain rfl | rfl | rfl | rfl : i = 1 ∨ i = 2 ∨ i = 3 ∨ i = 4 := (by omega) <;> decide)) ?_
 refine ev_bind (text_ev _ (by decide)) ?_
 refine ev_bind (first_ev (good_CL (by decide)) (hO _) (t := 8) (w := 3) (by decide) 0 0 0 0 (z := 4) (by decide) (by decide) (fr := 0) (by decide) (by intro i h1 h2; obtain rfl | rfl | rfl : i = 1 ∨ i = 2 ∨ i = 3 := (by omega) <;> decide)) ?_
 refine ev_pos (by decide) (ev_pos (by decide) (ev_pos (by decide) (ev_pos (by decide) (ev_pos (by decide) (ev_pos (by decide) (ev_pos (by decide) (ev_pos (by decide) (ev_ret (by decide)))))))))
end Go.Proofs.Ytfeidhmkmbgnoaa.Pure
end
section
/- A way made of small numbers. -/
namespace Go.Proofs.Ytfeidhmkmbgnoaa.Pure
open Go.RowKit Go.Proofs.YtfeidhmkmbgnoaaW.PrintWords Go.Proofs.Ytfeidhmkmbgnoaa.F
theorem config_eq {a b c d e : Int} (l : Nat) (ha : 0 ≤ a ∧ a ≤ 255) (hb : 0 ≤ b ∧ b ≤ 255) (hc : 0 ≤ c ∧ c ≤ 255) (hd : 0 ≤ d ∧ d ≤ 65535) (he : 0 ≤ e ∧ e ≤ 65535) :
  h3_Config.f a b c d e l = some (1 + a, 1 + b % 64, c % 2, d, e, l) := by
 unfold h3_Config.f
 rw [tmodp hb.1, tmodp hc.1, w64 (x := a) (by omega) (by omega), w64 (x := 1 + a) (by omega) (by omega), w64 (x := b % 64) (by omega) (by omega), w64 (x := 1 + b % 64) (by omega) (by omega), w64 (x := d) (by omega) (by omega), w64 (x := e) (by omega) (by omega)]
theorem way_of {a b c d e : Int} {l : Nat} (h : (Lit.int .u8 a).wf = true ∧ (Lit.int .u8 b).wf = true ∧ (Lit.int .u8 c).wf = true ∧ (Lit.int .u16 d).wf = true ∧ (Lit.int .u16 e).wf = true ∧ (Lit.float .f64 l).wf = true) :
  (0 ≤ a ∧ a ≤ 255) ∧ (0 ≤ b ∧ b ≤ 255) ∧ (0 ≤ c ∧ c ≤ 255) ∧ (0 ≤ d ∧ d ≤ 65535) ∧ (0 ≤ e ∧ e ≤ 65535) := by
 rw [wfu8, wfu8, wfu8, wfu16, wfu16] at h
 exact ⟨h.1, h.2.1, h.2.2.1, h.2.2.2.1, h.2.2.2.2.1⟩
end Go.Proofs.Ytfeidhmkmbgnoaa.Pure
end
section
/- A list of lines is the same as itself. -/
namespace Go.Proofs.Ytfeidhmkmbgnoaa.Pure
open Go.RowKit Go.Proofs.YtfeidhmkmbgnoaaW.PrintWords Go.Proofs.Ytfeidhmkmbgnoaa.F
theorem samel_l0 (a : List S45) (h : a.length ≤ 1000000) : ∀ (d i : Nat), i + d = a.length → Ev (fun k => r3_SameLines.l0 k a a (i : Int)) true := by
 intro d
 induction d with
 | zero =>
  intro i hi
  exact Ev.step (fun k => by unfold r3_SameLines.l0; rfl) (ev_neg (by omega) (Ev.now _))
 | succ d ih =>
  intro i hi
  refine Ev.step (fun k => by unfold r3_SameLines.l0; rfl) (ev_pos (by omega) (ev_pos (by omega) (ev_pos (by omega) (ev_neg (by simp) ?_))))
  rw [show wrap64 ((i : Int) + 1) = ((i + 1 : Nat) : Int) from by rw [w64 (by omega) (by omega)]; rfl]
  exact ih (i + 1) (by omega)
theorem samel_ev (a : List S45) (h : a.length ≤ 1000000) : Ev (fun k => r3_SameLines.f k a a) true := by
 unfold r3_SameLines.f
 exact ev_pos rfl (samel_l0 a h a.length 0 (by omega))
end Go.Proofs.Ytfeidhmkmbgnoaa.Pure
end
section
/- FirstRest: what stands behind a line is broken as it is alone. -/
namespace Go.Proofs.Ytfeidhmkmbgnoaa.Pure
open Go.RowKit Go.Proofs.YtfeidhmkmbgnoaaW.PrintWords Go.Proofs.Ytfeidhmkmbgnoaa.F
theorem wone {n : Nat} (h : n ≤ 100000) : wrap64 ((n : Int) + 1) = ((n + 1 : Nat) : Int) := by
 rw [w64 (by omega) (by omega)]; rfl
section
variable {C : List S61} (g : Good C) {O : List Int} (hO : O.length = C.length + 1) {w t : Int} (ht : 1 ≤ t ∧ t ≤ 64) (m3 h4 p5 : Int) (lo : Nat) (h2 : op O C.length = 2) (hs : ∀ i, 0 < i → i < C.length → op O i ≠ 2)
include g hO ht h2 hs
theorem frest_l1 (X : List S45) (hX : X.length ≤ 4000) : ∀ (d j a : Nat), j + d = X.length → a ≤ C.length → X.drop j = PL C O w t a C.length →
  Ev (fun k => l4_FirstRest.l1 k (C.length : Int) X (X.length : Int) (j : Int) C O w t m3 h4 p5 lo) true := by
 have hg := g.len
 intro d
 induction d with
 | zero =>
  intro j a hj _ _
  exact Ev.step (fun k => by unfold l4_FirstRest.l1; rfl) (ev_neg (by omega) (Ev.now _))
 | succ d ih =>
  intro j a hj haz hd
  have hlt : j < X.length := by omega
  have hda : X.drop j = X[j] :: X.drop (j + 1) := List.drop_eq_getElem_cons hlt
  have haz' : a < C.length := by
   rcases Nat.lt_or_ge a C.length with h | h
   ·exact h
   ·rw [hda, PL_ge C O w t h] at hd; cases hd
  have hd0 := hd
  rw [hda, PL_lt C O w t haz'] at hd
  injection hd with hx hr
  have hb := lnN_bd C O a w t (N := C.length - a) (by omega)
  have hrd : (rd_T45 X (j : Int)).f0 = (a : Int) := by
   show (X.getD j z45).f0 = _
   rw [List.getD_eq_getElem?_getD, List.getElem?_eq_getElem hlt]
   show (X[j]).f0 = _
   rw [hx]; rfl
  have ih' := ih (j + 1) (a + lnN C O a w t (C.length - a)) (by omega) (by omega) hr
  refine Ev.step (fun k => by unfold l4_FirstRest.l1; rfl) (ev_pos (by omega) (ev_pos (by omega) (ev_pos (by omega) ?_)))
  rw [hrd, wone (by omega), Int.toNat_natCast, hd0]
  refine ev_bind (first_ev g hO ht m3 h4 p5 lo (Nat.le_refl _) h2 haz (fun i h1 h3 => hs i (by omega) h3)) (ev_pos (by omega) ?_)
  exact ev_bind (samel_ev _ (by rw [← hd0, List.length_drop]; omega)) (ev_pos rfl ih')
end
section
variable {a b c d e : Int} (lo : Nat) (ha : 0 ≤ a ∧ a ≤ 255) (hb : 0 ≤ b ∧ b ≤ 255) (hc : 0 ≤ c ∧ c ≤ 255) (hd : 0 ≤ d ∧ d ≤ 65535) (he : 0 ≤ e ∧ e ≤ 65535)
include ha hb hc hd he
theorem frest_l0 {l : List S49} (hl : l.length ≤ 200) (hs : ∀ x ∈ l, Small x) (IH : ∀ l' : List S49, l'.length < l.length → (∀ x ∈ l', Small x) → Ev (fun k => l4_FirstRest.f k l' a b c d e lo) true) :
  ∀ (n i : Nat), i + n = l.length → (∀ j, j < i → (bit l j).f3 % 4 ≠ 2) → Ev (fun k => l4_FirstRest.l0 k l (l.length : Int) (i : Int) a b c d e lo) true := by
 intro n
 induction n with
 | zero =>
  intro i hi hn
  have hO : (OP l).length = (CL l).length + 1 := by rw [OP_len, CL_len]
  have g : Good (CL l) := good_CL (by omega)
  have h2 : op (OP l) (CL l).length = 2 := by
   rw [CL_len, ← rd_op, rd_OP (Nat.le_refl _)]; unfold opp; rw [if_pos rfl]
  have hno : ∀ i, 0 < i → i < (CL l).length → op (OP l) i ≠ 2 := by
   intro j h0 hj
   rw [CL_len] at hj
   rw [← rd_op, rd_OP (by omega)]
   unfold opp
   rw [if_neg (by omega), if_neg (by omega)]
   exact hn (j - 1) (by omega)
  have ht : 1 ≤ 1 + b % 64 ∧ 1 + b % 64 ≤ 64 := by omega
  refine Ev.step (fun k => by unfold l4_FirstRest.l0; rfl) (ev_neg (by omega) ?_)
  refine ev_bind (para_ev (by omega) hs) ?_
  refine ev_bind' (config_eq lo ha hb hc hd he) ?_
  dsimp only
  have hf := first_ev g hO (w := 1 + a) ht (c % 2) d e lo (Nat.le_refl _) h2 (Nat.zero_le _) hno
  have hlen : (PL (CL l) (OP l) (1 + a) (1 + b % 64) 0 (CL l).length).length ≤ 4000 := by
   have := FL_len (CL l) (OP l) (1 + a) (1 + b % 64) (CL l).length ((CL l).length - 0) 0
   have := CL_len l
   unfold PL; omega
  refine ev_bind hf ?_
  exact frest_l1 g hO ht (c % 2) d e lo h2 hno _ hlen _ 0 0 (Nat.zero_add _) (Nat.zero_le _) rfl
 | succ n ih =>
  intro i hi hn
  have hlt : i < l.length := by omega
  have hsm := hs _ (bit_mem hlt)
  have h3 := hsm.2.2.2
  refine Ev.step (fun k => by unfold l4_FirstRest.l0; rfl) (ev_pos (by omega) (ev_pos (by omega) (ev_pos (by omega) ?_)))
  rw [rd_bit, tmodp h3.1, wone (by omega), Int.toNat_natCast, Int.toNat_natCast]
  by_cases hk : (bit l i).f3 % 4 = 2
  ·refine ev_pos hk (ev_let (ev_pos (by omega) (ev_let (ev_pos ?_ (ev_let (ev_pos (by omega) (ev_pos (by omega) (ev_let (ev_pos ?_ (ev_bind (IH _ ?_ ?_) (Ev.now _)))))))))))
   ·rw [List.length_take]; simp; omega
   ·rw [List.length_append, List.length_drop, List.length_take, List.length_nil]; omega
   ·rw [List.length_append, List.length_append, List.length_drop, List.length_take, List.length_nil]; omega
   ·intro x hx
    rw [List.nil_append] at hx
    rcases List.mem_append.1 hx with h | h
    ·exact hs x (List.mem_of_mem_take h)
    ·exact hs x (List.mem_of_mem_drop h)
  ·refine ev_neg hk (ih (i + 1) (by omega) (fun j hj => ?_))
   rcases Nat.eq_or_lt_of_le (Nat.le_of_lt_succ hj) with h | h
   ·rw [h]; exact hk
   ·exact hn j h
theorem frest_f : ∀ (n : Nat) (l : List S49), l.length ≤ n → (∀ x ∈ l, Small x) → Ev (fun k => l4_FirstRest.f k l a b c d e lo) true := by
 intro n
 induction n with
 | zero =>
  intro l hl hs
  have h0 : ¬ (l.length : Int) > 200 := by omega
  refine Ev.step (fun k => by unfold l4_FirstRest.f; rfl) (ev_bind awake14 (ev_pos rfl (ev_neg h0 ?_)))
  exact frest_l0 lo ha hb hc hd he (by omega) hs (fun l' h' _ => absurd (Nat.lt_of_lt_of_le h' hl) (Nat.not_lt_zero _)) l.length 0 (Nat.zero_add _) (fun j hj => absurd hj (Nat.not_lt_zero j))
 | succ n ih =>
  intro l hl hs
  refine Ev.step (fun k => by unfold l4_FirstRest.f; rfl) (ev_bind awake14 (ev_pos rfl ?_))
  by_cases h : (l.length : Int) > 200
  ·exact ev_pos h (Ev.now _)
  ·refine ev_neg h ?_
   exact frest_l0 lo ha hb hc hd he (by omega) hs (fun l' h' hs' => ih l' (by omega) hs') l.length 0 (Nat.zero_add _) (fun j hj => absurd hj (Nat.not_lt_zero j))
end
theorem FirstRest : l4_FirstRest.Pure := by
 intro l a b c d e lo hl hw
 obtain ⟨ha, hb, hc, hd, he⟩ := way_of hw
 exact Ev.rounds (frest_f lo ha hb hc hd he l.length l (Nat.le_refl _) (fun x hx => small_of (hl.2 x hx)))
end Go.Proofs.Ytfeidhmkmbgnoaa.Pure
end
