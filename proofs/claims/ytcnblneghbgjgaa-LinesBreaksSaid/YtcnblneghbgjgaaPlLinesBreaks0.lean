/- Plain proofs: what the printed functions compute. -/
import Derived.Test.YtcnblneghbgjgaaXLinesBreaks0
import Derived.WalkKit
import Derived.Test.YtcnblneghbgjgaaVLinesBreaks0
import Derived.Test.YtcnblneghbgjgaaVLinesBreaks1
import Derived.Test.YtcnblneghbgjgaaVLinesBreaks2
import Derived.Test.YtcnblneghbgjgaaVLinesBreaks3
import Derived.Test.YtcnblneghbgjgaaVLinesBreaks4
section
/- Helpers of the plain proofs: eventual values (Ev), wrapped numbers, lists. -/
namespace Go.Proofs.Ytcnblneghbgjgaa.Pure
open Go.RowKit Go.Proofs.YtcnblneghbgjgaaW.PrintWords
theorem ev_pos {α : Type} {c : Prop} [Decidable c] {a b : Nat → Option α} {r : α} (h : c) (H : Ev a r) : Ev (fun k => if c then a k else b k) r := by simpa [h] using H
theorem ev_neg {α : Type} {c : Prop} [Decidable c] {a b : Nat → Option α} {r : α} (h : ¬ c) (H : Ev b r) : Ev (fun k => if c then a k else b k) r := by simpa [h] using H
theorem ev_ret {α : Type} {x r : α} (h : x = r) : Ev (fun _ => some x) r := by subst h; exact Ev.now _
theorem ev_bind {α β : Type} {g : Nat → Option α} {f : Nat → α → Option β} {a : α} {r : β} (h : Ev g a) (k : Ev (fun n => f n a) r) : Ev (fun n => (g n).bind (f n)) r := Ev.bind h k
theorem ev_bind' {α β : Type} {o : Option α} {f : Nat → α → Option β} {a : α} {r : β} (h : o = some a) (k : Ev (fun n => f n a) r) : Ev (fun n => o.bind (f n)) r := by subst h; exact k
theorem ev_let {α β : Type} {a : α} {f : Nat → α → Option β} {r : β} (k : Ev (fun n => f n a) r) : Ev (fun n => (some a).bind (f n)) r := k
theorem w64 {x : Int} (h1 : -9223372036854775808 ≤ x) (h2 : x ≤ 9223372036854775807) : wrap64 x = x := by unfold wrap64; omega
theorem tmodp {a b : Int} (h : 0 ≤ a) : Int.tmod a b = a % b := Int.tmod_eq_emod_of_nonneg h
theorem wfu8 {x : Int} : (Lit.int .u8 x).wf = true ↔ 0 ≤ x ∧ x ≤ 255 := by simp [Lit.wf, IntKind.min, IntKind.max, IntKind.signed, IntKind.bits]
theorem wfu16 {x : Int} : (Lit.int .u16 x).wf = true ↔ 0 ≤ x ∧ x ≤ 65535 := by simp [Lit.wf, IntKind.min, IntKind.max, IntKind.signed, IntKind.bits]
theorem rd_nat (xs : List Int) (n : Nat) : rd xs (n : Int) = xs.getD n 0 := rfl
theorem getD_map_range (g : Nat → Int) {n i : Nat} (h : i < n) : ((List.range n).map g).getD i 0 = g i := by
 rw [List.getD_eq_getElem?_getD, List.getElem?_map, List.getElem?_range h]; rfl
theorem rd_map_range (g : Nat → Int) {n i : Nat} (h : i < n) : rd ((List.range n).map g) (i : Int) = g i := getD_map_range g h
theorem map_range_snoc {α : Type} (g : Nat → α) (n : Nat) : (List.range n).map g ++ [g n] = (List.range (n + 1)).map g := by
 rw [List.range_succ, List.map_append]; rfl
theorem mod3 (x : Int) : 0 ≤ x % 3 ∧ x % 3 ≤ 2 := by omega
theorem mod4 (x : Int) : 0 ≤ x % 4 ∧ x % 4 ≤ 3 := by omega
end Go.Proofs.Ytcnblneghbgjgaa.Pure
end
section
/- Texts of clusters and widths, as plain functions: what Para makes, columns, what is empty at a line's end, gaps. -/
namespace Go.Proofs.Ytcnblneghbgjgaa.Pure
open Go.RowKit Go.Proofs.YtcnblneghbgjgaaW.PrintWords Go.Proofs.Ytcnblneghbgjgaa.F
def cl (C : List S66) (i : Nat) : S66 := C.getD i z66
theorem rd_cl (C : List S66) (i : Nat) : rd_T66 C (i : Int) = cl C i := rfl
def bit (l : List S63) (i : Nat) : S63 := l.getD i z63
theorem rd_bit (l : List S63) (i : Nat) : rd_T63 l (i : Int) = bit l i := rfl
def Small (b : S63) : Prop := (0 ≤ b.f0 ∧ b.f0 ≤ 255) ∧ (0 ≤ b.f1 ∧ b.f1 ≤ 255) ∧ (0 ≤ b.f2 ∧ b.f2 ≤ 255) ∧ (0 ≤ b.f3 ∧ b.f3 ≤ 255)
theorem small_of {b : S63} (h : (Lit.int .u8 b.f0).wf = true ∧ (Lit.int .u8 b.f1).wf = true ∧ (Lit.int .u8 b.f2).wf = true ∧ (Lit.int .u8 b.f3).wf = true) : Small b := by
 rw [wfu8, wfu8, wfu8, wfu8] at h
 exact h
theorem bit_mem {l : List S63} {i : Nat} (h : i < l.length) : bit l i ∈ l := by
 unfold bit
 rw [List.getD_eq_getElem?_getD, List.getElem?_eq_getElem h]
 exact List.getElem_mem h
def atl (l : List S63) : Nat → Int
 | 0 => 0
 | i + 1 => atl l i + (1 + (bit l i).f2 % 4)
def clus (l : List S63) (i : Nat) : S66 := ⟨atl l i, 1 + (bit l i).f2 % 4, (bit l i).f0 % 3, (bit l i).f1 % 3⟩
def opp (l : List S63) (i : Nat) : Int := if i = l.length then 2 else if i = 0 then 0 else (bit l (i - 1)).f3 % 4
def CL (l : List S63) : List S66 := (List.range l.length).map (clus l)
def OP (l : List S63) : List Int := (List.range (l.length + 1)).map (opp l)
theorem CL_len (l : List S63) : (CL l).length = l.length := by simp [CL]
theorem OP_len (l : List S63) : (OP l).length = l.length + 1 := by simp [OP]
theorem cl_CL {l : List S63} {i : Nat} (h : i < l.length) : cl (CL l) i = clus l i := by
 unfold cl CL
 rw [List.getD_eq_getElem?_getD, List.getElem?_map, List.getElem?_range h]; rfl
theorem rd_OP {l : List S63} {i : Nat} (h : i ≤ l.length) : rd (OP l) (i : Int) = opp l i := rd_map_range (opp l) (by omega)
theorem atl_bd (l : List S63) (i : Nat) : (i : Int) ≤ atl l i ∧ atl l i ≤ 4 * i := by
 induction i with
 | zero => simp [atl]
 | succ i ih =>
  have := mod4 (bit l i).f2
  simp only [atl, Int.natCast_add, Int.natCast_one]
  omega
structure Good (C : List S66) : Prop where
 len : C.length ≤ 4000
 cells : ∀ i, 0 ≤ (cl C i).f2 ∧ (cl C i).f2 ≤ 2
 kind : ∀ i, 0 ≤ (cl C i).f3 ∧ (cl C i).f3 ≤ 2
theorem cl_out {C : List S66} {i : Nat} (h : C.length ≤ i) : cl C i = z66 := by
 unfold cl
 rw [List.getD_eq_getElem?_getD, List.getElem?_eq_none h]; rfl
theorem good_CL {l : List S63} (h : l.length ≤ 4000) : Good (CL l) := by
 refine ⟨by rw [CL_len]; exact h, fun i => ?_, fun i => ?_⟩
 ·by_cases hi : i < l.length
  ·rw [cl_CL hi]; exact mod3 _
  ·rw [cl_out (by rw [CL_len]; omega)]; exact ⟨Int.le_refl _, by decide⟩
 ·by_cases hi : i < l.length
  ·rw [cl_CL hi]; exact mod3 _
  ·rw [cl_out (by rw [CL_len]; omega)]; exact ⟨Int.le_refl _, by decide⟩
def nxt (c : S66) (x t : Int) : Int := if c.f3 = 2 then x + t - x % t else x + c.f2
def col (C : List S66) (fr : Nat) (t : Int) : Nat → Int
 | 0 => 0
 | n + 1 => nxt (cl C (fr + n)) (col C fr t n) t
def emp (c : S66) : Bool := c.f3 == 1 || (c.f3 == 0 && c.f2 == 0)
def trm (C : List S66) (fr : Nat) : Nat → Nat
 | 0 => 0
 | n + 1 => if emp (cl C (fr + n)) then trm C fr n else n + 1
def cel (C : List S66) (fr n : Nat) (e t : Int) : Int := col C fr t (trm C fr n) + if e = 3 then 1 else 0
def spc (C : List S66) (fr : Nat) : Nat → Nat
 | 0 => 0
 | n + 1 => spc C fr n + if (cl C (fr + n)).f3 = 1 then 1 else 0
def gap (C : List S66) (fr n : Nat) : Nat := spc C fr (trm C fr n)
theorem nxt_bd {c : S66} {x t : Int} (h0 : 0 ≤ c.f2 ∧ c.f2 ≤ 2) (_ : 0 ≤ x) (ht : 1 ≤ t ∧ t ≤ 64) : x ≤ nxt c x t ∧ nxt c x t ≤ x + 64 := by
 unfold nxt
 have h1 := Int.emod_nonneg x (by omega : t ≠ 0)
 have h2 := Int.emod_lt_of_pos x (by omega : 0 < t)
 split <;> omega
theorem col_bd {C : List S66} (g : Good C) (fr : Nat) {t : Int} (ht : 1 ≤ t ∧ t ≤ 64) (n : Nat) : 0 ≤ col C fr t n ∧ col C fr t n ≤ 64 * n := by
 induction n with
 | zero => simp [col]
 | succ n ih =>
  have := nxt_bd (g.cells (fr + n)) ih.1 ht
  simp only [col, Int.natCast_add, Int.natCast_one]
  omega
theorem col_mono {C : List S66} (g : Good C) (fr : Nat) {t : Int} (ht : 1 ≤ t ∧ t ≤ 64) {m n : Nat} (h : m ≤ n) : col C fr t m ≤ col C fr t n := by
 induction n with
 | zero => rw [show m = 0 from by omega]; exact Int.le_refl _
 | succ n ih =>
  rcases Nat.lt_or_ge n m with h1 | h1
  ·rw [show m = n + 1 from by omega]; exact Int.le_refl _
  ·have := nxt_bd (g.cells (fr + n)) (col_bd g fr ht n).1 ht
   have := ih h1
   simp only [col]
   omega
theorem trm_le (C : List S66) (fr n : Nat) : trm C fr n ≤ n := by
 induction n with
 | zero => exact Nat.le_refl _
 | succ n ih =>
  unfold trm
  split <;> omega
theorem trm_mono (C : List S66) (fr : Nat) {m n : Nat} (h : m ≤ n) : trm C fr m ≤ trm C fr n := by
 induction n with
 | zero => rw [show m = 0 from by omega]; exact Nat.le_refl _
 | succ n ih =>
  rcases Nat.lt_or_ge n m with h1 | h1
  ·rw [show m = n + 1 from by omega]; exact Nat.le_refl _
  ·have h2 := ih h1
   have h3 := trm_le C fr m
   rw [show trm C fr (n + 1) = if emp (cl C (fr + n)) then trm C fr n else n + 1 from rfl]
   split <;> omega
theorem spc_le (C : List S66) (fr n : Nat) : spc C fr n ≤ n := by
 induction n with
 | zero => exact Nat.le_refl _
 | succ n ih =>
  unfold spc
  split <;> omega
theorem cel_bd {C : List S66} (g : Good C) (fr n : Nat) (e : Int) {t : Int} (ht : 1 ≤ t ∧ t ≤ 64) : 0 ≤ cel C fr n e t ∧ cel C fr n e t ≤ 64 * n + 1 := by
 have h1 := col_bd g fr ht (trm C fr n)
 have h2 := trm_le C fr n
 unfold cel
 split <;> omega
end Go.Proofs.Ytcnblneghbgjgaa.Pure
end
section
/- Lines as long as may be, as plain functions. -/
namespace Go.Proofs.Ytcnblneghbgjgaa.Pure
open Go.RowKit Go.Proofs.YtcnblneghbgjgaaW.PrintWords Go.Proofs.Ytcnblneghbgjgaa.F
def op (O : List Int) (i : Nat) : Int := O.getD i 0
theorem rd_op (O : List Int) (i : Nat) : rd O (i : Int) = op O i := rfl
def cutN (C : List S66) (fr : Nat) (w t : Int) : Nat → Nat
 | 0 => 0
 | n + 1 => if cel C fr (n + 1) 0 t ≤ w then n + 1 else cutN C fr w t n
def bestN (C : List S66) (O : List Int) (fr : Nat) (w t : Int) : Nat → Nat
 | 0 => 0
 | n + 1 => if op O (fr + (n + 1)) ≠ 0 ∧ cel C fr (n + 1) (op O (fr + (n + 1))) t ≤ w then n + 1 else bestN C O fr w t n
def lnN (C : List S66) (O : List Int) (fr : Nat) (w t : Int) (N : Nat) : Nat :=
 if bestN C O fr w t N = 0 then (if cutN C fr w t N = 0 then 1 else cutN C fr w t N) else bestN C O fr w t N
def lnE (C : List S66) (O : List Int) (fr : Nat) (w t : Int) (N : Nat) : Int :=
 if bestN C O fr w t N = 0 then (if op O (fr + lnN C O fr w t N) = 2 ∨ op O (fr + lnN C O fr w t N) = 1 then op O (fr + lnN C O fr w t N) else 4) else op O (fr + lnN C O fr w t N)
def mkln (C : List S66) (fr n : Nat) (e t : Int) : S54 := ⟨(fr : Int), ((fr + n : Nat) : Int), cel C fr n e t, e⟩
def FL (C : List S66) (O : List Int) (w t : Int) : Nat → Nat → Nat → List S54
 | 0, _, _ => []
 | d + 1, fr, z => if fr < z then mkln C fr (lnN C O fr w t (z - fr)) (lnE C O fr w t (z - fr)) t :: FL C O w t d (fr + lnN C O fr w t (z - fr)) z else []
theorem cutN_le (C : List S66) (fr : Nat) (w t : Int) (n : Nat) : cutN C fr w t n ≤ n := by
 induction n with
 | zero => exact Nat.le_refl _
 | succ n ih => unfold cutN; split <;> omega
theorem bestN_le (C : List S66) (O : List Int) (fr : Nat) (w t : Int) (n : Nat) : bestN C O fr w t n ≤ n := by
 induction n with
 | zero => exact Nat.le_refl _
 | succ n ih => unfold bestN; split <;> omega
theorem lnN_bd (C : List S66) (O : List Int) (fr : Nat) (w t : Int) {N : Nat} (h : 1 ≤ N) : 1 ≤ lnN C O fr w t N ∧ lnN C O fr w t N ≤ N := by
 have h1 := cutN_le C fr w t N
 have h2 := bestN_le C O fr w t N
 unfold lnN
 split
 ·split <;> omega
 ·omega
theorem cel_mono {C : List S66} (g : Good C) (fr : Nat) {t : Int} (ht : 1 ≤ t ∧ t ≤ 64) (e : Int) {m n : Nat} (h : m ≤ n) : cel C fr m e t ≤ cel C fr n e t := by
 have := col_mono g fr ht (trm_mono C fr h)
 unfold cel
 omega
theorem cel_zero_le (C : List S66) (fr n : Nat) (e t : Int) : cel C fr n 0 t ≤ cel C fr n e t := by
 unfold cel
 rw [if_neg (by decide)]
 split <;> omega
theorem FL_len (C : List S66) (O : List Int) (w t : Int) (z : Nat) : ∀ (d fr : Nat), (FL C O w t d fr z).length ≤ z - fr := by
 intro d
 induction d with
 | zero => intro fr; exact Nat.zero_le _
 | succ d ih =>
  intro fr
  unfold FL
  split
  ·rename_i h
   have hb := lnN_bd C O fr w t (N := z - fr) (by omega)
   have := ih (fr + lnN C O fr w t (z - fr))
   simp only [List.length_cons]
   omega
  ·exact Nat.zero_le _
theorem FL_more (C : List S66) (O : List Int) (w t : Int) (z : Nat) : ∀ (d d' fr : Nat), z - fr ≤ d → z - fr ≤ d' → FL C O w t d fr z = FL C O w t d' fr z := by
 intro d
 induction d with
 | zero =>
  intro d' fr h h'
  cases d' with
  | zero => rfl
  | succ d' => unfold FL; rw [if_neg (by omega)]
 | succ d ih =>
  intro d' fr h h'
  cases d' with
  | zero => unfold FL; rw [if_neg (by omega)]
  | succ d' =>
   unfold FL
   split
   ·rename_i hlt
    have hb := lnN_bd C O fr w t (N := z - fr) (by omega)
    rw [ih d' _ (by omega) (by omega)]
   ·rfl
def PL (C : List S66) (O : List Int) (w t : Int) (fr z : Nat) : List S54 := FL C O w t (z - fr) fr z
theorem PL_lt (C : List S66) (O : List Int) (w t : Int) {fr z : Nat} (h : fr < z) :
  PL C O w t fr z = mkln C fr (lnN C O fr w t (z - fr)) (lnE C O fr w t (z - fr)) t :: PL C O w t (fr + lnN C O fr w t (z - fr)) z := by
 have hb := lnN_bd C O fr w t (N := z - fr) (by omega)
 obtain ⟨d, hd⟩ : ∃ d, z - fr = d + 1 := ⟨z - fr - 1, by omega⟩
 unfold PL
 rw [show FL C O w t (z - fr) fr z = FL C O w t (d + 1) fr z from by rw [hd]]
 rw [show FL C O w t (d + 1) fr z = mkln C fr (lnN C O fr w t (z - fr)) (lnE C O fr w t (z - fr)) t :: FL C O w t d (fr + lnN C O fr w t (z - fr)) z from if_pos h]
 rw [FL_more C O w t z d (z - (fr + lnN C O fr w t (z - fr))) _ (by omega) (by omega)]
theorem PL_ge (C : List S66) (O : List Int) (w t : Int) {fr z : Nat} (h : z ≤ fr) : PL C O w t fr z = [] := by
 unfold PL
 rw [show z - fr = 0 from by omega]; rfl
def PT (O : List Int) : List Nat := (List.range O.length).filter (fun i => op O i = 2)
def Rise (n : Nat) : Nat → List Nat → Prop
 | fr, [] => fr ≤ n
 | fr, z :: r => fr ≤ z ∧ Rise n z r
theorem Rise.le {n fr : Nat} {l : List Nat} (h : Rise n fr l) : fr ≤ n := by
 induction l generalizing fr with
 | nil => exact h
 | cons z r ih => have := ih h.2; have := h.1; omega
end Go.Proofs.Ytcnblneghbgjgaa.Pure
end
section
/- Parts of a text, and what the lines of a part keep: plain. -/
namespace Go.Proofs.Ytcnblneghbgjgaa.Pure
open Go.RowKit Go.Proofs.YtcnblneghbgjgaaW.PrintWords Go.Proofs.Ytcnblneghbgjgaa.F
def enc (fr m : Nat) : Int := if m = 0 then -1 else ((fr + m : Nat) : Int)
theorem enc_zero (fr : Nat) : enc fr 0 = -1 := rfl
theorem enc_pos {fr m : Nat} (h : m ≠ 0) : enc fr m = ((fr + m : Nat) : Int) := if_neg h
def Sec (O : List Int) (n : Nat) : Nat → List Nat → Prop
 | _, [] => True
 | fr, z :: r => fr ≤ z ∧ z ≤ n ∧ op O z = 2 ∧ (∀ i, fr < i → i < z → op O i ≠ 2) ∧ Sec O n z r
theorem sec_filter (O : List Int) (n : Nat) : ∀ (m s fr : Nat), fr ≤ s → s + m ≤ n + 1 → (∀ i, fr < i → i < s → op O i ≠ 2) → Sec O n fr ((List.range' s m).filter (fun i => op O i = 2)) := by
 intro m
 induction m with
 | zero => intro s fr _ _ _; exact trivial
 | succ m ih =>
  intro s fr h1 h2 h3
  rw [List.range'_succ, List.filter_cons]
  split
  ·rename_i h
   exact ⟨h1, by omega, by simpa using h, h3, ih (s + 1) s (by omega) (by omega) (fun i h4 h5 => by omega)⟩
  ·rename_i h
   refine ih (s + 1) fr (by omega) (by omega) (fun i h4 h5 => ?_)
   rcases Nat.lt_or_ge i s with h6 | h6
   ·exact h3 i h4 h6
   ·rw [show i = s from by omega]; simpa using h
theorem sec_PT {O : List Int} {n : Nat} (h : O.length = n + 1) : Sec O n 0 (PT O) := by
 unfold PT
 rw [List.range_eq_range', h]
 exact sec_filter O n (n + 1) 0 0 (by omega) (by omega) (fun i h1 h2 => by omega)
theorem PT_len (O : List Int) : (PT O).length ≤ O.length := by
 have := List.length_filter_le (fun i => decide (op O i = 2)) (List.range O.length)
 rw [List.length_range] at this
 exact this
theorem cel_succ (C : List S66) (fr m : Nat) (t : Int) : cel C fr (m + 1) 0 t = if emp (cl C (fr + m)) then cel C fr m 0 t else col C fr t (m + 1) := by
 show col C fr t (trm C fr (m + 1)) + (if (0 : Int) = 3 then 1 else 0) = _
 rw [show trm C fr (m + 1) = if emp (cl C (fr + m)) then trm C fr m else m + 1 from rfl]
 split
 ·rfl
 ·show _ + (if (0 : Int) = 3 then (1 : Int) else 0) = _
  rw [if_neg (by decide)]; omega
section
variable {C : List S66} (g : Good C) (O : List Int) (fr : Nat) {w t : Int} (ht : 1 ≤ t ∧ t ≤ 64)
include g ht
theorem cut_stop {m : Nat} (h : w < cel C fr (m + 1) 0 t) : ∀ d : Nat, cutN C fr w t (m + d) = cutN C fr w t m := by
 intro d
 induction d with
 | zero => rfl
 | succ d ih =>
  have := cel_mono g fr ht 0 (show m + 1 ≤ m + d + 1 from by omega)
  show (if cel C fr (m + d + 1) 0 t ≤ w then m + d + 1 else cutN C fr w t (m + d)) = _
  rw [if_neg (by omega)]
  exact ih
theorem best_stop {m : Nat} (h : w < cel C fr (m + 1) 0 t) : ∀ d : Nat, bestN C O fr w t (m + d) = bestN C O fr w t m := by
 intro d
 induction d with
 | zero => rfl
 | succ d ih =>
  have := cel_mono g fr ht 0 (show m + 1 ≤ m + d + 1 from by omega)
  have h2 := cel_zero_le C fr (m + d + 1) (op O (fr + (m + d + 1))) t
  show (if op O (fr + (m + d + 1)) ≠ 0 ∧ cel C fr (m + d + 1) (op O (fr + (m + d + 1))) t ≤ w then m + d + 1 else bestN C O fr w t (m + d)) = _
  rw [if_neg (fun h3 => by omega)]
  exact ih
end
end Go.Proofs.Ytcnblneghbgjgaa.Pure
end
section
/- How bad a line is, is always told: a number from 0 to 10000. -/
namespace Go.Proofs.Ytcnblneghbgjgaa.Pure
open Go.RowKit Go.Proofs.YtcnblneghbgjgaaW.PrintWords Go.Proofs.Ytcnblneghbgjgaa.F
open Ieee (Format Datum)
abbrev dbl : Format := FloatKind.f64.format
theorem d_sw : dbl.signWeight = 9223372036854775808 := by decide
theorem d_bi : dbl.binade = 4503599627370496 := by decide
theorem d_ir : dbl.infRung = 9218868437227405312 := by decide
theorem read_pos {b : Nat} (h : b ≤ 9218868437227405312) : (∃ m e, dbl.read b = .number false m e) ∨ dbl.read b = .infinity false := by
 unfold Format.read
 simp only [d_sw, d_bi, d_ir]
 have h1 : b % 9223372036854775808 = b := Nat.mod_eq_of_lt (by omega)
 have h2 : b / 9223372036854775808 = 0 := Nat.div_eq_of_lt (by omega)
 rw [h1, h2]
 by_cases c1 : b < 4503599627370496
 ·rw [if_pos c1]; exact .inl ⟨_, _, rfl⟩
 ·rw [if_neg c1]
  by_cases c2 : b < 9218868437227405312
  ·rw [if_pos c2]; exact .inl ⟨_, _, rfl⟩
  ·rw [if_neg c2, if_pos (by omega)]; exact .inr rfl
theorem write_pos (m : Nat) (e : Int) : dbl.write (.number false m e) ≤ 9218868437227405312 := by
 show dbl.nearest false m e ≤ _
 unfold Format.nearest Format.word
 split
 ·simp
 ·simp only [Bool.false_eq_true, if_false, d_ir]
  exact Nat.min_le_right _ _
theorem write_inf : dbl.write (.infinity false) = 9218868437227405312 := by decide
def Pos (b : Nat) : Prop := b ≤ 9218868437227405312 ∨ b = NANB
theorem fop_pos {x y : Nat} (hx : Pos x) (hy : y ≤ 9218868437227405312) : Pos (fop .mul x y) := by
 rcases hx with hx | rfl
 ·unfold fop floatBits Format.mul
  rcases read_pos hx with ⟨m, e, e1⟩ | e1 <;> rcases read_pos hy with ⟨n, i, e2⟩ | e2 <;> rw [e1, e2] <;> simp only [Datum.product]
  ·exact .inl (write_pos _ _)
  ·split
   ·exact .inr rfl
   ·exact .inl (by simp [write_inf])
  ·split
   ·exact .inr rfl
   ·exact .inl (by simp [write_inf])
  ·exact .inl (by simp [write_inf])
 ·right
  unfold fop
  rw [bits_nan_l nan_B]; rfl
theorem ten_k : dbl.read 4666723172467343360 = .number false 5497558138880000 (-39) := by decide
theorem pow_cut (k : Nat) : (1 <<< k : Nat) = 2 ^ k := by rw [Nat.shiftLeft_eq, Nat.one_mul]
theorem cut_le {m k : Nat} (h : m < 10000 * 2 ^ k) : m / 2 ^ min k (m.log2 + 2) ≤ 9999 := by
 rcases Nat.le_total k (m.log2 + 2) with h1 | h1
 ·rw [Nat.min_eq_left h1]
  have := (Nat.div_lt_iff_lt_mul (Nat.two_pow_pos k)).2 h
  omega
 ·rw [Nat.min_eq_right h1]
  have h2 : m < 2 ^ (m.log2 + 2) := Nat.lt_trans (Nat.lt_log2_self) (Nat.pow_lt_pow_right (by decide) (by omega))
  rw [Nat.div_eq_of_lt h2]
  omega
theorem trunc_ok {y : Nat} (hy : y ≤ 9218868437227405312) (hl : dbl.order y 4666723172467343360 = some .lt) : ∃ n : Int, floatToIntVal .f64 y .i64 = some n ∧ 0 ≤ n ∧ n ≤ 9999 := by
 unfold Format.order at hl
 rw [ten_k] at hl
 rcases read_pos hy with ⟨m, e, e1⟩ | e1
 ·rw [e1] at hl
  simp only [Datum.order, Ieee.signed, Bool.false_eq_true, if_false, Option.some.injEq] at hl
  have hl := Int.compare_eq_lt.1 hl
  have hv : ∃ v : Nat, (Datum.number false m e).toInt .zero = some (v : Int) ∧ v ≤ 9999 := by
   refine ⟨Ieee.Toward.cut .zero false (m <<< e.toNat) (-e).toNat, ?_, ?_⟩
   ·simp [Datum.toInt, Datum.integral, Ieee.signed]
   ·unfold Ieee.Toward.cut
    simp only [Bool.toNat_false, Nat.add_zero]
    rw [pow_cut, Nat.shiftLeft_eq]
    have hl2 : m * 2 ^ (e - min e (-39)).toNat < 5497558138880000 * 2 ^ (-39 - min e (-39)).toNat := by
     rw [Nat.shiftLeft_eq, Nat.shiftLeft_eq] at hl
     exact Int.ofNat_lt.1 hl
    rcases Int.lt_or_le e (-39) with he | he
    ·rw [show min e (-39) = e from by omega, show (e - e).toNat = 0 from by omega, Nat.pow_zero, Nat.mul_one] at hl2
     rw [show e.toNat = 0 from by omega, Nat.pow_zero, Nat.mul_one]
     have e3 : (5497558138880000 : Nat) * 2 ^ (-39 - e).toNat = 10000 * 2 ^ (-e).toNat := by
      rw [show (-e).toNat = (-39 - e).toNat + 39 from by omega, Nat.pow_add]; omega
     rw [e3] at hl2
     exact cut_le hl2
    ·rw [show min e (-39) = -39 from by omega, show (-39 - (-39 : Int)).toNat = 0 from by decide, Nat.pow_zero, Nat.mul_one] at hl2
     rcases Int.lt_or_le e 0 with h0 | h0
     ·rw [show e.toNat = 0 from by omega, Nat.pow_zero, Nat.mul_one]
      refine cut_le ?_
      have e4 : (549755813888 : Nat) = 2 ^ (e - -39).toNat * 2 ^ (-e).toNat := by
       rw [← Nat.pow_add, show (e - -39).toNat + (-e).toNat = 39 from by omega]
      have e5 : m * 2 ^ (e - -39).toNat < 10000 * 2 ^ (-e).toNat * 2 ^ (e - -39).toNat := by
       have : (5497558138880000 : Nat) = 10000 * 549755813888 := by decide
       rw [this, e4] at hl2
       calc _ < _ := hl2
        _ = _ := by rw [Nat.mul_assoc, Nat.mul_comm (2 ^ (-e).toNat)]
      exact Nat.lt_of_mul_lt_mul_right e5
     ·rw [show (-e).toNat = 0 from by omega]
      simp only [Nat.zero_min, Nat.pow_zero, Nat.div_one]
      have e6 : m * 2 ^ (e - -39).toNat = m * 2 ^ e.toNat * 549755813888 := by
       rw [show (e - -39).toNat = e.toNat + 39 from by omega, Nat.pow_add, Nat.mul_assoc]
      rw [e6] at hl2
      omega
  obtain ⟨v, hv1, hv2⟩ := hv
  refine ⟨v, ?_, by omega, by omega⟩
  unfold floatToIntVal FloatKind.decode
  rw [show FloatKind.f64.format.read y = _ from e1, hv1]
  simp only
  rw [if_pos]
  constructor
  ·show (-9223372036854775808 : Int) ≤ _; omega
  ·show _ ≤ (9223372036854775807 : Int); omega
 ·rw [e1] at hl
  simp [Datum.order] at hl
theorem absb_eq {x : Nat} (h : x < 18446744073709551616) : absb x = x % 9223372036854775808 := by
 unfold absb
 rw [u64_andNot (x : Int) 9223372036854775808 (by omega) (by omega) (by decide) (by decide)]
 rw [Int.toNat_natCast, Int.toNat_natCast]
 exact Nat.and_two_pow_sub_one_eq_mod x 63
theorem abs_le {x : Nat} (h : x < 18446744073709551616) (hn : isNan x = false) : absb x ≤ 9218868437227405312 := by
 rw [absb_eq h]
 rcases Nat.lt_or_ge 9218868437227405312 (x % 9223372036854775808) with h1 | h1
 ·rw [nan_of_rung h1] at hn; cases hn
 ·exact h1
theorem badness_ok {x : Nat} (h : x < 18446744073709551616) : ∃ n : Int, ratio_Badness.f x = some n ∧ 0 ≤ n ∧ n ≤ 10000 := by
 unfold ratio_Badness.f
 by_cases hn : isNan x = true
 ·rw [if_pos hn]; exact ⟨0, rfl, by decide, by decide⟩
 ·rw [if_neg hn]
  have ha := abs_le h (by simpa using hn)
  have hc : Pos (cube x) := fop_pos (fop_pos (fop_pos (.inl (by decide)) ha) ha) ha
  by_cases hl : (FloatKind.f64.format.order (cube x) 4666723172467343360 == some .lt) = true
  ·rw [if_pos hl]
   have hl' : dbl.order (cube x) 4666723172467343360 = some .lt := by simpa using hl
   rcases hc with hc | hc
   ·obtain ⟨n, h1, h2, h3⟩ := trunc_ok hc hl'
    exact ⟨n, h1, h2, by omega⟩
   ·rw [hc, show dbl.order NANB 4666723172467343360 = none from order_nan_l nan_B] at hl'
    cases hl'
  ·rw [if_neg hl]; exact ⟨10000, rfl, by decide, by decide⟩
theorem fop_lt (op : BinOp) (x y : Nat) : fop op x y < 18446744073709551616 := by
 unfold fop
 cases h : floatBits op .f64 x y with
 | none => decide
 | some r =>
  have := floatBits_wf h
  simpa [Lit.wf] using this
end Go.Proofs.Ytcnblneghbgjgaa.Pure
end
section
/- Lines that cost least, as plain functions. -/
namespace Go.Proofs.Ytcnblneghbgjgaa.Pure
open Go.RowKit Go.Proofs.YtcnblneghbgjgaaW.PrintWords Go.Proofs.Ytcnblneghbgjgaa.F
structure Wy where
 w : Int
 t : Int
 h : Int
 p : Int
 lo : Nat
structure WyOk (y : Wy) : Prop where
 w : 1 ≤ y.w ∧ y.w ≤ 1048576
 t : 1 ≤ y.t ∧ y.t ≤ 64
 h : 0 ≤ y.h ∧ y.h ≤ 1048576
 p : 0 ≤ y.p ∧ y.p ≤ 1048576
def lsn (w n g : Int) : Nat := fop .quo (floatOfInt .f64 (w - n)) (floatOfInt .f64 g)
def fits (r lo : Nat) : Bool := !(FloatKind.f64.format.order r lo == some .gt)
def bdn (r : Nat) : Int := (ratio_Badness.f r).getD 0
theorem bdn_bd {r : Nat} (h : r < 18446744073709551616) : 0 ≤ bdn r ∧ bdn r ≤ 10000 ∧ ratio_Badness.f r = some (bdn r) := by
 obtain ⟨n, h1, h2, h3⟩ := badness_ok h
 unfold bdn
 rw [h1]
 exact ⟨h2, h3, rfl⟩
theorem lsn_lt (w n g : Int) : lsn w n g < 18446744073709551616 := fop_lt _ _ _
def hyp (y : Wy) (o e : Int) : Int := if e = 3 then (if o = 3 then y.h + y.p else y.h) else 0
theorem hyp_bd {y : Wy} (k : WyOk y) (o e : Int) : 0 ≤ hyp y o e ∧ hyp y o e ≤ 2097152 := by
 have h1 := k.h
 have h2 := k.p
 unfold hyp
 split
 ·split <;> omega
 ·omega
def prc (y : Wy) (o e n g : Int) (last : Bool) : Option Int :=
 if n > y.w then none
 else if last = true then some (100 + hyp y o e)
 else if fits (lsn y.w n g) y.lo = true then some ((10 + bdn (lsn y.w n g)) * (10 + bdn (lsn y.w n g)) + hyp y o e) else none
theorem prc_bd {y : Wy} (k : WyOk y) {o e n g : Int} {last : Bool} {c : Int} (h : prc y o e n g last = some c) : 100 ≤ c ∧ c ≤ 110000000 := by
 have hh := hyp_bd k o e
 unfold prc at h
 split at h
 ·cases h
 split at h
 ·cases h; omega
 split at h
 ·have hb := bdn_bd (lsn_lt y.w n g)
  generalize bdn (lsn y.w n g) = b at *
  have h1 : (10 + b) * (10 + b) ≤ 10010 * 10010 := Int.mul_le_mul (by omega) (by omega) (by omega) (by omega)
  have h2 : 10 * 10 ≤ (10 + b) * (10 + b) := Int.mul_le_mul (by omega) (by omega) (by omega) (by omega)
  cases h
  omega
 ·cases h
theorem prc_wide {y : Wy} {o e n g : Int} {last : Bool} (h : y.w < n) : prc y o e n g last = none := if_pos h
section
variable (C : List S66) (O : List Int) (y : Wy) (z : Nat)
def cst (i m : Nat) : Option Int :=
 if op O (i + m) = 0 then none else prc y (op O i) (op O (i + m)) (cel C i m (op O (i + m)) y.t) (gap C i m : Int) (i + m == z)
def cnd (R : Nat → Option Int) (i m : Nat) : Option Int := match cst C O y z i m, R (i + m) with
 | some c, some r => some (c + r)
 | _, _ => none
def bu (R : Nat → Option Int) (i : Nat) : Nat → Option (Int × Nat)
 | 0 => none
 | m + 1 => match cnd C O y z R i (m + 1), bu R i m with
  | none, b => b
  | some c, none => some (c, i + (m + 1))
  | some c, some b => if c < b.1 then some (c, i + (m + 1)) else some b
end
section
variable (C : List S66) (O : List Int) (y : Wy) (fr z : Nat)
def tb : Nat → List (Option (Int × Nat))
 | 0 => [some (0, 0)]
 | d + 1 => (if z - (d + 1) = fr ∨ op O (z - (d + 1)) ≠ 0 then bu C O y z (fun k => ((tb d).getD (k - (z - d)) none).map Prod.fst) (z - (d + 1)) (d + 1) else none) :: tb d
def E (k : Nat) : Option (Int × Nat) := (tb C O y fr z (z - fr)).getD (k - fr) none
def R (k : Nat) : Option Int := (E C O y fr z k).map Prod.fst
def LB : Nat → Nat → List S54
 | 0, _ => []
 | d + 1, i => if i < z then (match E C O y fr z i with
  | some b => mkln C i (b.2 - i) (op O b.2) y.t :: LB d b.2
  | none => []) else []
def BB : Option (List S54) := if z ≤ fr then some [] else match E C O y fr z fr with
 | some _ => some (LB C O y fr z (z - fr) fr)
 | none => none
end
section
variable {C : List S66} {O : List Int} {y : Wy} {fr z : Nat}
theorem tb_drop : ∀ (e d : Nat), (tb C O y fr z (d + e)).drop e = tb C O y fr z d := by
 intro e
 induction e with
 | zero => intro d; rfl
 | succ e ih => intro d; exact ih d
theorem tb_get {d D : Nat} (h : d ≤ D) (j : Nat) : (tb C O y fr z d).getD j none = (tb C O y fr z D).getD (j + (D - d)) none := by
 have := tb_drop (C := C) (O := O) (y := y) (fr := fr) (z := z) (D - d) d
 rw [show d + (D - d) = D from by omega] at this
 rw [← this, List.getD_eq_getElem?_getD, List.getD_eq_getElem?_getD, List.getElem?_drop, Nat.add_comm]
theorem tb_E {d : Nat} (hd : d ≤ z - fr) (hf : fr ≤ z) {k : Nat} (hk : z - d ≤ k) : (tb C O y fr z d).getD (k - (z - d)) none = E C O y fr z k := by
 unfold E
 rw [tb_get hd]
 congr 1
 omega
theorem E_end (hf : fr ≤ z) : E C O y fr z z = some (0, 0) := by
 rw [← tb_E (d := 0) (Nat.zero_le _) hf (by omega), Nat.sub_zero, Nat.sub_self]
 rfl
theorem bu_congr {R1 R2 : Nat → Option Int} {i : Nat} : ∀ m : Nat, (∀ n, 1 ≤ n → n ≤ m → R1 (i + n) = R2 (i + n)) → bu C O y z R1 i m = bu C O y z R2 i m := by
 intro m
 induction m with
 | zero => intro _; rfl
 | succ m ih =>
  intro h
  have e1 : cnd C O y z R1 i (m + 1) = cnd C O y z R2 i (m + 1) := by unfold cnd; rw [h (m + 1) (by omega) (Nat.le_refl _)]
  unfold bu
  rw [e1, ih (fun n h1 h2 => h n h1 (by omega))]
theorem E_eq {i : Nat} (h1 : fr ≤ i) (h2 : i < z) : E C O y fr z i = if i = fr ∨ op O i ≠ 0 then bu C O y z (R C O y fr z) i (z - i) else none := by
 obtain ⟨d, hd⟩ : ∃ d, z - i = d + 1 := ⟨z - i - 1, by omega⟩
 rw [← tb_E (d := d + 1) (by omega) (by omega) (show z - (d + 1) ≤ i from by omega), show i - (z - (d + 1)) = 0 from by omega]
 show (if z - (d + 1) = fr ∨ op O (z - (d + 1)) ≠ 0 then _ else none) = _
 rw [show z - (d + 1) = i from by omega, hd]
 congr 1
 refine bu_congr (d + 1) (fun n hn1 hn2 => ?_)
 show Option.map Prod.fst _ = Option.map Prod.fst _
 rw [tb_E (by omega) (by omega) (by omega)]
theorem bu_none {R : Nat → Option Int} {i : Nat} : ∀ m : Nat, bu C O y z R i m = none ↔ ∀ n, 1 ≤ n → n ≤ m → cnd C O y z R i n = none := by
 intro m
 induction m with
 | zero => exact ⟨fun _ n h1 h2 => by omega, fun _ => rfl⟩
 | succ m ih =>
  unfold bu
  cases hc : cnd C O y z R i (m + 1) with
  | none =>
   dsimp only
   rw [ih]
   exact ⟨fun h n h1 h2 => by
    rcases Nat.lt_or_ge m n with h3 | h3
    ·rw [show n = m + 1 from by omega]; exact hc
    ·exact h n h1 h3, fun h n h1 h2 => h n h1 (by omega)⟩
  | some c =>
   constructor
   ·intro h
    cases hb : bu C O y z R i m with
    | none => rw [hb] at h; cases h
    | some b =>
     rw [hb] at h
     dsimp only at h
     split at h <;> cases h
   ·intro h
    rw [h (m + 1) (by omega) (Nat.le_refl _)] at hc
    cases hc
theorem bu_some {R : Nat → Option Int} {i : Nat} : ∀ {m : Nat} {b : Int × Nat}, bu C O y z R i m = some b →
  ∃ n, 1 ≤ n ∧ n ≤ m ∧ b.2 = i + n ∧ cnd C O y z R i n = some b.1 ∧ (∀ n' c, 1 ≤ n' → n' ≤ m → cnd C O y z R i n' = some c → b.1 ≤ c ∧ (n' < n → b.1 < c)) := by
 intro m
 induction m with
 | zero => intro b h; cases h
 | succ m ih =>
  intro b h
  unfold bu at h
  cases hc : cnd C O y z R i (m + 1) with
  | none =>
   rw [hc] at h
   obtain ⟨n, h1, h2, h3, h4, h5⟩ := ih h
   refine ⟨n, h1, by omega, h3, h4, fun n' c h6 h7 h8 => ?_⟩
   rcases Nat.lt_or_ge m n' with h9 | h9
   ·rw [show n' = m + 1 from by omega, hc] at h8; cases h8
   ·exact h5 n' c h6 h9 h8
  | some x =>
   rw [hc] at h
   cases hb : bu C O y z R i m with
   | none =>
    rw [hb] at h
    dsimp only at h
    cases h
    have hn := (bu_none m).1 hb
    refine ⟨m + 1, by omega, Nat.le_refl _, rfl, hc, fun n' c h6 h7 h8 => ?_⟩
    rcases Nat.lt_or_ge m n' with h9 | h9
    ·rw [show n' = m + 1 from by omega, hc] at h8; cases h8; exact ⟨Int.le_refl _, fun h => by omega⟩
    ·rw [hn n' h6 h9] at h8; cases h8
   | some a =>
    rw [hb] at h
    dsimp only at h
    obtain ⟨n, h1, h2, h3, h4, h5⟩ := ih hb
    split at h
    ·rename_i hlt
     cases h
     refine ⟨m + 1, by omega, Nat.le_refl _, rfl, hc, fun n' c h6 h7 h8 => ?_⟩
     rcases Nat.lt_or_ge m n' with h9 | h9
     ·rw [show n' = m + 1 from by omega, hc] at h8; cases h8; exact ⟨Int.le_refl _, fun h => by omega⟩
     ·have := h5 n' c h6 h9 h8
      exact ⟨by omega, fun _ => by omega⟩
    ·rename_i hlt
     cases h
     refine ⟨n, h1, by omega, h3, h4, fun n' c h6 h7 h8 => ?_⟩
     rcases Nat.lt_or_ge m n' with h9 | h9
     ·rw [show n' = m + 1 from by omega, hc] at h8; cases h8; exact ⟨by omega, fun h => by omega⟩
     ·exact h5 n' c h6 h9 h8
theorem cnd_some {R : Nat → Option Int} {i n : Nat} {c : Int} : cnd C O y z R i n = some c ↔ ∃ a b, cst C O y z i n = some a ∧ R (i + n) = some b ∧ c = a + b := by
 unfold cnd
 cases h1 : cst C O y z i n with
 | none => simp
 | some a =>
  cases h2 : R (i + n) with
  | none => simp
  | some b => simp; exact eq_comm
theorem cst_bd (k : WyOk y) {i n : Nat} {c : Int} (h : cst C O y z i n = some c) : 100 ≤ c ∧ c ≤ 110000000 := by
 unfold cst at h
 split at h
 ·cases h
 ·exact prc_bd k h
theorem E_spec (k : WyOk y) : ∀ (d i : Nat), z - i ≤ d → fr ≤ i → i ≤ z → ∀ b, E C O y fr z i = some b → (0 ≤ b.1 ∧ b.1 ≤ 110000000 * (z - i : Nat)) ∧ (i < z → i < b.2 ∧ b.2 ≤ z ∧ ∃ x, E C O y fr z b.2 = some x) := by
 intro d
 induction d with
 | zero =>
  intro i hd h1 h2 b hb
  obtain rfl : i = z := by omega
  rw [E_end h1] at hb
  cases hb
  exact ⟨⟨Int.le_refl _, by omega⟩, fun h => by omega⟩
 | succ d ih =>
  intro i hd h1 h2 b hb
  rcases Nat.eq_or_lt_of_le h2 with h3 | h3
  ·subst h3
   rw [E_end h1] at hb
   cases hb
   exact ⟨⟨Int.le_refl _, by omega⟩, fun h => by omega⟩
  ·rw [E_eq h1 h3] at hb
   split at hb
   ·obtain ⟨n, n1, n2, n3, n4, n5⟩ := bu_some hb
    obtain ⟨a, c, ha, hc, he⟩ := cnd_some.1 n4
    unfold R at hc
    cases hE : E C O y fr z (i + n) with
    | none => rw [hE] at hc; cases hc
    | some x =>
     rw [hE] at hc
     simp only [Option.map_some, Option.some.injEq] at hc
     have h4 := (ih (i + n) (by omega) (by omega) (by omega) x hE).1
     have h5 := cst_bd k ha
     exact ⟨by omega, fun _ => ⟨by omega, by omega, x, by rw [n3]; exact hE⟩⟩
   ·cases hb
theorem LB_len (k : WyOk y) : ∀ (d i : Nat), fr ≤ i → i ≤ z → (LB C O y fr z d i).length ≤ z - i := by
 intro d
 induction d with
 | zero => intro i _ _; exact Nat.zero_le _
 | succ d ih =>
  intro i h1 h2
  unfold LB
  split
  ·rename_i hlt
   cases hE : E C O y fr z i with
   | none => exact Nat.zero_le _
   | some b =>
    obtain ⟨h3, h4, -⟩ := (E_spec k (z - i) i (Nat.le_refl _) h1 h2 b hE).2 hlt
    have := ih b.2 (by omega) h4
    show (LB C O y fr z d b.2).length + 1 ≤ _
    omega
  ·exact Nat.zero_le _
theorem BB_len (k : WyOk y) {L : List S54} (h : BB C O y fr z = some L) : L.length ≤ z - fr := by
 unfold BB at h
 split at h
 ·cases h; exact Nat.zero_le _
 ·cases hE : E C O y fr z fr with
  | none => rw [hE] at h; cases h
  | some b =>
   rw [hE] at h
   cases h
   exact LB_len k _ _ (Nat.le_refl _) (by omega)
end
end Go.Proofs.Ytcnblneghbgjgaa.Pure
end
section
/- The printed functions of Para, span and the document's span come to the plain functions. -/
namespace Go.Proofs.Ytcnblneghbgjgaa.Pure
open Go.RowKit Go.Proofs.YtcnblneghbgjgaaW.PrintWords Go.Proofs.Ytcnblneghbgjgaa.F
theorem para_l1 {l : List S63} (hl : l.length ≤ 1000) (hs : ∀ b ∈ l, Small b) : ∀ (d i : Nat), i + d = l.length →
  Ev (fun k => h3_Para.l1 k l (i : Int) (CL l) ((List.range i).map (opp l))) (CL l, OP l) := by
 intro d
 induction d with
 | zero =>
  intro i hi
  refine Ev.step (fun k => by unfold h3_Para.l1; rfl) (ev_neg (by rw [CL_len]; omega) (ev_pos (by simp; omega) (ev_ret ?_)))
  have : opp l i = 2 := by unfold opp; rw [if_pos (by omega)]
  rw [← this, map_range_snoc, show i + 1 = l.length + 1 from by omega]
  rfl
 | succ d ih =>
  intro i hi
  refine Ev.step (fun k => by unfold h3_Para.l1; rfl) (ev_pos (by rw [CL_len]; omega) ?_)
  have hn : wrap64 ((i : Int) + 1) = ((i + 1 : Nat) : Int) := by rw [w64 (by omega) (by omega)]; rfl
  have hlen : ((List.range i).map (opp l)).length < 140737488355328 := by simp; omega
  by_cases h0 : i = 0
  ·subst h0
   refine ev_neg (by omega) (ev_pos hlen ?_)
   rw [hn, show (0 : Int) = opp l 0 from by unfold opp; rw [if_neg (by omega)]; rfl, map_range_snoc]
   exact ih 1 (by omega)
  ·obtain ⟨j, rfl⟩ : ∃ j, i = j + 1 := ⟨i - 1, by omega⟩
   refine ev_pos (by omega) ?_
   rw [show wrap64 (((j + 1 : Nat) : Int) - 1) = (j : Int) from by rw [w64 (by omega) (by omega)]; omega]
   refine ev_pos (by omega) (ev_pos (by omega) (ev_pos hlen ?_))
   have hb := hs _ (bit_mem (show j < l.length from by omega))
   rw [hn, rd_bit, tmodp hb.2.2.2.1, show (bit l j).f3 % 4 = opp l (j + 1) from by unfold opp; rw [if_neg (by omega), if_neg (by omega)]; rfl, map_range_snoc]
   exact ih (j + 1 + 1) (by omega)
theorem para_j1 {l : List S63} (hl : l.length ≤ 1000) (hs : ∀ b ∈ l, Small b) : Ev (fun k => h3_Para.j1 k l (CL l)) (CL l, OP l) :=
 Ev.step (fun k => by unfold h3_Para.j1; rfl) (para_l1 hl hs l.length 0 (by omega))
theorem para_l0 {l : List S63} (hl : l.length ≤ 1000) (hs : ∀ b ∈ l, Small b) : ∀ (d i : Nat), i + d = l.length →
  Ev (fun k => h3_Para.l0 k l (atl l i) (i : Int) ((List.range i).map (clus l))) (CL l, OP l) := by
 intro d
 induction d with
 | zero =>
  intro i hi
  refine Ev.step (fun k => by unfold h3_Para.l0; rfl) (ev_neg (by omega) ?_)
  rw [show i = l.length from by omega]
  exact para_j1 hl hs
 | succ d ih =>
  intro i hi
  have ha := atl_bd l i
  have hb := hs _ (bit_mem (show i < l.length from by omega))
  have m4 := mod4 (bit l i).f2
  have m3 := mod3 (bit l i).f0
  refine Ev.step (fun k => by unfold h3_Para.l0; rfl) (ev_pos (by omega) (ev_pos (by omega) (ev_pos (by omega) (ev_pos (by simp; omega) ?_))))
  rw [rd_bit, tmodp hb.2.2.1.1, tmodp hb.1.1, tmodp hb.2.1.1, w64 (x := (bit l i).f2 % 4) (by omega) (by omega), w64 (x := 1 + (bit l i).f2 % 4) (by omega) (by omega), w64 (x := (bit l i).f0 % 3) (by omega) (by omega),
   w64 (x := (i : Int) + 1) (by omega) (by omega), w64 (x := atl l i + (1 + (bit l i).f2 % 4)) (by omega) (by omega)]
  rw [show (⟨atl l i, 1 + (bit l i).f2 % 4, (bit l i).f0 % 3, (bit l i).f1 % 3⟩ : S66) = clus l i from rfl, map_range_snoc]
  exact ih (i + 1) (by omega)
theorem para_ev {l : List S63} (hl : l.length ≤ 1000) (hs : ∀ b ∈ l, Small b) : Ev (fun k => h3_Para.f k l) (CL l, OP l) :=
 para_l0 hl hs l.length 0 (by omega)
theorem next_eq {c : S66} {x t : Int} (h0 : 0 ≤ c.f2 ∧ c.f2 ≤ 2) (hx : 0 ≤ x ∧ x ≤ 1000000) (ht : 1 ≤ t ∧ t ≤ 64) : span_Next.f c.f0 c.f1 c.f2 c.f3 x t = some (nxt c x t) := by
 unfold span_Next.f nxt
 have h1 := Int.emod_nonneg x (by omega : t ≠ 0)
 have h2 := Int.emod_lt_of_pos x (by omega : 0 < t)
 by_cases h : c.f3 = 2
 ·rw [if_pos h, if_pos h, if_neg (by omega), tmodp hx.1, w64 (x := x + t) (by omega) (by omega), w64 (by omega) (by omega)]
 ·rw [if_neg h, if_neg h, w64 (by omega) (by omega)]
theorem columns_l0 {C : List S66} (g : Good C) (O : List Int) (fr n : Nat) {t : Int} (ht : 1 ≤ t ∧ t ≤ 64) (h : fr + n ≤ C.length) : ∀ (d i : Nat), i + d = n →
  Ev (fun k => span_Columns.l0 k ((fr + n : Nat) : Int) t ((List.range (i + 1)).map (col C fr t)) ((fr + i : Nat) : Int) C O) ((List.range (n + 1)).map (col C fr t)) := by
 have hg := g.len
 intro d
 induction d with
 | zero =>
  intro i hi
  refine Ev.step (fun k => by unfold span_Columns.l0; rfl) (ev_neg (by omega) (ev_ret ?_))
  rw [show i = n from by omega]
 | succ d ih =>
  intro i hi
  have hc := col_bd g fr ht i
  refine Ev.step (fun k => by unfold span_Columns.l0; rfl) (ev_pos (by omega) (ev_pos (by omega) (ev_pos (by omega) ?_)))
  rw [List.length_map, List.length_range, show wrap64 (((i + 1 : Nat) : Int) - 1) = (i : Int) from by rw [w64 (by omega) (by omega)]; omega, rd_map_range _ (by omega), rd_cl]
  refine ev_pos (by omega) (ev_pos (by omega) (ev_bind' (next_eq (g.cells _) (by omega) ht) (ev_pos (by omega) ?_)))
  rw [show wrap64 (((fr + i : Nat) : Int) + 1) = ((fr + (i + 1) : Nat) : Int) from by rw [w64 (by omega) (by omega)]; omega, show nxt (cl C (fr + i)) (col C fr t i) t = col C fr t (i + 1) from rfl, map_range_snoc]
  exact ih (i + 1) (by omega)
theorem columns_ev {C : List S66} (g : Good C) (O : List Int) (fr n : Nat) {t : Int} (ht : 1 ≤ t ∧ t ≤ 64) (h : fr + n ≤ C.length) :
  Ev (fun k => span_Columns.f k C O (fr : Int) ((fr + n : Nat) : Int) t) ((List.range (n + 1)).map (col C fr t)) :=
 columns_l0 g O fr n ht h n 0 (by omega)
theorem empty_eq {c : S66} : span_empty.f c.f0 c.f1 c.f2 c.f3 = some (emp c) := by
 unfold span_empty.f emp
 by_cases h1 : c.f3 = 1
 ·rw [if_pos h1, h1]; rfl
 ·rw [if_neg h1]
  by_cases h0 : c.f3 = 0
  ·rw [if_pos h0, h0]; rfl
  ·rw [if_neg h0]
   simp [h1, h0]
theorem trim_ev {C : List S66} (g : Good C) (O : List Int) (fr : Nat) : ∀ n : Nat, fr + n ≤ C.length →
  Ev (fun k => span_Trim.f k C O (fr : Int) ((fr + n : Nat) : Int)) ((fr + trm C fr n : Nat) : Int) := by
 have hg := g.len
 intro n
 induction n with
 | zero =>
  intro h
  exact Ev.step (fun k => by unfold span_Trim.f span_Trim.l0; rfl) (ev_neg (by omega) (Ev.now _))
 | succ n ih =>
  intro h
  refine Ev.step (fun k => by unfold span_Trim.f span_Trim.l0; rfl) (ev_pos (by omega) ?_)
  rw [show wrap64 (((fr + (n + 1) : Nat) : Int) - 1) = ((fr + n : Nat) : Int) from by rw [w64 (by omega) (by omega)]; omega]
  refine ev_pos (by omega) (ev_pos (by omega) (ev_bind' empty_eq ?_))
  rw [rd_cl]
  by_cases he : emp (cl C (fr + n)) = true
  ·rw [show trm C fr (n + 1) = trm C fr n from if_pos he]
   exact ev_pos he (ih (by omega))
  ·rw [show trm C fr (n + 1) = n + 1 from if_neg he]
   exact ev_neg he (Ev.now _)
theorem cells_ev {C : List S66} (g : Good C) (O : List Int) (fr n : Nat) (e : Int) {t : Int} (ht : 1 ≤ t ∧ t ≤ 64) (h : fr + n ≤ C.length) :
  Ev (fun k => span_Cells.f k C O (fr : Int) ((fr + n : Nat) : Int) e t) (cel C fr n e t) := by
 have hg := g.len
 have ht' := trm_le C fr n
 have hc := col_bd g fr ht (trm C fr n)
 unfold span_Cells.f
 refine ev_bind (trim_ev g O fr n h) (ev_bind (columns_ev g O fr (trm C fr n) ht (by omega)) ?_)
 rw [List.length_map, List.length_range, show wrap64 (((trm C fr n + 1 : Nat) : Int) - 1) = (trm C fr n : Int) from by rw [w64 (by omega) (by omega)]; omega, rd_map_range _ (by omega)]
 refine ev_pos (by omega) (ev_pos (by omega) ?_)
 unfold cel
 by_cases he : e = 3
 ·refine ev_pos he (ev_ret ?_)
  rw [if_pos he, w64 (by omega) (by omega)]
 ·refine ev_neg he (ev_ret ?_)
  rw [if_neg he]
  omega
end Go.Proofs.Ytcnblneghbgjgaa.Pure
end
section
/- The code's span.Make and span.Ends come to the plain line. -/
namespace Go.Proofs.Ytcnblneghbgjgaa.Pure
open Go.RowKit Go.Proofs.YtcnblneghbgjgaaW.PrintWords Go.Proofs.Ytcnblneghbgjgaa.F
theorem make_ev {C : List S66} (g : Good C) (O : List Int) (fr n : Nat) (e : Int) {t : Int} (ht : 1 ≤ t ∧ t ≤ 64) (h : fr + n ≤ C.length) :
  Ev (fun k => span_Make.f k C O (fr : Int) ((fr + n : Nat) : Int) e t) ((fr : Int), ((fr + n : Nat) : Int), cel C fr n e t, e) := by
 unfold span_Make.f
 exact ev_bind (cells_ev g O fr n e ht h) (Ev.now _)
theorem ends_eq (C : List S66) {O : List Int} {i : Nat} (h : i < O.length) : span_Ends.f C O (i : Int) = some (op O i, op O i != 0) := by
 unfold span_Ends.f
 rw [if_pos (by omega), if_pos (by omega), rd_op]
theorem cel_end (C : List S66) (fr n : Nat) (e t : Int) : cel C fr n e t = cel C fr n 0 t + if e = 3 then 1 else 0 := by
 unfold cel
 rw [if_neg (show ¬ ((0 : Int) = 3) from by decide)]
 omega
end Go.Proofs.Ytcnblneghbgjgaa.Pure
end
section
/- The code's best.price and best.next come to the plain choice. -/
namespace Go.Proofs.Ytcnblneghbgjgaa.Pure
open Go.RowKit Go.Proofs.YtcnblneghbgjgaaW.PrintWords Go.Proofs.Ytcnblneghbgjgaa.F
def encP : Option Int → Int × Bool
 | none => (0, false)
 | some c => (c, true)
theorem price_j0 {y : Wy} (k : WyOk y) (C : List S66) {O : List Int} {i : Nat} (hi : i < O.length) (e : Int) {b : Int} (hb : 0 ≤ b ∧ b ≤ 10000) (m3 : Int) :
  Ev (fun q => best_price.j0 q (i : Int) e b C O y.w y.t m3 y.h y.p y.lo) ((10 + b) * (10 + b) + hyp y (op O i) e, true) := by
 have hh := k.h
 have hp := k.p
 have h1 : (10 + b) * (10 + b) ≤ 10010 * 10010 := Int.mul_le_mul (by omega) (by omega) (by omega) (by omega)
 have h0 : 0 ≤ (10 + b) * (10 + b) := Int.mul_nonneg (by omega) (by omega)
 refine Ev.step (fun k => by unfold best_price.j0; rfl) ?_
 dsimp only
 rw [rd_op, w64 (x := 10 + b) (by omega) (by omega), w64 (x := (10 + b) * (10 + b)) (by omega) (by omega)]
 generalize (10 + b) * (10 + b) = s at *
 by_cases he : e = 3
 ·refine ev_pos he (ev_pos (by omega) (ev_pos (by omega) ?_))
  rw [w64 (x := s + y.h) (by omega) (by omega)]
  by_cases ho : op O i = 3
  ·rw [w64 (x := s + y.h + y.p) (by omega) (by omega), show hyp y (op O i) e = y.h + y.p from by simp [hyp, he, ho], ← Int.add_assoc]
   exact ev_pos ho (Ev.now _)
  ·rw [show hyp y (op O i) e = y.h from by simp [hyp, he, ho]]
   exact ev_neg ho (Ev.now _)
 ·rw [show hyp y (op O i) e = 0 from by simp [hyp, he], Int.add_zero]
  exact ev_neg he (Ev.now _)
theorem price_ev {y : Wy} (k : WyOk y) (C : List S66) {O : List Int} {i : Nat} (hi : i < O.length) (e : Int) {n : Int} (hn : 0 ≤ n ∧ n ≤ 1000000000) (g : Int) (last : Bool) (m3 : Int) :
  Ev (fun q => best_price.f q C O (i : Int) e n g last y.w y.t m3 y.h y.p y.lo) (encP (prc y (op O i) e n g last)) := by
 have hw := k.w
 unfold best_price.f prc
 by_cases h1 : n > y.w
 ·rw [if_pos h1]
  exact ev_pos h1 (Ev.now _)
 rw [if_neg h1]
 refine ev_neg h1 ?_
 by_cases hl : last = true
 ·rw [if_pos hl]
  refine ev_pos hl ?_
  exact price_j0 k C hi e (b := 0) (by omega) m3
 rw [if_neg hl, w64 (x := y.w - n) (by omega) (by omega)]
 refine ev_neg hl (ev_bind' (a := lsn y.w n g) rfl (ev_bind' (a := fits (lsn y.w n g) y.lo) rfl ?_))
 by_cases hf : fits (lsn y.w n g) y.lo = true
 ·rw [if_pos hf]
  have hb := bdn_bd (lsn_lt y.w n g)
  exact ev_pos hf (ev_bind' hb.2.2 (price_j0 k C hi e ⟨hb.1, hb.2.1⟩ m3))
 ·rw [if_neg hf]
  exact ev_neg hf (Ev.now _)
def encB : Option (Int × Nat) → Int × Int
 | none => (0, -1)
 | some b => (b.1, (b.2 : Int))
structure TabOk (all : List S70) (fr z lo : Nat) (R : Nat → Option Int) : Prop where
 len : all.length = z - fr + 1
 non : ∀ k, lo ≤ k → k ≤ z → R k = none → (rd_T70 all ((k - fr : Nat) : Int)).f1 < 0
 som : ∀ k r, lo ≤ k → k ≤ z → R k = some r → 0 ≤ (rd_T70 all ((k - fr : Nat) : Int)).f1 ∧ (rd_T70 all ((k - fr : Nat) : Int)).f0 = r ∧ 0 ≤ r ∧ r ≤ 1125899906842624
 last : ∃ r, R z = some r
theorem beq_cast (a b : Nat) : ((a : Int) == (b : Int)) = (a == b) := by
 rw [Bool.eq_iff_iff]
 simp
 omega
section
variable {C : List S66} (g : Good C) {O : List Int} (hO : O.length = C.length + 1) {y : Wy} (k : WyOk y) (m3 : Int)
 {fr z i : Nat} (hfr : fr ≤ i) (hlt : i < z) (hz : z ≤ C.length) {all : List S70} {R : Nat → Option Int} (hT : TabOk all fr z (i + 1) R)
theorem bu_none_step {m : Nat} (h : cnd C O y z R i (m + 1) = none) : bu C O y z R i (m + 1) = bu C O y z R i m := by
 show (match cnd C O y z R i (m + 1), bu C O y z R i m with
  | none, b => b
  | some c, none => some (c, i + (m + 1))
  | some c, some b => if c < b.1 then some (c, i + (m + 1)) else some b) = _
 rw [h]
theorem bu_fst_step {m : Nat} {c : Int} (h : cnd C O y z R i (m + 1) = some c) (h2 : bu C O y z R i m = none) : bu C O y z R i (m + 1) = some (c, i + (m + 1)) := by
 show (match cnd C O y z R i (m + 1), bu C O y z R i m with
  | none, b => b
  | some c, none => some (c, i + (m + 1))
  | some c, some b => if c < b.1 then some (c, i + (m + 1)) else some b) = _
 rw [h, h2]
theorem bu_some_step {m : Nat} {c : Int} {b : Int × Nat} (h : cnd C O y z R i (m + 1) = some c) (h2 : bu C O y z R i m = some b) : bu C O y z R i (m + 1) = if c < b.1 then some (c, i + (m + 1)) else some b := by
 show (match cnd C O y z R i (m + 1), bu C O y z R i m with
  | none, b => b
  | some c, none => some (c, i + (m + 1))
  | some c, some b => if c < b.1 then some (c, i + (m + 1)) else some b) = _
 rw [h, h2]
include g k in
theorem bu_stop {m : Nat} (h : y.w < cel C i (m + 1) 0 y.t) : ∀ d : Nat, bu C O y z R i (m + d) = bu C O y z R i m := by
 intro d
 induction d with
 | zero => rfl
 | succ d ih =>
  have h1 := cel_mono g i k.t 0 (show m + 1 ≤ m + d + 1 from by omega)
  have h2 := cel_zero_le C i (m + d + 1) (op O (i + (m + d + 1))) y.t
  have h3 : cst C O y z i (m + d + 1) = none := by
   unfold cst
   split
   ·rfl
   ·exact prc_wide (by omega)
  have h4 : cnd C O y z R i (m + d + 1) = none := by unfold cnd; rw [h3]
  rw [show m + (d + 1) = m + d + 1 from rfl, bu_none_step h4]
  exact ih
include g hO k hfr hlt hz hT
theorem next_l0 : ∀ (d m : Nat), m + d = z - i →
  Ev (fun q => best_next.l0 q (i : Int) (fr : Int) (z : Int) all (col C i y.t m) (cel C i m 0 y.t) (spc C i m : Int) (gap C i m : Int) ((i + m + 1 : Nat) : Int) C O y.w y.t m3 y.h y.p y.lo (encB (bu C O y z R i m)).1 (encB (bu C O y z R i m)).2) (encB (bu C O y z R i (z - i))) := by
 have hg := g.len
 intro d
 induction d with
 | zero =>
  intro m hm
  refine Ev.step (fun k => by unfold best_next.l0; rfl) (ev_neg (by omega) (ev_ret ?_))
  rw [show m = z - i from by omega]
 | succ d ih =>
  intro m hm
  have ih' := ih (m + 1) (by omega)
  have hcb := col_bd g i k.t m
  have hcb1 := col_bd g i k.t (m + 1)
  have hce := cel_bd g i (m + 1) 0 k.t
  have hsp := spc_le C i m
  have hlen := hT.len
  rw [show i + (m + 1) + 1 = i + m + 1 + 1 from by omega] at ih'
  have htail : ∀ (gq : Nat → Option (Int × Bool)) (r : Int), R (i + (m + 1)) = some r → 0 ≤ r ∧ r ≤ 1125899906842624 → Ev gq (encP (cst C O y z i (m + 1))) →
    Ev (fun q => (gq q).bind fun bt => (if bt.2 = true then (if (encB (bu C O y z R i m)).2 < 0 then best_next.l0 q (i : Int) (fr : Int) (z : Int) all (col C i y.t (m + 1)) (cel C i (m + 1) 0 y.t) (spc C i (m + 1) : Int) (gap C i (m + 1) : Int) ((i + m + 1 + 1 : Nat) : Int) C O y.w y.t m3 y.h y.p y.lo (wrap64 (bt.1 + r)) ((i + m + 1 : Nat) : Int)
     else (if (wrap64 (bt.1 + r)) < (encB (bu C O y z R i m)).1 then best_next.l0 q (i : Int) (fr : Int) (z : Int) all (col C i y.t (m + 1)) (cel C i (m + 1) 0 y.t) (spc C i (m + 1) : Int) (gap C i (m + 1) : Int) ((i + m + 1 + 1 : Nat) : Int) C O y.w y.t m3 y.h y.p y.lo (wrap64 (bt.1 + r)) ((i + m + 1 : Nat) : Int)
      else best_next.l0 q (i : Int) (fr : Int) (z : Int) all (col C i y.t (m + 1)) (cel C i (m + 1) 0 y.t) (spc C i (m + 1) : Int) (gap C i (m + 1) : Int) ((i + m + 1 + 1 : Nat) : Int) C O y.w y.t m3 y.h y.p y.lo (encB (bu C O y z R i m)).1 (encB (bu C O y z R i m)).2))
     else best_next.l0 q (i : Int) (fr : Int) (z : Int) all (col C i y.t (m + 1)) (cel C i (m + 1) 0 y.t) (spc C i (m + 1) : Int) (gap C i (m + 1) : Int) ((i + m + 1 + 1 : Nat) : Int) C O y.w y.t m3 y.h y.p y.lo (encB (bu C O y z R i m)).1 (encB (bu C O y z R i m)).2))
     (encB (bu C O y z R i (z - i))) := by
   intro gq r hr hrb hev
   refine ev_bind hev ?_
   cases hc : cst C O y z i (m + 1) with
   | none =>
    have hn : cnd C O y z R i (m + 1) = none := by unfold cnd; rw [hc]
    rw [bu_none_step hn] at ih'
    exact ev_neg (by simp [encP]) ih'
   | some c =>
    have hcb := cst_bd k hc
    have hn : cnd C O y z R i (m + 1) = some (c + r) := by unfold cnd; rw [hc, hr]
    refine ev_pos rfl ?_
    have e1 : wrap64 (c + r) = c + r := w64 (by omega) (by omega)
    simp only [encP, e1]
    clear e1
    cases hb : bu C O y z R i m with
    | none =>
     rw [bu_fst_step hn hb] at ih'
     exact ev_pos (by simp [encB]) ih'
    | some b =>
     rw [bu_some_step hn hb] at ih'
     refine ev_neg (by simp [encB]) ?_
     by_cases hlt2 : c + r < b.1
     ·rw [if_pos hlt2] at ih'
      exact ev_pos hlt2 ih'
     ·rw [if_neg hlt2] at ih'
      exact ev_neg hlt2 ih'
  have hj3 : ∀ flag : Bool, (flag = true → cnd C O y z R i (m + 1) = none) → (flag = false → op O (i + (m + 1)) ≠ 0 ∧ ∃ r, R (i + (m + 1)) = some r) →
    Ev (fun q => best_next.j3 q (i : Int) (fr : Int) (z : Int) all (col C i y.t (m + 1)) (cel C i (m + 1) 0 y.t) (spc C i (m + 1) : Int) (gap C i (m + 1) : Int) ((i + m + 1 : Nat) : Int) (op O (i + (m + 1))) flag C O y.w y.t m3 y.h y.p y.lo (encB (bu C O y z R i m)).1 (encB (bu C O y z R i m)).2 (rd_T70 all ((i + m + 1 - fr : Nat) : Int)).f0 (rd_T70 all ((i + m + 1 - fr : Nat) : Int)).f1) (encB (bu C O y z R i (z - i))) := by
   intro flag h1 h2
   refine Ev.step (fun k => by unfold best_next.j3; rfl) ?_
   rw [show wrap64 (((i + m + 1 : Nat) : Int) + 1) = ((i + m + 1 + 1 : Nat) : Int) from by rw [w64 (by omega) (by omega)]; rfl]
   cases flag with
   | true =>
    rw [bu_none_step (h1 rfl)] at ih'
    exact ev_pos rfl ih'
   | false =>
    obtain ⟨ho, r, hr⟩ := h2 rfl
    have hs := hT.som (i + (m + 1)) r (by omega) (by omega) hr
    rw [show i + (m + 1) = i + m + 1 from rfl] at hs
    rw [hs.2.1, beq_cast]
    refine ev_neg (by simp) ?_
    have hec := cel_end C i (m + 1) (op O (i + (m + 1))) y.t
    by_cases h3 : op O (i + (m + 1)) = 3
    ·refine ev_pos h3 ?_
     rw [w64 (x := cel C i (m + 1) 0 y.t + 1) (by omega) (by omega)]
     refine htail _ r hr hs.2.2 ?_
     have := price_ev k C (show i < O.length from by omega) (op O (i + (m + 1))) (n := cel C i (m + 1) 0 y.t + 1) (by omega) (gap C i (m + 1) : Int) (i + m + 1 == z) m3
     unfold cst
     rw [if_neg ho, hec, if_pos h3]
     exact this
    ·refine ev_neg h3 ?_
     refine htail _ r hr hs.2.2 ?_
     have := price_ev k C (show i < O.length from by omega) (op O (i + (m + 1))) (n := cel C i (m + 1) 0 y.t) (by omega) (gap C i (m + 1) : Int) (i + m + 1 == z) m3
     unfold cst
     rw [if_neg ho, hec, if_neg h3, Int.add_zero]
     exact this
  have hj2 : Ev (fun q => best_next.j2 q (i : Int) (fr : Int) (z : Int) all (col C i y.t (m + 1)) (cel C i (m + 1) 0 y.t) (spc C i (m + 1) : Int) (gap C i (m + 1) : Int) ((i + m + 1 : Nat) : Int) C O y.w y.t m3 y.h y.p y.lo (encB (bu C O y z R i m)).1 (encB (bu C O y z R i m)).2) (encB (bu C O y z R i (z - i))) := by
   refine Ev.step (fun k => by unfold best_next.j2; rfl) ?_
   by_cases hw : cel C i (m + 1) 0 y.t > y.w
   ·refine ev_pos hw (ev_ret ?_)
    rw [show z - i = m + (z - i - m) from by omega, bu_stop g k hw]
   ·refine ev_neg hw (ev_bind' (ends_eq C (by omega)) ?_)
    rw [show wrap64 (((i + m + 1 : Nat) : Int) - (fr : Int)) = ((i + m + 1 - fr : Nat) : Int) from by rw [w64 (by omega) (by omega)]; omega]
    refine ev_pos (by omega) (ev_pos (by omega) ?_)
    by_cases ho : op O (i + (m + 1)) = 0
    ·have ho' : op O (i + m + 1) = 0 := ho
     refine ev_neg (by simp [ho']) (hj3 true (fun _ => ?_) (fun h => by cases h))
     unfold cnd cst; rw [if_pos ho]
    ·have ho' : op O (i + m + 1) ≠ 0 := ho
     refine ev_pos (by simp [ho']) ?_
     by_cases hkz : i + m + 1 < z
     ·refine ev_pos (by omega) (hj3 _ (fun h => ?_) (fun h => ⟨ho, ?_⟩))
      ·have h2 := of_decide_eq_true h
       cases hR : R (i + (m + 1)) with
       | none => unfold cnd; rw [hR]; cases cst C O y z i (m + 1) <;> rfl
       | some r =>
        have := (hT.som (i + (m + 1)) r (by omega) (by omega) hR).1
        rw [show i + (m + 1) = i + m + 1 from rfl] at this
        omega
      ·have h2 := of_decide_eq_false h
       cases hR : R (i + (m + 1)) with
       | none =>
        have := hT.non (i + (m + 1)) (by omega) (by omega) hR
        rw [show i + (m + 1) = i + m + 1 from rfl] at this
        omega
       | some r => exact ⟨r, rfl⟩
     ·refine ev_neg (by omega) (hj3 _ (fun h => by cases h) (fun _ => ⟨ho, ?_⟩))
      rw [show i + (m + 1) = z from by omega]
      exact hT.last
  have hec := cel_succ C i m y.t
  have htrm : trm C i (m + 1) = if emp (cl C (i + m)) then trm C i m else m + 1 := rfl
  have hj1 : Ev (fun q => best_next.j1 q (i : Int) (fr : Int) (z : Int) all (col C i y.t (m + 1)) (cel C i m 0 y.t) (spc C i (m + 1) : Int) (gap C i m : Int) ((i + m + 1 : Nat) : Int) C O y.w y.t m3 y.h y.p y.lo (encB (bu C O y z R i m)).1 (encB (bu C O y z R i m)).2) (encB (bu C O y z R i (z - i))) := by
   refine Ev.step (fun k => by unfold best_next.j1; rfl) ?_
   rw [show wrap64 (((i + m + 1 : Nat) : Int) - 1) = ((i + m : Nat) : Int) from by rw [w64 (by omega) (by omega)]; omega]
   refine ev_bind (show Ev (fun q => span_Trim.f q C O ((i + m : Nat) : Int) ((i + m + 1 : Nat) : Int)) ((i + m + trm C (i + m) 1 : Nat) : Int) from trim_ev g O (i + m) 1 (by omega)) ?_
   by_cases he : emp (cl C (i + m)) = true
   ·rw [if_pos he] at hec htrm
    have hgp : gap C i (m + 1) = gap C i m := by unfold gap; rw [htrm]
    rw [hec, hgp] at hj2
    have : trm C (i + m) 1 = 0 := if_pos he
    rw [this]
    exact ev_neg (by omega) hj2
   ·rw [if_neg he] at hec htrm
    have hgp : gap C i (m + 1) = spc C i (m + 1) := by unfold gap; rw [htrm]
    rw [hec, hgp] at hj2
    have : trm C (i + m) 1 = 1 := if_neg he
    rw [this]
    exact ev_pos (by omega) hj2
  refine Ev.step (fun k => by unfold best_next.l0; rfl) (ev_pos (by omega) ?_)
  rw [show wrap64 (((i + m + 1 : Nat) : Int) - 1) = ((i + m : Nat) : Int) from by rw [w64 (by omega) (by omega)]; omega]
  refine ev_pos (by omega) (ev_pos (by omega) ?_)
  rw [rd_cl]
  refine ev_bind' (next_eq (g.cells (i + m)) (by omega) k.t) ?_
  have hss : spc C i (m + 1) = spc C i m + if (cl C (i + m)).f3 = 1 then 1 else 0 := rfl
  by_cases hsk : (cl C (i + m)).f3 = 1
  ·rw [if_pos hsk] at hss
   rw [hss] at hj1
   refine ev_pos hsk ?_
   rw [show wrap64 ((spc C i m : Int) + 1) = ((spc C i m + 1 : Nat) : Int) from by rw [w64 (by omega) (by omega)]; rfl]
   exact hj1
  ·rw [if_neg hsk] at hss
   rw [hss] at hj1
   exact ev_neg hsk hj1
theorem next_ev : Ev (fun q => best_next.f q C O (i : Int) (fr : Int) (z : Int) all y.w y.t m3 y.h y.p y.lo) (encB (bu C O y z R i (z - i))) := by
 have hg := g.len
 have := next_l0 g hO k m3 hfr hlt hz hT (z - i) 0 (by omega)
 unfold best_next.f
 rw [show wrap64 ((i : Int) + 1) = ((i + 0 + 1 : Nat) : Int) from by rw [w64 (by omega) (by omega)]; omega]
 exact this
end
end Go.Proofs.Ytcnblneghbgjgaa.Pure
end
section
/- The code's best.Break comes to the plain lines. -/
namespace Go.Proofs.Ytcnblneghbgjgaa.Pure
open Go.RowKit Go.Proofs.YtcnblneghbgjgaaW.PrintWords Go.Proofs.Ytcnblneghbgjgaa.F
def encS : Option (Int × Nat) → S70
 | none => ⟨0, -1⟩
 | some b => ⟨b.1, (b.2 : Int)⟩
theorem encS_B (o : Option (Int × Nat)) : (⟨(encB o).1, (encB o).2⟩ : S70) = encS o := by cases o <;> rfl
def encL : Option (List S54) → List S54 × Bool
 | none => ([], false)
 | some L => (L, true)
theorem rd_set (all : List S70) (j m : Nat) (v : S70) (h : j < all.length) : rd_T70 (all.set j v) (m : Int) = if m = j then v else rd_T70 all (m : Int) := by
 show (all.set j v).getD m z70 = if m = j then v else all.getD m z70
 rw [List.getD_eq_getElem?_getD, List.getD_eq_getElem?_getD, List.getElem?_set]
 by_cases hm : m = j
 ·subst hm; simp [h]
 ·rw [if_neg (fun h => hm h.symm), if_neg hm]
section
variable {C : List S66} (g : Good C) {O : List Int} (hO : O.length = C.length + 1) {y : Wy} (k : WyOk y) (m3 : Int)
 {fr z : Nat} (hfr : fr < z) (hz : z ≤ C.length)
structure TabAt (C : List S66) (O : List Int) (y : Wy) (fr z : Nat) (all : List S70) (d : Nat) : Prop where
 len : all.length = z - fr + 1
 ent : ∀ q, z - d ≤ q → q ≤ z → rd_T70 all ((q - fr : Nat) : Int) = encS (E C O y fr z q)
include g k hz in
theorem tab_ok {all : List S70} {d i : Nat} (hi : z - d ≤ i + 1) (hf : fr ≤ i) (h : TabAt C O y fr z all d) : TabOk all fr z (i + 1) (R C O y fr z) := by
 have hg := g.len
 refine ⟨h.len, fun q h1 h2 h3 => ?_, fun q r h1 h2 h3 => ?_, ⟨0, ?_⟩⟩
 ·rw [h.ent q (by omega) h2]
  unfold R at h3
  cases hE : E C O y fr z q with
  | none => simp [encS]
  | some b => rw [hE] at h3; cases h3
 ·rw [h.ent q (by omega) h2]
  unfold R at h3
  cases hE : E C O y fr z q with
  | none => rw [hE] at h3; cases h3
  | some b =>
   rw [hE] at h3
   simp only [Option.map_some, Option.some.injEq] at h3
   have hs := (E_spec k (z - q) q (Nat.le_refl _) (by omega) h2 b hE).1
   simp only [encS]
   omega
 ·unfold R
  by_cases hfz : fr ≤ z
  ·rw [E_end hfz]; rfl
  ·rcases Nat.lt_or_ge z fr with h4 | h4
   ·unfold E
    rw [show z - fr = 0 from by omega]; rfl
   ·omega
include g hO k hfr hz
theorem break_l1 {all : List S70} (hT : TabAt C O y fr z all (z - fr)) : ∀ (d i : Nat) (acc : List S54), z - i ≤ d → fr ≤ i → i ≤ z → acc.length ≤ i → (∃ b, E C O y fr z i = some b) →
  Ev (fun q => best_Break.l1 q (fr : Int) (z : Int) all acc (i : Int) C O y.w y.t m3 y.h y.p y.lo) (acc ++ LB C O y fr z d i, true) := by
 have hg := g.len
 intro d
 induction d with
 | zero =>
  intro i acc h1 h2 h3 h4 h5
  refine Ev.step (fun k => by unfold best_Break.l1; rfl) (ev_neg (by omega) (ev_ret ?_))
  unfold LB
  rw [List.append_nil]
 | succ d ih =>
  intro i acc h1 h2 h3 h4 h5
  rcases Nat.eq_or_lt_of_le h3 with h6 | h6
  ·refine Ev.step (fun k => by unfold best_Break.l1; rfl) (ev_neg (by omega) (ev_ret ?_))
   unfold LB
   rw [if_neg (by omega), List.append_nil]
  ·obtain ⟨b, hb⟩ := h5
   have hl := hT.len
   obtain ⟨h7, h8, h9⟩ := (E_spec k (z - i) i (Nat.le_refl _) h2 h3 b hb).2 h6
   have he := hT.ent i (by omega) h3
   rw [hb] at he
   have e1 : LB C O y fr z (d + 1) i = mkln C i (b.2 - i) (op O b.2) y.t :: LB C O y fr z d b.2 := by
    show (if i < z then _ else _) = _
    rw [if_pos h6, hb]
   have ih' := ih b.2 (acc ++ [mkln C i (b.2 - i) (op O b.2) y.t]) (by omega) (by omega) h8 (by simp; omega) h9
   rw [List.append_assoc, List.singleton_append, ← e1] at ih'
   refine Ev.step (fun k => by unfold best_Break.l1; rfl) (ev_pos (by omega) ?_)
   rw [show wrap64 ((i : Int) - (fr : Int)) = ((i - fr : Nat) : Int) from by rw [w64 (by omega) (by omega)]; omega, he]
   simp only [encS]
   refine ev_pos (by omega) (ev_pos (by omega) (ev_pos (by omega) (ev_pos (by omega) ?_)))
   rw [rd_op]
   have hm := make_ev g O i (b.2 - i) (op O b.2) k.t (by omega)
   rw [show i + (b.2 - i) = b.2 from by omega] at hm
   refine ev_bind hm (ev_pos (by omega) ?_)
   have e2 : mkln C i (b.2 - i) (op O b.2) y.t = ⟨(i : Int), (b.2 : Int), cel C i (b.2 - i) (op O b.2) y.t, op O b.2⟩ := by
    unfold mkln
    rw [show i + (b.2 - i) = b.2 from by omega]
   rw [e2] at ih'
   exact ih'
theorem break_l0 : ∀ (e d : Nat) (all : List S70), e + d = z - fr → TabAt C O y fr z all d →
  Ev (fun q => best_Break.l0 q (fr : Int) (z : Int) all ((z : Int) - d - 1) C O y.w y.t m3 y.h y.p y.lo) (encL (BB C O y fr z)) := by
 have hg := g.len
 intro e
 induction e with
 | zero =>
  intro d all hd hT
  obtain rfl : d = z - fr := by omega
  have hl := hT.len
  have he := hT.ent fr (by omega) (by omega)
  rw [Nat.sub_self] at he
  refine Ev.step (fun k => by unfold best_Break.l0; rfl) (ev_neg (by omega) (ev_pos (by omega) ?_))
  rw [show rd_T70 all 0 = encS (E C O y fr z fr) from he]
  unfold BB
  rw [if_neg (by omega)]
  cases hE : E C O y fr z fr with
  | none => exact ev_pos (by simp [encS]) (Ev.now _)
  | some b =>
   refine ev_neg (by simp [encS]) ?_
   have := break_l1 g hO k m3 hfr hz hT (z - fr) fr [] (Nat.le_refl _) (Nat.le_refl _) (by omega) (Nat.zero_le _) ⟨b, hE⟩
   exact this
 | succ e ih =>
  intro d all hd hT
  have hl := hT.len
  obtain ⟨i, hi⟩ : ∃ i, i = z - (d + 1) := ⟨_, rfl⟩
  have hEi := E_eq (C := C) (O := O) (y := y) (fr := fr) (z := z) (i := i) (by omega) (by omega)
  rw [show (z : Int) - d - 1 = (i : Int) from by omega]
  have hset : ∀ v, v = encS (E C O y fr z i) → TabAt C O y fr z ((all.set (i - fr) ⟨0, -1⟩).set (i - fr) v) (d + 1) := by
   intro v hv
   refine ⟨by simp [hl], fun q h1 h2 => ?_⟩
   rw [rd_set _ _ _ _ (by simp; omega), rd_set _ _ _ _ (by omega)]
   by_cases hq : q - fr = i - fr
   ·rw [if_pos hq, hv, show q = i from by omega]
   ·rw [if_neg hq, if_neg hq]
    exact hT.ent q (by omega) h2
  have hsame : TabAt C O y fr z (all.set (i - fr) ⟨0, -1⟩) d := by
   refine ⟨by simp [hl], fun q h1 h2 => ?_⟩
   rw [rd_set _ _ _ _ (by omega), if_neg (by omega)]
   exact hT.ent q h1 h2
  have hnx := next_ev g hO k m3 (fr := fr) (z := z) (i := i) (by omega) (by omega) hz (tab_ok g k hz (by omega) (by omega) hsame)
  have hi1 : (i : Int) - 1 = (z : Int) - ((d + 1 : Nat) : Int) - 1 := by omega
  refine Ev.step (fun k => by unfold best_Break.l0; rfl) (ev_pos (by omega) ?_)
  rw [show wrap64 ((i : Int) - (fr : Int)) = ((i - fr : Nat) : Int) from by rw [w64 (by omega) (by omega)]; omega, Int.toNat_natCast, w64 (x := (i : Int) - 1) (by omega) (by omega), hi1]
  refine ev_pos (by omega) (ev_pos (by omega) (ev_let ?_))
  by_cases hif : i = fr
  ·refine ev_pos (by omega) (ev_bind hnx ?_)
   rw [if_pos (.inl hif)] at hEi
   exact ih (d + 1) _ (by omega) (hset _ (by rw [encS_B, hEi]))
  ·refine ev_neg (by omega) (ev_pos (by omega) (ev_pos (by omega) ?_))
   rw [rd_op]
   by_cases ho : op O i = 0
   ·rw [if_neg (by simp [hif, ho])] at hEi
    refine ev_pos ho ?_
    have h2 := hset ⟨0, -1⟩ (by rw [hEi]; rfl)
    rw [List.set_set] at h2
    exact ih (d + 1) _ (by omega) h2
   ·rw [if_pos (.inr ho)] at hEi
    refine ev_neg ho (ev_bind hnx ?_)
    exact ih (d + 1) _ (by omega) (hset _ (by rw [encS_B, hEi]))
end
theorem break_ev {C : List S66} (g : Good C) {O : List Int} (hO : O.length = C.length + 1) {y : Wy} (k : WyOk y) (m3 : Int) {fr z : Nat} (hz : z ≤ C.length) :
  Ev (fun q => best_Break.f q C O (fr : Int) (z : Int) y.w y.t m3 y.h y.p y.lo) (encL (BB C O y fr z)) := by
 have hg := g.len
 unfold best_Break.f
 by_cases h : z ≤ fr
 ·unfold BB
  rw [if_pos h]
  exact ev_pos (by omega) (Ev.now _)
 ·refine ev_neg (by omega) ?_
  rw [w64 (x := (z : Int) - (fr : Int)) (by omega) (by omega), show wrap64 ((z : Int) - (fr : Int) + 1) = ((z - fr + 1 : Nat) : Int) from by rw [w64 (by omega) (by omega)]; omega, Int.toNat_natCast,
   show wrap64 ((z : Int) - 1) = (z : Int) - ((0 : Nat) : Int) - 1 from by rw [w64 (by omega) (by omega)]; omega]
  refine ev_pos (by omega) (ev_pos (by omega) ?_)
  refine break_l0 g hO k m3 (by omega) hz (z - fr) 0 _ (by omega) ⟨List.length_replicate, fun q h1 h2 => ?_⟩
  rw [show q = z from by omega, E_end (by omega)]
  show (List.replicate (z - fr + 1) z70).getD (z - fr) z70 = _
  rw [List.getD_eq_getElem?_getD, List.getElem?_replicate, if_pos (by omega)]
  rfl
end Go.Proofs.Ytcnblneghbgjgaa.Pure
end
section
/- The code's first.Break comes to the plain lines. -/
namespace Go.Proofs.Ytcnblneghbgjgaa.Pure
open Go.RowKit Go.Proofs.YtcnblneghbgjgaaW.PrintWords Go.Proofs.Ytcnblneghbgjgaa.F
section
variable {C : List S66} (g : Good C) {O : List Int} (hO : O.length = C.length + 1) {w t : Int} (ht : 1 ≤ t ∧ t ≤ 64) (m3 h4 p5 : Int) (lo : Nat)
 {fr z : Nat} (hlt : fr < z) (hz : z ≤ C.length) (h2 : op O z = 2) (hs : ∀ i, fr < i → i < z → op O i ≠ 2)
def ltup (C : List S66) (O : List Int) (w t : Int) (fr N : Nat) : Int × Int × Int × Int :=
 ((fr : Int), ((fr + lnN C O fr w t N : Nat) : Int), cel C fr (lnN C O fr w t N) (lnE C O fr w t N) t, lnE C O fr w t N)
include g hO ht hlt hz h2 hs
theorem one_j2 {m : Nat} (hc : cutN C fr w t (z - fr) = m) :
  Ev (fun k => first_one.j2 k (fr : Int) (z : Int) (enc fr (bestN C O fr w t (z - fr))) ((fr + max m 1 : Nat) : Int) C O w t m3 h4 p5 lo) (ltup C O w t fr (z - fr)) := by
 have hg := g.len
 have hbl := bestN_le C O fr w t (z - fr)
 have hcl := cutN_le C fr w t (z - fr)
 rw [hc] at hcl
 refine Ev.step (fun k => by unfold first_one.j2; rfl) ?_
 unfold ltup
 by_cases h0 : bestN C O fr w t (z - fr) = 0
 ·have eN : lnN C O fr w t (z - fr) = max m 1 := by
   unfold lnN
   rw [if_pos h0, hc]
   split <;> omega
  have eE : lnE C O fr w t (z - fr) = if op O (fr + max m 1) = 2 ∨ op O (fr + max m 1) = 1 then op O (fr + max m 1) else 4 := by
   rw [← eN]; exact if_pos h0
  rw [eN, h0, enc_zero]
  refine ev_neg (by omega) ?_
  by_cases hz1 : fr + max m 1 = z
  ·rw [hz1, h2, if_pos (.inl rfl)] at eE
   rw [eE]
   refine ev_pos (by omega) (ev_pos (by omega) (ev_pos (by omega) (ev_neg (by omega) ?_)))
   rw [rd_op, h2]
   refine ev_bind (make_ev g O fr (max m 1) 2 ht (by omega)) (Ev.now _)
  ·have hn2 := hs (fr + max m 1) (by omega) (by omega)
   refine ev_neg (by omega) (ev_pos (by omega) (ev_pos (by omega) (ev_pos (by omega) ?_)))
   rw [rd_op]
   by_cases h1 : op O (fr + max m 1) = 1
   ·rw [if_pos (.inr h1), h1] at eE
    rw [eE]
    refine ev_pos h1 (ev_bind (make_ev g O fr (max m 1) 1 ht (by omega)) (Ev.now _))
   ·rw [if_neg (by omega)] at eE
    rw [eE]
    refine ev_neg h1 (ev_bind (make_ev g O fr (max m 1) 4 ht (by omega)) (Ev.now _))
 ·have eN : lnN C O fr w t (z - fr) = bestN C O fr w t (z - fr) := if_neg h0
  have eE : lnE C O fr w t (z - fr) = op O (fr + bestN C O fr w t (z - fr)) := by
   rw [← eN]; exact if_neg h0
  rw [eN, eE, enc_pos h0]
  refine ev_pos (by omega) (ev_pos (by omega) (ev_pos (by omega) ?_))
  rw [rd_op]
  exact ev_bind (make_ev g O fr (bestN C O fr w t (z - fr)) _ ht (by omega)) (Ev.now _)
theorem one_l0 : ∀ (d m : Nat), m + d = z - fr → cutN C fr w t m = m →
  Ev (fun k => first_one.l0 k (fr : Int) (z : Int) (enc fr (bestN C O fr w t m)) ((fr + max m 1 : Nat) : Int) (col C fr t m) (cel C fr m 0 t) ((fr + m + 1 : Nat) : Int) C O w t m3 h4 p5 lo) (ltup C O w t fr (z - fr)) := by
 have hg := g.len
 intro d
 induction d with
 | zero =>
  intro m hm hc
  have hm' : m = z - fr := by omega
  subst hm'
  refine Ev.step (fun k => by unfold first_one.l0; rfl) (ev_neg (by omega) ?_)
  exact one_j2 g hO ht m3 h4 p5 lo hlt hz h2 hs hc
 | succ d ih =>
  intro m hm hc
  have hcb := col_bd g fr ht m
  have hmx : max (m + 1) 1 = m + 1 := by omega
  have hj : Ev (fun k => first_one.j1 k (fr : Int) (z : Int) (enc fr (bestN C O fr w t m)) ((fr + max m 1 : Nat) : Int) (col C fr t (m + 1)) (cel C fr (m + 1) 0 t) ((fr + m + 1 : Nat) : Int) C O w t m3 h4 p5 lo) (ltup C O w t fr (z - fr)) := by
   refine Ev.step (fun k => by unfold first_one.j1; rfl) ?_
   by_cases hw : cel C fr (m + 1) 0 t > w
   ·refine ev_pos hw ?_
    have e1 := cut_stop g fr ht hw (z - fr - m)
    have e2 := best_stop g O fr ht hw (z - fr - m)
    rw [show m + (z - fr - m) = z - fr from by omega] at e1 e2
    rw [← e2]
    exact one_j2 g hO ht m3 h4 p5 lo hlt hz h2 hs (e1.trans hc)
   ·have hc1 : cutN C fr w t (m + 1) = m + 1 := if_pos (by omega)
    have ih' := ih (m + 1) (by omega) hc1
    rw [hmx] at ih'
    refine ev_neg hw (ev_bind' (ends_eq C (by omega)) ?_)
    dsimp only
    rw [show wrap64 (((fr + m + 1 : Nat) : Int) + 1) = ((fr + (m + 1) + 1 : Nat) : Int) from by rw [w64 (by omega) (by omega)]; omega]
    have eb : bestN C O fr w t (m + 1) = if op O (fr + (m + 1)) ≠ 0 ∧ cel C fr (m + 1) (op O (fr + (m + 1))) t ≤ w then m + 1 else bestN C O fr w t m := rfl
    rw [show fr + m + 1 = fr + (m + 1) from by omega]
    rw [cel_end] at eb
    by_cases ho : op O (fr + (m + 1)) = 0
    ·rw [if_neg (fun hh => hh.1 ho)] at eb
     rw [eb] at ih'
     exact ev_neg (by simp [ho]) ih'
    ·refine ev_pos (by simp [ho]) ?_
     by_cases h3 : op O (fr + (m + 1)) = 3
     ·refine ev_pos h3 ?_
      rw [if_pos h3] at eb
      by_cases hw2 : cel C fr (m + 1) 0 t < w
      ·rw [if_pos ⟨ho, by omega⟩] at eb
       rw [eb, enc_pos (by omega)] at ih'
       exact ev_pos hw2 ih'
      ·rw [if_neg (fun hh => by omega)] at eb
       rw [eb] at ih'
       exact ev_neg hw2 ih'
     ·refine ev_neg h3 ?_
      rw [if_neg h3] at eb
      rw [if_pos ⟨ho, by omega⟩] at eb
      rw [eb, enc_pos (by omega)] at ih'
      exact ih'
  refine Ev.step (fun k => by unfold first_one.l0; rfl) (ev_pos (by omega) ?_)
  rw [show wrap64 (((fr + m + 1 : Nat) : Int) - 1) = ((fr + m : Nat) : Int) from by rw [w64 (by omega) (by omega)]; omega]
  refine ev_pos (by omega) (ev_pos (by omega) ?_)
  rw [rd_cl]
  refine ev_bind' (next_eq (g.cells (fr + m)) (by omega) ht) ?_
  refine ev_bind (show Ev (fun k => span_Trim.f k C O ((fr + m : Nat) : Int) ((fr + m + 1 : Nat) : Int)) ((fr + m + trm C (fr + m) 1 : Nat) : Int) from trim_ev g O (fr + m) 1 (by omega)) ?_
  have ec := cel_succ C fr m t
  by_cases he : emp (cl C (fr + m)) = true
  ·rw [if_pos he] at ec
   rw [ec] at hj
   have : trm C (fr + m) 1 = 0 := if_pos he
   rw [this]
   exact ev_neg (by omega) hj
  ·rw [if_neg he] at ec
   rw [ec] at hj
   have : trm C (fr + m) 1 = 1 := if_neg he
   rw [this]
   exact ev_pos (by omega) hj
theorem one_ev : Ev (fun k => first_one.f k C O (fr : Int) (z : Int) w t m3 h4 p5 lo) (ltup C O w t fr (z - fr)) := by
 have hg := g.len
 have := one_l0 g hO ht m3 h4 p5 lo (w := w) hlt hz h2 hs (z - fr) 0 (by omega) rfl
 unfold first_one.f
 rw [show wrap64 ((fr : Int) + 1) = ((fr + 0 + 1 : Nat) : Int) from by rw [w64 (by omega) (by omega)]; omega]
 exact this
end
section
variable {C : List S66} (g : Good C) {O : List Int} (hO : O.length = C.length + 1) {w t : Int} (ht : 1 ≤ t ∧ t ≤ 64) (m3 h4 p5 : Int) (lo : Nat) {z : Nat} (hz : z ≤ C.length) (h2 : op O z = 2)
include g hO ht hz h2
theorem first_l0 : ∀ (d fr : Nat) (acc : List S54), z - fr ≤ d → fr ≤ z → acc.length ≤ fr → (∀ i, fr < i → i < z → op O i ≠ 2) →
  Ev (fun k => first_Break.l0 k (fr : Int) (z : Int) acc C O w t m3 h4 p5 lo) (acc ++ PL C O w t fr z) := by
 have hg := g.len
 intro d
 induction d with
 | zero =>
  intro fr acc hd hf _ _
  refine Ev.step (fun k => by unfold first_Break.l0; rfl) (ev_neg (by omega) (ev_ret ?_))
  rw [PL_ge _ _ _ _ (by omega), List.append_nil]
 | succ d ih =>
  intro fr acc hd hf hacc hs
  by_cases hlt : fr < z
  ·have hb := lnN_bd C O fr w t (N := z - fr) (by omega)
   refine Ev.step (fun k => by unfold first_Break.l0; rfl) (ev_pos (by omega) (ev_bind (one_ev g hO ht m3 h4 p5 lo hlt hz h2 hs) ?_))
   rw [PL_lt C O w t hlt]
   have := ih (fr + lnN C O fr w t (z - fr)) (acc ++ [mkln C fr (lnN C O fr w t (z - fr)) (lnE C O fr w t (z - fr)) t]) (by omega) (by omega) (by simp; omega) (fun i h3 h4 => hs i (by omega) h4)
   rw [List.append_assoc] at this
   exact ev_pos (by omega) this
  ·refine Ev.step (fun k => by unfold first_Break.l0; rfl) (ev_neg (by omega) (ev_ret ?_))
   rw [PL_ge _ _ _ _ (by omega), List.append_nil]
theorem first_ev {fr : Nat} (hf : fr ≤ z) (hs : ∀ i, fr < i → i < z → op O i ≠ 2) : Ev (fun k => first_Break.f k C O (fr : Int) (z : Int) w t m3 h4 p5 lo) (PL C O w t fr z) := by
 have := first_l0 g hO ht m3 h4 p5 lo (w := w) hz h2 (z - fr) fr [] (Nat.le_refl _) hf (Nat.zero_le _) hs
 exact this
end
end Go.Proofs.Ytcnblneghbgjgaa.Pure
end
section
/- The code's items.Parts comes to the plain parts. -/
namespace Go.Proofs.Ytcnblneghbgjgaa.Pure
open Go.RowKit Go.Proofs.YtcnblneghbgjgaaW.PrintWords Go.Proofs.Ytcnblneghbgjgaa.F
theorem iparts_l0 {O : List Int} (hl : O.length ≤ 4001) : ∀ (d i : Nat), i + d = O.length →
  Ev (fun k => items_Parts.l0 k (((List.range i).filter (fun i => op O i = 2)).map (fun i : Nat => (i : Int))) O (O.length : Int) (i : Int)) ((PT O).map (fun i : Nat => (i : Int))) := by
 intro d
 induction d with
 | zero =>
  intro i hi
  refine Ev.step (fun k => by unfold items_Parts.l0; rfl) (ev_neg (by omega) (ev_ret ?_))
  rw [show i = O.length from by omega]
  rfl
 | succ d ih =>
  intro i hi
  have ih' := ih (i + 1) (by omega)
  rw [List.range_succ, List.filter_append, List.map_append] at ih'
  refine Ev.step (fun k => by unfold items_Parts.l0; rfl) (ev_pos (by omega) (ev_pos (by omega) (ev_pos (by omega) ?_)))
  rw [rd_op, show wrap64 ((i : Int) + 1) = ((i + 1 : Nat) : Int) from by rw [w64 (by omega) (by omega)]; rfl]
  by_cases h : op O i = 2
  ·refine ev_pos h (ev_pos ?_ ?_)
   ·have := List.length_filter_le (fun i => decide (op O i = 2)) (List.range i)
    rw [List.length_range] at this
    rw [List.length_map]
    omega
   ·simpa [h] using ih'
  ·refine ev_neg h ?_
   simpa [h] using ih'
theorem iparts_ev (C : List S66) {O : List Int} (hl : O.length ≤ 4001) : Ev (fun k => items_Parts.f k C O) ((PT O).map (fun i : Nat => (i : Int))) :=
 iparts_l0 hl O.length 0 (by omega)
end Go.Proofs.Ytcnblneghbgjgaa.Pure
end
section
/- A list of parts, gone through one by one. -/
namespace Go.Proofs.Ytcnblneghbgjgaa.Pure
open Go.RowKit Go.Proofs.YtcnblneghbgjgaaW.PrintWords Go.Proofs.Ytcnblneghbgjgaa.F
def bds (L : List Nat) : List Int := L.map (fun i : Nat => (i : Int))
theorem bds_len (L : List Nat) : (bds L).length = L.length := List.length_map _
theorem bds_at {L : List Nat} {i z : Nat} {r : List Nat} (h : L.drop i = z :: r) : i < L.length ∧ rd (bds L) (i : Int) = (z : Int) ∧ L.drop (i + 1) = r := by
 have hlt : i < L.length := by
  rcases Nat.lt_or_ge i L.length with h1 | h1
  ·exact h1
  ·rw [List.drop_of_length_le h1] at h; cases h
 rw [List.drop_eq_getElem_cons hlt] at h
 injection h with h1 h2
 refine ⟨hlt, ?_, h2⟩
 rw [rd_nat, bds, List.getD_eq_getElem?_getD, List.getElem?_map, List.getElem?_eq_getElem hlt, h1]; rfl
theorem bds_end {L : List Nat} {i : Nat} (h : L.drop i = []) : L.length ≤ i := List.drop_eq_nil_iff.1 h
end Go.Proofs.Ytcnblneghbgjgaa.Pure
end
section
/- The code's lines.Part and lines.Break come to the plain lines. -/
namespace Go.Proofs.Ytcnblneghbgjgaa.Pure
open Go.RowKit Go.Proofs.YtcnblneghbgjgaaW.PrintWords Go.Proofs.Ytcnblneghbgjgaa.F
def PA (C : List S66) (O : List Int) (y : Wy) (md : Int) (fr z : Nat) : List S54 × Bool :=
 if md = 1 then (match BB C O y fr z with
  | some L => (L, false)
  | none => (PL C O y.w y.t fr z, true)) else (PL C O y.w y.t fr z, false)
def LN (C : List S66) (O : List Int) (y : Wy) (md : Int) : Nat → List Nat → List S54
 | _, [] => []
 | fr, z :: r => (PA C O y md fr z).1 ++ LN C O y md z r
def LS (C : List S66) (O : List Int) (y : Wy) (md : Int) : Nat → List Nat → Bool
 | _, [] => false
 | fr, z :: r => (PA C O y md fr z).2 || LS C O y md z r
theorem PA_len (C : List S66) (O : List Int) {y : Wy} (k : WyOk y) (md : Int) (fr z : Nat) : (PA C O y md fr z).1.length ≤ z - fr := by
 unfold PA
 split
 ·cases h : BB C O y fr z with
  | none => exact FL_len C O y.w y.t z _ fr
  | some L => exact BB_len k h
 ·exact FL_len C O y.w y.t z _ fr
section
variable {C : List S66} (g : Good C) {O : List Int} (hO : O.length = C.length + 1) {y : Wy} (k : WyOk y) (md : Int)
include g hO k
theorem part_ev {fr z : Nat} (hf : fr ≤ z) (hz : z ≤ C.length) (h2 : op O z = 2) (hs : ∀ i, fr < i → i < z → op O i ≠ 2) :
  Ev (fun q => lines_Part.f q C O (fr : Int) (z : Int) y.w y.t md y.h y.p y.lo) (PA C O y md fr z) := by
 have h1 := first_ev g hO (w := y.w) k.t md y.h y.p y.lo hz h2 hf hs
 unfold lines_Part.f PA
 by_cases hm : md = 1
 ·rw [if_pos hm]
  refine ev_pos hm (ev_bind (break_ev g hO k md hz) ?_)
  cases BB C O y fr z with
  | none => exact ev_neg (by simp [encL]) (ev_bind h1 (ev_ret (by rw [hm]; rfl)))
  | some L => exact ev_pos rfl (Ev.now _)
 ·rw [if_neg hm]
  exact ev_neg hm (ev_bind h1 (ev_ret (by simp [hm])))
theorem lines_l0 (L : List Nat) (hL : L.length ≤ 4001) : ∀ (r : List Nat) (i fr : Nat) (acc : List S54) (s : Bool), L.drop i = r → Sec O C.length fr r → acc.length ≤ fr →
  Ev (fun q => lines_Break.l0 q acc s (fr : Int) (bds L) ((bds L).length : Int) (i : Int) C O y.w y.t md y.h y.p y.lo) (acc ++ LN C O y md fr r, s || LS C O y md fr r) := by
 have hg := g.len
 intro r
 induction r with
 | nil =>
  intro i fr acc s hi _ _
  have := bds_end hi
  refine Ev.step (fun k => by unfold lines_Break.l0; rfl) (ev_neg (by rw [bds_len]; omega) (ev_ret ?_))
  simp [LN, LS]
 | cons z r ih =>
  intro i fr acc s hi hr ha
  obtain ⟨hlt, e1, hd⟩ := bds_at hi
  obtain ⟨h1, h2, h3, h4, h5⟩ := hr
  have hlen := PA_len C O k md fr z
  refine Ev.step (fun k => by unfold lines_Break.l0; rfl) (ev_pos (by rw [bds_len]; omega) (ev_pos (by omega) (ev_pos (by rw [bds_len]; omega) ?_)))
  rw [e1, show wrap64 ((i : Int) + 1) = ((i + 1 : Nat) : Int) from by rw [w64 (by omega) (by omega)]; rfl]
  refine ev_bind (part_ev g hO k md h1 h2 h3 h4) (ev_pos (by omega) (ev_let ?_))
  have ih' := ih (i + 1) z (acc ++ (PA C O y md fr z).1) (s || (PA C O y md fr z).2) hd h5 (by rw [List.length_append]; omega)
  rw [List.append_assoc, Bool.or_assoc] at ih'
  cases s with
  | true => exact ev_pos rfl ih'
  | false => exact ev_neg (by decide) ih'
theorem lines_ev (hl : C.length ≤ 4000) : Ev (fun q => lines_Break.f q C O y.w y.t md y.h y.p y.lo) (LN C O y md 0 (PT O), LS C O y md 0 (PT O)) := by
 have hP := PT_len O
 unfold lines_Break.f
 refine ev_bind (iparts_ev C (by omega)) ?_
 have := lines_l0 g hO k md (PT O) (by omega) (PT O) 0 0 [] false rfl (sec_PT hO) (Nat.zero_le _)
 exact this
end
end Go.Proofs.Ytcnblneghbgjgaa.Pure
end
section
/- Layer 16's Awake. -/
namespace Go.Proofs.Ytcnblneghbgjgaa.Pure
open Go.RowKit Go.Proofs.YtcnblneghbgjgaaW.PrintWords Go.Proofs.Ytcnblneghbgjgaa.F
theorem awake16 : Ev (fun k => l6_Awake.f k) true := by
 have hO : ∀ l : List S63, (OP l).length = (CL l).length + 1 := fun l => by rw [OP_len, CL_len]
 have k : WyOk ⟨3, 8, 0, 0, 0⟩ := ⟨by decide, by decide, by decide, by decide⟩
 unfold l6_Awake.f
 refine ev_bind (para_ev (l := []) (by decide) (fun b hb => by cases hb)) ?_
 refine ev_bind (lines_ev (y := ⟨3, 8, 0, 0, 0⟩) (good_CL (by decide)) (hO _) k 0 (by decide)) ?_
 refine ev_bind (para_ev (l := []) (by decide) (fun b hb => by cases hb)) ?_
 refine ev_bind (show Ev (fun q => lines_Rows.f q (CL []) (OP []) (LN (CL []) (OP []) ⟨3, 8, 0, 0, 0⟩ 0 0 (PT (OP [])))) [⟨0, 0, 0, 2⟩] from by unfold lines_Rows.f; exact ev_pos (by decide) (Ev.now _)) ?_
 refine ev_bind (para_ev (l := [⟨1, 0, 0, 2⟩, ⟨1, 0, 0, 0⟩]) (by decide) (fun b hb => by
  rcases List.mem_cons.1 hb with rfl | hb
  ·exact ⟨by decide, by decide, by decide, by decide⟩
  ·rcases List.mem_cons.1 hb with rfl | hb
   ·exact ⟨by decide, by decide, by decide, by decide⟩
   ·cases hb)) ?_
 refine ev_bind (lines_ev (y := ⟨3, 8, 0, 0, 0⟩) (good_CL (by decide)) (hO _) k 0 (by decide)) ?_
 refine ev_pos (by decide) (ev_neg (by decide) (ev_pos (by decide) (ev_pos (by decide) (ev_pos (by decide) (ev_pos (by decide) (ev_pos (by decide) (ev_pos (by decide) (ev_pos (by decide) (ev_ret (by decide))))))))))
end Go.Proofs.Ytcnblneghbgjgaa.Pure
end
section
/- What the plain choice keeps: one line where one fits; the rest is broken as it is alone. -/
namespace Go.Proofs.Ytcnblneghbgjgaa.Pure
open Go.RowKit Go.Proofs.YtcnblneghbgjgaaW.PrintWords Go.Proofs.Ytcnblneghbgjgaa.F
section
variable {C : List S66} {O : List Int} {y : Wy} {fr z : Nat}
theorem R_end (h : fr ≤ z) : R C O y fr z z = some 0 := by unfold R; rw [E_end h]; rfl
end
end Go.Proofs.Ytcnblneghbgjgaa.Pure
end
section
/- Parts of a text that isn't empty: none is empty. -/
namespace Go.Proofs.Ytcnblneghbgjgaa.Pure
open Go.RowKit Go.Proofs.YtcnblneghbgjgaaW.PrintWords Go.Proofs.Ytcnblneghbgjgaa.F
def Srt : Nat → List Nat → Prop
 | _, [] => True
 | fr, z :: r => fr < z ∧ Srt z r
theorem srt_filter (O : List Int) : ∀ (m s fr : Nat), fr < s → Srt fr ((List.range' s m).filter (fun i => op O i = 2)) := by
 intro m
 induction m with
 | zero => intro s fr _; exact trivial
 | succ m ih =>
  intro s fr h
  rw [List.range'_succ, List.filter_cons]
  split
  ·exact ⟨h, ih (s + 1) s (by omega)⟩
  ·exact ih (s + 1) fr (by omega)
theorem srt_PT {O : List Int} (h : op O 0 ≠ 2) : Srt 0 (PT O) := by
 unfold PT
 rw [List.range_eq_range']
 cases hn : O.length with
 | zero => exact trivial
 | succ n =>
  rw [List.range'_succ, List.filter_cons, if_neg (by simpa using h)]
  exact srt_filter O n 1 0 (by omega)
end Go.Proofs.Ytcnblneghbgjgaa.Pure
end
section
/- Lines one behind the other, each with its end; a text's places in bytes. -/
namespace Go.Proofs.Ytcnblneghbgjgaa.Pure
open Go.RowKit Go.Proofs.YtcnblneghbgjgaaW.PrintWords Go.Proofs.Ytcnblneghbgjgaa.F
def Rws (C : List S66) (t : Int) (n : Nat) : Nat → List S54 → Prop
 | i, [] => i = n
 | i, x :: r => ∃ (m : Nat) (e : Int), x = mkln C i m e t ∧ 1 ≤ m ∧ i + m ≤ n ∧ Rws C t n (i + m) r
def Rwp (C : List S66) (t : Int) (z : Nat) : Nat → List S54 → Prop
 | i, [] => i = z
 | i, x :: r => ∃ (m : Nat) (e : Int), x = mkln C i m e t ∧ 1 ≤ m ∧ i + m ≤ z ∧ (e = 2 ↔ i + m = z) ∧ Rwp C t z (i + m) r
def mus : List S54 → Nat
 | [] => 0
 | x :: r => (if x.f3 = 2 then 1 else 0) + mus r
theorem mus_app (a b : List S54) : mus (a ++ b) = mus a + mus b := by
 induction a with
 | nil => simp [mus]
 | cons x a ih => simp only [List.cons_append, mus, ih]; omega
theorem rwp_rws {C : List S66} {t : Int} {z n : Nat} {B : List S54} (hB : Rws C t n z B) (hz : z ≤ n) : ∀ (A : List S54) (i : Nat), Rwp C t z i A → Rws C t n i (A ++ B) := by
 intro A
 induction A with
 | nil => intro i h; obtain rfl : i = z := h; exact hB
 | cons x A ih =>
  intro i h
  obtain ⟨m, e, h1, h2, h3, h4, h5⟩ := h
  exact ⟨m, e, h1, h2, by omega, ih _ h5⟩
theorem rwp_mus {C : List S66} {t : Int} {z : Nat} : ∀ (A : List S54) (i : Nat), Rwp C t z i A → i ≤ z → mus A = if i < z then 1 else 0 := by
 intro A
 induction A with
 | nil => intro i h _; obtain rfl : i = z := h; simp [mus]
 | cons x A ih =>
  intro i h hi
  obtain ⟨m, e, h1, h2, h3, h4, h5⟩ := h
  have := ih _ h5 h3
  simp only [mus, this]
  rw [if_pos (show i < z from by omega)]
  have hf : x.f3 = e := by rw [h1]; rfl
  rw [hf]
  by_cases he : e = 2
  ·rw [if_pos he, if_neg (by have := h4.1 he; omega)]
  ·rw [if_neg he, if_pos (by
    rcases Nat.eq_or_lt_of_le h3 with h6 | h6
    ·exact absurd (h4.2 h6) he
    ·exact h6)]
section
variable {C : List S66} {O : List Int} {y : Wy} {z : Nat} (h2 : op O z = 2)
include h2
theorem PL_rwp {w t : Int} : ∀ (d fr : Nat), z - fr ≤ d → fr ≤ z → (∀ j, fr < j → j < z → op O j ≠ 2) → Rwp C t z fr (PL C O w t fr z) := by
 intro d
 induction d with
 | zero =>
  intro fr h1 h3 _
  rw [PL_ge _ _ _ _ (by omega)]
  show fr = z
  omega
 | succ d ih =>
  intro fr h1 h3 hs
  rcases Nat.eq_or_lt_of_le h3 with h4 | h4
  ·rw [PL_ge _ _ _ _ (by omega)]; exact h4
  ·rw [PL_lt C O w t h4]
   have hb := lnN_bd C O fr w t (N := z - fr) (by omega)
   refine ⟨_, _, rfl, hb.1, by omega, ?_, ih _ (by omega) (by omega) (fun j h5 h6 => hs j (by omega) h6)⟩
   constructor
   ·intro he
    rcases Nat.eq_or_lt_of_le (show fr + lnN C O fr w t (z - fr) ≤ z from by omega) with h5 | h5
    ·exact h5
    ·exfalso
     have hn := hs (fr + lnN C O fr w t (z - fr)) (by omega) h5
     unfold lnE at he
     split at he
     ·split at he
      ·exact hn he
      ·omega
     ·exact hn he
   ·intro hz
    unfold lnE
    rw [hz, h2]
    split
    ·rw [if_pos (.inl rfl)]
    ·rfl
theorem LB_rwp (k : WyOk y) {fr : Nat} : ∀ (d i : Nat) (b : Int × Nat), z - i ≤ d → fr ≤ i → i ≤ z → E C O y fr z i = some b → (∀ j, fr < j → j < z → op O j ≠ 2) → Rwp C y.t z i (LB C O y fr z d i) := by
 intro d
 induction d with
 | zero =>
  intro i b h1 h3 h4 _ _
  show i = z
  omega
 | succ d ih =>
  intro i b h1 h3 h4 hb hs
  rcases Nat.eq_or_lt_of_le h4 with h5 | h5
  ·unfold LB; rw [if_neg (by omega)]; exact h5
  ·have e1 : LB C O y fr z (d + 1) i = mkln C i (b.2 - i) (op O b.2) y.t :: LB C O y fr z d b.2 := by
    show (if i < z then _ else _) = _
    rw [if_pos h5, hb]
   have hsp := (E_spec k (z - i) i (Nat.le_refl _) h3 h4 b hb).2 h5
   obtain ⟨x, hx⟩ := hsp.2.2
   rw [e1]
   have ih' := ih b.2 x (by omega) (by omega) hsp.2.1 hx hs
   refine ⟨b.2 - i, op O b.2, rfl, by omega, by omega, ?_, by rw [show i + (b.2 - i) = b.2 from by omega]; exact ih'⟩
   rw [show i + (b.2 - i) = b.2 from by omega]
   constructor
   ·intro he
    rcases Nat.eq_or_lt_of_le hsp.2.1 with h6 | h6
    ·exact h6
    ·exact absurd he (hs b.2 (by omega) h6)
   ·intro hz
    rw [hz]; exact h2
end
theorem PA_rwp {C : List S66} {O : List Int} {y : Wy} (k : WyOk y) (md : Int) {fr z : Nat} (h1 : fr ≤ z) (h2 : op O z = 2) (hs : ∀ j, fr < j → j < z → op O j ≠ 2) : Rwp C y.t z fr (PA C O y md fr z).1 := by
 unfold PA
 split
 ·cases hB : BB C O y fr z with
  | none => exact PL_rwp h2 (z - fr) fr (Nat.le_refl _) h1 hs
  | some L =>
   unfold BB at hB
   split at hB
   ·cases hB
    show fr = z
    omega
   ·cases hE : E C O y fr z fr with
    | none => rw [hE] at hB; cases hB
    | some b =>
     rw [hE] at hB
     cases hB
     exact LB_rwp h2 k (z - fr) fr b (Nat.le_refl _) (Nat.le_refl _) h1 hE hs
 ·exact PL_rwp h2 (z - fr) fr (Nat.le_refl _) h1 hs
theorem LN_rws {C : List S66} {O : List Int} {y : Wy} (k : WyOk y) (md : Int) {n : Nat} : ∀ (r : List Nat) (fr : Nat), Sec O n fr r → Srt fr r → (r.getLast?.getD fr = n) → Rws C y.t n fr (LN C O y md fr r) ∧ mus (LN C O y md fr r) = r.length := by
 intro r
 induction r with
 | nil => intro fr _ _ h; exact ⟨h, rfl⟩
 | cons z r ih =>
  intro fr hr ht hl
  obtain ⟨h1, h2, h3, h4, h5⟩ := hr
  have hp := PA_rwp (C := C) k md h1 h3 h4
  have hl' : r.getLast?.getD z = n := by
   cases r with
   | nil => exact hl
   | cons a r =>
    rw [List.getLast?_cons_cons, List.getLast?_eq_some_getLast (by simp)] at hl
    rw [List.getLast?_eq_some_getLast (by simp)]
    exact hl
  obtain ⟨i1, i2⟩ := ih z h5 ht.2 hl'
  refine ⟨rwp_rws i1 h2 _ fr hp, ?_⟩
  show mus ((PA C O y md fr z).1 ++ LN C O y md z r) = _
  rw [mus_app, i2, rwp_mus _ fr hp h1, if_pos ht.1, List.length_cons]
  omega
theorem atl_succ (l : List S63) (i : Nat) : atl l (i + 1) = atl l i + (1 + (bit l i).f2 % 4) := rfl
end Go.Proofs.Ytcnblneghbgjgaa.Pure
end
section
/- A way made of small numbers. -/
namespace Go.Proofs.Ytcnblneghbgjgaa.Pure
open Go.RowKit Go.Proofs.YtcnblneghbgjgaaW.PrintWords Go.Proofs.Ytcnblneghbgjgaa.F
theorem config_eq {a b c d e : Int} (l : Nat) (ha : 0 ≤ a ∧ a ≤ 255) (hb : 0 ≤ b ∧ b ≤ 255) (hc : 0 ≤ c ∧ c ≤ 255) (hd : 0 ≤ d ∧ d ≤ 65535) (he : 0 ≤ e ∧ e ≤ 65535) :
  h3_Config.f a b c d e l = some (1 + a, 1 + b % 64, c % 2, d, e, l) := by
 unfold h3_Config.f
 rw [tmodp hb.1, tmodp hc.1, w64 (x := a) (by omega) (by omega), w64 (x := 1 + a) (by omega) (by omega), w64 (x := b % 64) (by omega) (by omega), w64 (x := 1 + b % 64) (by omega) (by omega), w64 (x := d) (by omega) (by omega), w64 (x := e) (by omega) (by omega)]
theorem way_of {a b c d e : Int} {l : Nat} (h : (Lit.int .u8 a).wf = true ∧ (Lit.int .u8 b).wf = true ∧ (Lit.int .u8 c).wf = true ∧ (Lit.int .u16 d).wf = true ∧ (Lit.int .u16 e).wf = true ∧ (Lit.float .f64 l).wf = true) :
  (0 ≤ a ∧ a ≤ 255) ∧ (0 ≤ b ∧ b ≤ 255) ∧ (0 ≤ c ∧ c ≤ 255) ∧ (0 ≤ d ∧ d ≤ 65535) ∧ (0 ≤ e ∧ e ≤ 65535) := by
 rw [wfu8, wfu8, wfu8, wfu16, wfu16] at h
 exact ⟨h.1, h.2.1, h.2.2.1, h.2.2.2.1, h.2.2.2.2.1⟩
end Go.Proofs.Ytcnblneghbgjgaa.Pure
end
section
/- The code's rows of lines. -/
namespace Go.Proofs.Ytcnblneghbgjgaa.Pure
open Go.RowKit Go.Proofs.YtcnblneghbgjgaaW.PrintWords Go.Proofs.Ytcnblneghbgjgaa.F
def rowOf (l : List S63) (x : S54) : S53 := ⟨atl l x.f0.toNat, atl l x.f1.toNat, x.f2, x.f3⟩
theorem rows_l0 {l : List S63} (hl : l.length ≤ 1000) {t : Int} (O : List Int) {M : List S54} (hM : M.length ≤ 1000) : ∀ (d i a : Nat) (acc : List S53), i + d = M.length → acc.length = i → Rws (CL l) t l.length a (M.drop i) →
  Ev (fun k => lines_Rows.l0 k acc M (M.length : Int) (i : Int) (CL l) O) (acc ++ (M.drop i).map (rowOf l)) := by
 have hc := CL_len l
 intro d
 induction d with
 | zero =>
  intro i a acc hi _ _
  refine Ev.step (fun k => by unfold lines_Rows.l0; rfl) (ev_neg (by omega) (ev_ret ?_))
  rw [List.drop_of_length_le (by omega), List.map_nil, List.append_nil]
 | succ d ih =>
  intro i a acc hi hacc hR
  have hlt : i < M.length := by omega
  have hd : M.drop i = M[i] :: M.drop (i + 1) := List.drop_eq_getElem_cons hlt
  rw [hd] at hR
  obtain ⟨m, e, h1, h2, h3, h4⟩ := hR
  have hrd : rd_T54 M (i : Int) = mkln (CL l) a m e t := by
   show M.getD i z54 = _
   rw [List.getD_eq_getElem?_getD, List.getElem?_eq_getElem hlt]; exact h1
  have ha := atl_bd l (a + m - 1)
  have m4 := mod4 (bit l (a + m - 1)).f2
  have hrow : rowOf l M[i] = ⟨atl l a, atl l (a + m), cel (CL l) a m e t, e⟩ := by
   rw [h1]
   unfold rowOf mkln
   dsimp only
   rw [Int.toNat_natCast, Int.toNat_natCast]
  have ih' := ih (i + 1) (a + m) (acc ++ [rowOf l M[i]]) (by omega) (by simp; omega) h4
  rw [List.append_assoc, List.singleton_append, ← List.map_cons, ← hd, hrow] at ih'
  have h5 : atl l (a + m - 1) + (1 + (bit l (a + m - 1)).f2 % 4) = atl l (a + m) := by
   rw [← atl_succ, show a + m - 1 + 1 = a + m from by omega]
  refine Ev.step (fun k => by unfold lines_Rows.l0; rfl) (ev_pos (by omega) (ev_pos (by omega) (ev_pos (by omega) ?_)))
  rw [hrd, show wrap64 ((mkln (CL l) a m e t).f1 - 1) = ((a + m - 1 : Nat) : Int) from by
   show wrap64 (((a + m : Nat) : Int) - 1) = _
   rw [w64 (by omega) (by omega)]; omega]
  rw [show (mkln (CL l) a m e t).f0 = (a : Int) from rfl, rd_cl, rd_cl, cl_CL (by omega), cl_CL (by omega), show wrap64 ((i : Int) + 1) = ((i + 1 : Nat) : Int) from by rw [w64 (by omega) (by omega)]; rfl]
  rw [show wrap64 ((clus l (a + m - 1)).f0 + (clus l (a + m - 1)).f1) = atl l (a + m) from by
   show wrap64 (atl l (a + m - 1) + (1 + (bit l (a + m - 1)).f2 % 4)) = _
   rw [h5]; exact w64 (by have := atl_bd l (a + m); omega) (by have := atl_bd l (a + m); omega)]
  refine ev_pos (by omega) (ev_pos (by omega) (ev_pos (by omega) (ev_pos (by omega) (ev_pos (by omega) ?_))))
  exact ih'
theorem PT_last {O : List Int} {n : Nat} (h : O.length = n + 1) (h2 : op O n = 2) (fr : Nat) : (PT O).getLast?.getD fr = n := by
 unfold PT
 rw [h, List.range_succ, List.filter_append]
 simp [h2]
end Go.Proofs.Ytcnblneghbgjgaa.Pure
end
section
/- The document's functions of layer 13 come to the same plain functions. -/
namespace Go.Proofs.Ytcnblneghbgjgaa.Pure
open Go.RowKit Go.Proofs.YtcnblneghbgjgaaW.PrintWords Go.Proofs.Ytcnblneghbgjgaa.F
theorem rnext_l0 {x t : Int} (hx : 0 ≤ x ∧ x ≤ 1000000) (ht : 1 ≤ t ∧ t ≤ 64) : ∀ (d : Nat) (y : Int), x < y → y + d = x + t - x % t →
  Ev (fun k => r3_Next.l0 k t y) (x + t - x % t) := by
 have h1 := Int.emod_nonneg x (by omega : t ≠ 0)
 have h2 := Int.emod_lt_of_pos x (by omega : 0 < t)
 have h3 := Int.mul_ediv_add_emod x t
 intro d
 induction d with
 | zero =>
  intro y hy hd
  refine Ev.step (fun k => by unfold r3_Next.l0; rfl) (ev_neg (by omega) (ev_pos ?_ (ev_ret (by omega))))
  rw [tmodp (by omega), show y = t * (x / t + 1) from by rw [Int.mul_add, Int.mul_one]; omega]
  exact Int.mul_emod_right _ _
 | succ d ih =>
  intro y hy hd
  refine Ev.step (fun k => by unfold r3_Next.l0; rfl) (ev_neg (by omega) (ev_neg ?_ ?_))
  ·rw [tmodp (by omega), show y = (y - t * (x / t)) + t * (x / t) from by omega, Int.add_mul_emod_self_left, Int.emod_eq_of_lt (by omega) (by omega)]
   omega
  ·rw [w64 (by omega) (by omega)]
   exact ih (y + 1) (by omega) (by omega)
theorem rnext_ev {c : S66} {x t : Int} (h0 : 0 ≤ c.f2 ∧ c.f2 ≤ 2) (hx : 0 ≤ x ∧ x ≤ 1000000) (ht : 1 ≤ t ∧ t ≤ 64) : Ev (fun k => r3_Next.f k c.f0 c.f1 c.f2 c.f3 x t) (nxt c x t) := by
 unfold r3_Next.f nxt
 have h1 := Int.emod_nonneg x (by omega : t ≠ 0)
 have h2 := Int.emod_lt_of_pos x (by omega : 0 < t)
 by_cases h : c.f3 = 2
 ·rw [if_pos h]
  refine ev_pos h ?_
  rw [w64 (by omega) (by omega)]
  exact rnext_l0 hx ht (t - x % t - 1).toNat (x + 1) (by omega) (by omega)
 ·rw [if_neg h]
  refine ev_neg h (ev_ret ?_)
  rw [w64 (by omega) (by omega)]
theorem rcolumns_l0 {C : List S66} (g : Good C) (O : List Int) (fr n : Nat) {t : Int} (ht : 1 ≤ t ∧ t ≤ 64) (h : fr + n ≤ C.length) : ∀ (d i : Nat), i + d = n →
  Ev (fun k => r3_Columns.l0 k ((fr + n : Nat) : Int) t (col C fr t i) ((List.range (i + 1)).map (col C fr t)) ((fr + i : Nat) : Int) C O) ((List.range (n + 1)).map (col C fr t)) := by
 have hg := g.len
 intro d
 induction d with
 | zero =>
  intro i hi
  refine Ev.step (fun k => by unfold r3_Columns.l0; rfl) (ev_neg (by omega) (ev_ret ?_))
  rw [show i = n from by omega]
 | succ d ih =>
  intro i hi
  have hc := col_bd g fr ht i
  refine Ev.step (fun k => by unfold r3_Columns.l0; rfl) (ev_pos (by omega) (ev_pos (by omega) (ev_pos (by omega) ?_)))
  rw [rd_cl]
  refine ev_bind (rnext_ev (g.cells (fr + i)) (by omega) ht) ?_
  refine ev_pos (by rw [List.length_map, List.length_range]; omega) ?_
  rw [show wrap64 (((fr + i : Nat) : Int) + 1) = ((fr + (i + 1) : Nat) : Int) from by rw [w64 (by omega) (by omega)]; omega, show nxt (cl C (fr + i)) (col C fr t i) t = col C fr t (i + 1) from rfl, map_range_snoc]
  exact ih (i + 1) (by omega)
theorem rcolumns_ev {C : List S66} (g : Good C) (O : List Int) (fr n : Nat) {t : Int} (ht : 1 ≤ t ∧ t ≤ 64) (h : fr + n ≤ C.length) :
  Ev (fun k => r3_Columns.f k C O (fr : Int) ((fr + n : Nat) : Int) t) ((List.range (n + 1)).map (col C fr t)) :=
 rcolumns_l0 g O fr n ht h n 0 (by omega)
theorem rempty_eq {c : S66} : r3_Empty.f c.f0 c.f1 c.f2 c.f3 = some (emp c) := by
 unfold r3_Empty.f emp
 by_cases h1 : c.f3 = 1
 ·rw [if_pos h1, h1]; rfl
 ·rw [if_neg h1]
  by_cases h0 : c.f3 = 0
  ·rw [if_pos h0, h0]; rfl
  ·rw [if_neg h0]
   simp [h1, h0]
theorem rtrim_l0 {C : List S66} (g : Good C) (O : List Int) (fr n : Nat) (h : fr + n ≤ C.length) : ∀ (d i : Nat), i + d = n →
  Ev (fun k => r3_Trim.l0 k ((fr + n : Nat) : Int) ((fr + trm C fr i : Nat) : Int) ((fr + i : Nat) : Int) C O) ((fr + trm C fr n : Nat) : Int) := by
 have hg := g.len
 intro d
 induction d with
 | zero =>
  intro i hi
  refine Ev.step (fun k => by unfold r3_Trim.l0; rfl) (ev_neg (by omega) (ev_ret ?_))
  rw [show i = n from by omega]
 | succ d ih =>
  intro i hi
  refine Ev.step (fun k => by unfold r3_Trim.l0; rfl) (ev_pos (by omega) (ev_pos (by omega) (ev_pos (by omega) (ev_bind' rempty_eq ?_))))
  rw [rd_cl, show wrap64 (((fr + i : Nat) : Int) + 1) = ((fr + (i + 1) : Nat) : Int) from by rw [w64 (by omega) (by omega)]; omega]
  by_cases he : emp (cl C (fr + i)) = true
  ·refine ev_pos he ?_
   rw [show trm C fr i = trm C fr (i + 1) from (if_pos he).symm]
   exact ih (i + 1) (by omega)
  ·refine ev_neg he ?_
   have := ih (i + 1) (by omega)
   rwa [show trm C fr (i + 1) = i + 1 from if_neg he] at this
theorem rtrim_ev {C : List S66} (g : Good C) (O : List Int) (fr n : Nat) (h : fr + n ≤ C.length) :
  Ev (fun k => r3_Trim.f k C O (fr : Int) ((fr + n : Nat) : Int)) ((fr + trm C fr n : Nat) : Int) := by
 unfold r3_Trim.f
 exact rtrim_l0 g O fr n h n 0 (by omega)
theorem rcells_ev {C : List S66} (g : Good C) (O : List Int) (fr n : Nat) (e : Int) {t : Int} (ht : 1 ≤ t ∧ t ≤ 64) (h : fr + n ≤ C.length) :
  Ev (fun k => r3_Cells.f k C O (fr : Int) ((fr + n : Nat) : Int) e t) (cel C fr n e t) := by
 have hg := g.len
 have ht' := trm_le C fr n
 have hc := col_bd g fr ht (trm C fr n)
 unfold r3_Cells.f
 refine ev_bind (rtrim_ev g O fr n h) (ev_bind (rcolumns_ev g O fr (trm C fr n) ht (by omega)) ?_)
 rw [List.length_map, List.length_range, show wrap64 (((trm C fr n + 1 : Nat) : Int) - 1) = (trm C fr n : Int) from by rw [w64 (by omega) (by omega)]; omega, rd_map_range _ (by omega)]
 refine ev_pos (by omega) (ev_pos (by omega) ?_)
 unfold cel
 by_cases he : e = 3
 ·refine ev_pos he (ev_ret ?_)
  rw [if_pos he, w64 (by omega) (by omega)]
 ·refine ev_neg he (ev_ret ?_)
  rw [if_neg he]
  omega
theorem rline_ev {C : List S66} (g : Good C) (O : List Int) (fr n : Nat) (e : Int) {t : Int} (ht : 1 ≤ t ∧ t ≤ 64) (h : fr + n ≤ C.length) :
  Ev (fun k => r3_Line.f k C O (fr : Int) ((fr + n : Nat) : Int) e t) ((fr : Int), ((fr + n : Nat) : Int), cel C fr n e t, e) := by
 unfold r3_Line.f
 exact ev_bind (rcells_ev g O fr n e ht h) (Ev.now _)
end Go.Proofs.Ytcnblneghbgjgaa.Pure
end
section
/- The document's First comes to the plain lines. -/
namespace Go.Proofs.Ytcnblneghbgjgaa.Pure
open Go.RowKit Go.Proofs.YtcnblneghbgjgaaW.PrintWords Go.Proofs.Ytcnblneghbgjgaa.F
section
variable {C : List S66} (g : Good C) {O : List Int} (hO : O.length = C.length + 1) {w t : Int} (ht : 1 ≤ t ∧ t ≤ 64) (m3 h4 p5 : Int) (lo : Nat)
include g hO ht
theorem rfirst_end {fr z : Nat} (hft : fr < z) (hto : z ≤ C.length) (acc : List S54) (hacc : acc.length ≤ fr) {R : List S54}
  (H : Ev (fun k => r3_First.l0 k ((fr + lnN C O fr w t (z - fr) : Nat) : Int) (z : Int) (acc ++ [mkln C fr (lnN C O fr w t (z - fr)) (lnE C O fr w t (z - fr)) t]) C O w t m3 h4 p5 lo) R) :
  Ev (fun k => r3_First.l1 k (fr : Int) (z : Int) acc (enc fr (bestN C O fr w t (z - fr))) (enc fr (cutN C fr w t (z - fr))) ((z : Int) + 1) C O w t m3 h4 p5 lo) R := by
 have hg := g.len
 have hb := lnN_bd C O fr w t (N := z - fr) (by omega)
 have hcl := cutN_le C fr w t (z - fr)
 have hbl := bestN_le C O fr w t (z - fr)
 refine Ev.step (fun k => by unfold r3_First.l1; rfl) (ev_neg (by omega) ?_)
 by_cases h0 : bestN C O fr w t (z - fr) = 0
 ·have eN : lnN C O fr w t (z - fr) = if cutN C fr w t (z - fr) = 0 then 1 else cutN C fr w t (z - fr) := if_pos h0
  have eE : lnE C O fr w t (z - fr) = if op O (fr + lnN C O fr w t (z - fr)) = 2 ∨ op O (fr + lnN C O fr w t (z - fr)) = 1 then op O (fr + lnN C O fr w t (z - fr)) else 4 := if_pos h0
  rw [h0, enc_zero]
  refine ev_neg (by omega) ?_
  by_cases hc : cutN C fr w t (z - fr) = 0
  ·have e1 : lnN C O fr w t (z - fr) = 1 := by rw [eN, if_pos hc]
   rw [e1] at H eE
   rw [hc, enc_zero]
   refine ev_pos (by omega) ?_
   rw [w64 (x := (fr : Int) + 1) (by omega) (by omega), show (fr : Int) + 1 = ((fr + 1 : Nat) : Int) from by omega, rd_op]
   refine ev_pos (by omega) (ev_pos (by omega) ?_)
   by_cases o2 : op O (fr + 1) = 2
   ·rw [if_pos (.inl o2)] at eE
    rw [eE] at H
    refine ev_pos o2 (ev_bind (rline_ev g O fr 1 _ ht (by omega)) ?_)
    exact ev_pos (by omega) H
   ·refine ev_neg o2 ?_
    by_cases o1 : op O (fr + 1) = 1
    ·rw [if_pos (.inr o1)] at eE
     rw [eE] at H
     refine ev_pos o1 (ev_bind (rline_ev g O fr 1 _ ht (by omega)) ?_)
     exact ev_pos (by omega) H
    ·rw [if_neg (by omega)] at eE
     rw [eE] at H
     refine ev_neg o1 (ev_bind (rline_ev g O fr 1 _ ht (by omega)) ?_)
     exact ev_pos (by omega) H
  ·have e1 : lnN C O fr w t (z - fr) = cutN C fr w t (z - fr) := by rw [eN, if_neg hc]
   rw [e1] at H eE hb
   rw [enc_pos hc]
   generalize cutN C fr w t (z - fr) = n at *
   refine ev_neg (by omega) ?_
   rw [rd_op]
   refine ev_pos (by omega) (ev_pos (by omega) ?_)
   by_cases o2 : op O (fr + n) = 2
   ·rw [if_pos (.inl o2)] at eE
    rw [eE] at H
    refine ev_pos o2 (ev_bind (rline_ev g O fr n _ ht (by omega)) ?_)
    exact ev_pos (by omega) H
   ·refine ev_neg o2 ?_
    by_cases o1 : op O (fr + n) = 1
    ·rw [if_pos (.inr o1)] at eE
     rw [eE] at H
     refine ev_pos o1 (ev_bind (rline_ev g O fr n _ ht (by omega)) ?_)
     exact ev_pos (by omega) H
    ·rw [if_neg (by omega)] at eE
     rw [eE] at H
     refine ev_neg o1 (ev_bind (rline_ev g O fr n _ ht (by omega)) ?_)
     exact ev_pos (by omega) H
 ·have e1 : lnN C O fr w t (z - fr) = bestN C O fr w t (z - fr) := if_neg h0
  have eE : lnE C O fr w t (z - fr) = op O (fr + lnN C O fr w t (z - fr)) := if_neg h0
  rw [eE, e1] at H
  rw [e1] at hb
  rw [enc_pos h0]
  generalize bestN C O fr w t (z - fr) = n at *
  refine ev_pos (by omega) (ev_pos (by omega) (ev_pos (by omega) ?_))
  rw [rd_op]
  refine ev_bind (rline_ev g O fr n _ ht (by omega)) ?_
  exact ev_pos (by omega) H
theorem rfirst_l1 {fr z : Nat} (hft : fr < z) (hto : z ≤ C.length) (acc : List S54) {R : List S54}
  (H : Ev (fun k => r3_First.l1 k (fr : Int) (z : Int) acc (enc fr (bestN C O fr w t (z - fr))) (enc fr (cutN C fr w t (z - fr))) ((z : Int) + 1) C O w t m3 h4 p5 lo) R) : ∀ (d m : Nat), m + d = z - fr →
  Ev (fun k => r3_First.l1 k (fr : Int) (z : Int) acc (enc fr (bestN C O fr w t m)) (enc fr (cutN C fr w t m)) ((fr + (m + 1) : Nat) : Int) C O w t m3 h4 p5 lo) R := by
 have hg := g.len
 intro d
 induction d with
 | zero =>
  intro m hm
  rw [show m = z - fr from by omega, show ((fr + (z - fr + 1) : Nat) : Int) = (z : Int) + 1 from by omega]
  exact H
 | succ d ih =>
  intro m hm
  have ih' := ih (m + 1) (by omega)
  refine Ev.step (fun k => by unfold r3_First.l1; rfl) (ev_pos (by omega) (ev_bind (rcells_ev g O fr (m + 1) 0 ht (by omega)) ?_))
  rw [show wrap64 (((fr + (m + 1) : Nat) : Int) + 1) = ((fr + (m + 1 + 1) : Nat) : Int) from by rw [w64 (by omega) (by omega)]; omega, rd_op]
  have hle := cel_zero_le C fr (m + 1) (op O (fr + (m + 1))) t
  by_cases hc : cel C fr (m + 1) 0 t ≤ w
  ·have ec : cutN C fr w t (m + 1) = m + 1 := if_pos hc
   rw [ec, enc_pos (fr := fr) (m := m + 1) (by omega)] at ih'
   refine ev_pos hc (ev_pos (by omega) (ev_pos (by omega) ?_))
   by_cases ho : op O (fr + (m + 1)) = 0
   ·have eb : bestN C O fr w t (m + 1) = bestN C O fr w t m := if_neg (fun h => h.1 ho)
    rw [eb] at ih'
    exact ev_pos ho ih'
   ·refine ev_neg ho (ev_bind (rcells_ev g O fr (m + 1) _ ht (by omega)) ?_)
    by_cases h2 : cel C fr (m + 1) (op O (fr + (m + 1))) t ≤ w
    ·have eb : bestN C O fr w t (m + 1) = m + 1 := if_pos ⟨ho, h2⟩
     rw [eb, enc_pos (fr := fr) (m := m + 1) (by omega)] at ih'
     exact ev_pos h2 ih'
    ·have eb : bestN C O fr w t (m + 1) = bestN C O fr w t m := if_neg (fun h => h2 h.2)
     rw [eb] at ih'
     exact ev_neg h2 ih'
  ·have ec : cutN C fr w t (m + 1) = cutN C fr w t m := if_neg hc
   have eb : bestN C O fr w t (m + 1) = bestN C O fr w t m := if_neg (fun h => by omega)
   rw [ec, eb] at ih'
   exact ev_neg hc ih'
theorem rfirst_l0 {z : Nat} (hto : z ≤ C.length) : ∀ (d fr : Nat) (acc : List S54), z - fr ≤ d → fr ≤ z → acc.length ≤ fr →
  Ev (fun k => r3_First.l0 k (fr : Int) (z : Int) acc C O w t m3 h4 p5 lo) (acc ++ PL C O w t fr z) := by
 have hg := g.len
 intro d
 induction d with
 | zero =>
  intro fr acc hd hf _
  refine Ev.step (fun k => by unfold r3_First.l0; rfl) (ev_neg (by omega) (ev_ret ?_))
  rw [PL_ge _ _ _ _ (by omega), List.append_nil]
 | succ d ih =>
  intro fr acc hd hf hacc
  by_cases hlt : fr < z
  ·have hb := lnN_bd C O fr w t (N := z - fr) (by omega)
   refine Ev.step (fun k => by unfold r3_First.l0; rfl) (ev_pos (by omega) ?_)
   rw [show wrap64 ((fr : Int) + 1) = ((fr + (0 + 1) : Nat) : Int) from by rw [w64 (by omega) (by omega)]; omega, PL_lt C O w t hlt]
   refine rfirst_l1 g hO ht m3 h4 p5 lo hlt hto acc (rfirst_end g hO ht m3 h4 p5 lo hlt hto acc hacc ?_) (z - fr) 0 (by omega)
   have := ih (fr + lnN C O fr w t (z - fr)) (acc ++ [mkln C fr (lnN C O fr w t (z - fr)) (lnE C O fr w t (z - fr)) t]) (by omega) (by omega) (by simp; omega)
   simpa [List.append_assoc] using this
  ·refine Ev.step (fun k => by unfold r3_First.l0; rfl) (ev_neg (by omega) (ev_ret ?_))
   rw [PL_ge _ _ _ _ (by omega), List.append_nil]
theorem rfirst_ev {fr z : Nat} (hft : fr ≤ z) (hto : z ≤ C.length) : Ev (fun k => r3_First.f k C O (fr : Int) (z : Int) w t m3 h4 p5 lo) (PL C O w t fr z) := by
 have := rfirst_l0 g hO ht m3 h4 p5 lo (w := w) hto (z - fr) fr [] (Nat.le_refl _) hft (Nat.zero_le _)
 exact this
end
end Go.Proofs.Ytcnblneghbgjgaa.Pure
end
section
/- The document's Parts comes to the plain parts. -/
namespace Go.Proofs.Ytcnblneghbgjgaa.Pure
open Go.RowKit Go.Proofs.YtcnblneghbgjgaaW.PrintWords Go.Proofs.Ytcnblneghbgjgaa.F
theorem rparts_l0 {C : List S66} {O : List Int} (hl : O.length ≤ 4001) : ∀ (d i : Nat), i + d = O.length →
  Ev (fun k => r0_Parts.l0 k (((List.range i).filter (fun i => op O i = 2)).map (fun i : Nat => (i : Int))) (i : Int) C O) ((PT O).map (fun i : Nat => (i : Int))) := by
 intro d
 induction d with
 | zero =>
  intro i hi
  refine Ev.step (fun k => by unfold r0_Parts.l0; rfl) (ev_neg (by omega) (ev_ret ?_))
  rw [show i = O.length from by omega]
  rfl
 | succ d ih =>
  intro i hi
  have ih' := ih (i + 1) (by omega)
  rw [List.range_succ, List.filter_append, List.map_append] at ih'
  refine Ev.step (fun k => by unfold r0_Parts.l0; rfl) (ev_pos (by omega) (ev_pos (by omega) ?_))
  rw [rd_op, show wrap64 ((i : Int) + 1) = ((i + 1 : Nat) : Int) from by rw [w64 (by omega) (by omega)]; rfl]
  by_cases h : op O i = 2
  ·refine ev_pos h (ev_pos ?_ ?_)
   ·have := List.length_filter_le (fun i => decide (op O i = 2)) (List.range i)
    rw [List.length_range] at this
    rw [List.length_map]
    omega
   ·simpa [h] using ih'
  ·refine ev_neg h ?_
   simpa [h] using ih'
theorem rparts_ev (C : List S66) {O : List Int} (hl : O.length ≤ 4001) : Ev (fun k => r0_Parts.f k C O) ((PT O).map (fun i : Nat => (i : Int))) :=
 rparts_l0 hl O.length 0 (by omega)
end Go.Proofs.Ytcnblneghbgjgaa.Pure
end
section
/- The code's Gaps comes to the plain number of spaces. -/
namespace Go.Proofs.Ytcnblneghbgjgaa.Pure
open Go.RowKit Go.Proofs.YtcnblneghbgjgaaW.PrintWords Go.Proofs.Ytcnblneghbgjgaa.F
end Go.Proofs.Ytcnblneghbgjgaa.Pure
end
section
/- The code's best.Cost comes to the plain cost of a line. -/
namespace Go.Proofs.Ytcnblneghbgjgaa.Pure
open Go.RowKit Go.Proofs.YtcnblneghbgjgaaW.PrintWords Go.Proofs.Ytcnblneghbgjgaa.F
def pc (C : List S66) (O : List Int) (y : Wy) (a b : Nat) (last : Bool) : Option Int :=
 if b ≤ a ∨ op O b = 0 then none else prc y (op O a) (op O b) (cel C a (b - a) (op O b) y.t) (gap C a (b - a) : Int) last
theorem pc_bd {C : List S66} {O : List Int} {y : Wy} (k : WyOk y) {a b : Nat} {last : Bool} {c : Int} (h : pc C O y a b last = some c) : 100 ≤ c ∧ c ≤ 110000000 := by
 unfold pc at h
 split at h
 ·cases h
 ·exact prc_bd k h
end Go.Proofs.Ytcnblneghbgjgaa.Pure
end
section
/- What lines cost: the sum of the plain costs. -/
namespace Go.Proofs.Ytcnblneghbgjgaa.Pure
open Go.RowKit Go.Proofs.YtcnblneghbgjgaaW.PrintWords Go.Proofs.Ytcnblneghbgjgaa.F
def pcl (C : List S66) (O : List Int) (y : Wy) (x : S54) : Option Int := pc C O y x.f0.toNat x.f1.toNat (op O x.f1.toNat == 2)
def lcost (C : List S66) (O : List Int) (y : Wy) : List S54 → Option Int
 | [] => some 0
 | x :: r => match pcl C O y x, lcost C O y r with
  | some a, some b => some (a + b)
  | _, _ => none
section
variable {C : List S66} {O : List Int} {y : Wy}
theorem lcost_cons_some {x : S54} {r : List S54} {c : Int} : lcost C O y (x :: r) = some c ↔ ∃ a b, pcl C O y x = some a ∧ lcost C O y r = some b ∧ c = a + b := by
 show (match pcl C O y x, lcost C O y r with
  | some a, some b => some (a + b)
  | _, _ => none) = some c ↔ _
 cases h1 : pcl C O y x with
 | none => simp
 | some a =>
  cases h2 : lcost C O y r with
  | none => simp
  | some b => simp; exact eq_comm
end
end Go.Proofs.Ytcnblneghbgjgaa.Pure
end
section
/- The plain choice costs least: less than or as much as any lines that may be. -/
namespace Go.Proofs.Ytcnblneghbgjgaa.Pure
open Go.RowKit Go.Proofs.YtcnblneghbgjgaaW.PrintWords Go.Proofs.Ytcnblneghbgjgaa.F
def Chn (z : Nat) : Nat → List S54 → Prop
 | i, [] => i = z
 | i, x :: r => ∃ b : Nat, x.f0 = (i : Int) ∧ x.f1 = (b : Int) ∧ i < b ∧ b ≤ z ∧ Chn z b r
section
variable {C : List S66} {O : List Int} {y : Wy} {fr z : Nat} (h2 : op O z = 2) (hs : ∀ j, fr < j → j < z → op O j ≠ 2)
include h2 hs
theorem last_eq {b : Nat} (h : fr < b) (hb : b ≤ z) : (op O b == 2) = (b == z) := by
 rcases Nat.eq_or_lt_of_le hb with h3 | h3
 ·subst h3; rw [h2]; simp
 ·have h4 := hs b h h3
  rw [show (b == z) = false from by simp; omega, beq_eq_false_iff_ne]
  exact h4
theorem pc_cst {i b : Nat} (hi : fr ≤ i) (hb : i < b) (hz : b ≤ z) : pc C O y i b (op O b == 2) = cst C O y z i (b - i) := by
 unfold pc cst
 rw [show i + (b - i) = b from by omega, last_eq h2 hs (by omega) hz]
 by_cases h : op O b = 0
 ·rw [if_pos (.inr h), if_pos h]
 ·rw [if_neg (by omega), if_neg h]
theorem opt_le : ∀ (M : List S54) (i : Nat) (s : Int), fr ≤ i → i ≤ z → (i = fr ∨ op O i ≠ 0) → Chn z i M → lcost C O y M = some s → ∃ r, R C O y fr z i = some r ∧ r ≤ s := by
 intro M
 induction M with
 | nil =>
  intro i s h3 h4 h5 h6 h7
  obtain rfl : i = z := h6
  cases h7
  exact ⟨0, R_end h3, Int.le_refl _⟩
 | cons x M ih =>
  intro i s h3 h4 h5 h6 h7
  obtain ⟨b, e0, e1, hb, hz, hch⟩ := h6
  obtain ⟨a, c, h8, h9, h10⟩ := lcost_cons_some.1 h7
  have h11 : pc C O y i b (op O b == 2) = some a := by
   unfold pcl at h8
   rw [e0, e1, Int.toNat_natCast, Int.toNat_natCast] at h8
   exact h8
  have hob : op O b ≠ 0 := by
   intro h
   unfold pc at h11
   rw [if_pos (.inr h)] at h11
   cases h11
  rw [pc_cst h2 hs h3 hb hz] at h11
  obtain ⟨r, hr, hrle⟩ := ih b c (by omega) hz (.inr hob) hch h9
  have hcn : cnd C O y z (R C O y fr z) i (b - i) = some (a + r) := cnd_some.2 ⟨a, r, h11, by rw [show i + (b - i) = b from by omega]; exact hr, rfl⟩
  have hE := E_eq (C := C) (O := O) (y := y) (fr := fr) (z := z) (i := i) h3 (by omega)
  rw [if_pos h5] at hE
  cases hbu : bu C O y z (R C O y fr z) i (z - i) with
  | none =>
   have := (bu_none (z - i)).1 hbu (b - i) (by omega) (by omega)
   rw [hcn] at this
   cases this
  | some p =>
   obtain ⟨n, n1, n2, n3, n4, n5⟩ := bu_some hbu
   have := (n5 (b - i) (a + r) (by omega) (by omega) hcn).1
   refine ⟨p.1, ?_, by omega⟩
   unfold R
   rw [hE, hbu]; rfl
theorem own_cost (k : WyOk y) : ∀ (d i : Nat) (b : Int × Nat), z - i ≤ d → fr ≤ i → i ≤ z → E C O y fr z i = some b → lcost C O y (LB C O y fr z d i) = some b.1 := by
 intro d
 induction d with
 | zero =>
  intro i b h3 h4 h5 hb
  obtain rfl : i = z := by omega
  rw [E_end h4] at hb
  cases hb
  rfl
 | succ d ih =>
  intro i b h3 h4 h5 hb
  rcases Nat.eq_or_lt_of_le h5 with h6 | h6
  ·subst h6
   rw [E_end h4] at hb
   cases hb
   unfold LB
   rw [if_neg (by omega)]; rfl
  ·have e1 : LB C O y fr z (d + 1) i = mkln C i (b.2 - i) (op O b.2) y.t :: LB C O y fr z d b.2 := by
    show (if i < z then _ else _) = _
    rw [if_pos h6, hb]
   have hsp := (E_spec k (z - i) i (Nat.le_refl _) h4 h5 b hb).2 h6
   obtain ⟨x, hx⟩ := hsp.2.2
   have hE := hb
   rw [E_eq h4 h6] at hE
   split at hE
   ·obtain ⟨n, n1, n2, n3, n4, n5⟩ := bu_some hE
    obtain ⟨a, c, ha, hc, he⟩ := cnd_some.1 n4
    rw [← n3] at hc
    have hc' : c = x.1 := by
     unfold R at hc
     rw [hx] at hc
     exact (Option.some.inj hc).symm
    rw [e1, lcost_cons_some]
    refine ⟨a, c, ?_, ?_, he⟩
    ·unfold pcl mkln
     rw [show i + (b.2 - i) = b.2 from by omega]
     dsimp only
     rw [Int.toNat_natCast, Int.toNat_natCast, pc_cst h2 hs h4 hsp.1 hsp.2.1, show b.2 - i = n from by omega]
     exact ha
    ·rw [hc']
     exact ih b.2 x (by omega) (by omega) hsp.2.1 hx
   ·cases hE
end
end Go.Proofs.Ytcnblneghbgjgaa.Pure
end
section
/- Rows of ends: what they cost, which ends sooner; the plain choice's own ends. -/
namespace Go.Proofs.Ytcnblneghbgjgaa.Pure
open Go.RowKit Go.Proofs.YtcnblneghbgjgaaW.PrintWords Go.Proofs.Ytcnblneghbgjgaa.F
def Asc (n : Nat) : Nat → List Nat → Prop
 | i, [] => i = n
 | i, e :: r => i < e ∧ e ≤ n ∧ Asc n e r
theorem Asc.le {n : Nat} : ∀ {es : List Nat} {i : Nat}, Asc n i es → i ≤ n := by
 intro es
 induction es with
 | nil => intro i h; exact Nat.le_of_eq h
 | cons e r ih => intro i h; have := ih h.2.2; have := h.1; omega
theorem Asc.last {n e : Nat} {r : List Nat} (h : Asc n e r) : r.isEmpty = (e == n) := by
 cases r with
 | nil => have : e = n := h; simp [this]
 | cons f r => have h1 := h.1; have h2 := h.2.1; simp; omega
section
variable (C : List S66) (O : List Int) (y : Wy)
def ec : Nat → List Nat → Option Int
 | _, [] => some 0
 | i, e :: r => match pc C O y i e r.isEmpty, ec e r with
  | some a, some b => some (a + b)
  | _, _ => none
def lns : Nat → List Nat → List S54
 | _, [] => []
 | i, e :: r => mkln C i (e - i) (op O e) y.t :: lns e r
end
def slt : List Nat → List Nat → Bool
 | a :: r, b :: s => if a = b then slt r s else decide (a < b)
 | [], _ :: _ => true
 | _, [] => false
theorem slt_trans : ∀ {a b c : List Nat}, slt a b = true → slt b c = true → slt a c = true := by
 intro a
 induction a with
 | nil =>
  intro b c h1 h2
  cases b with
  | nil => cases h1
  | cons y b =>
   cases c with
   | nil => cases h2
   | cons z c => rfl
 | cons x a ih =>
  intro b c h1 h2
  cases b with
  | nil => cases h1
  | cons y b =>
   cases c with
   | nil => cases h2
   | cons z c =>
    simp only [slt] at h1 h2 ⊢
    split at h1
    ·rename_i e1
     split at h2
     ·rename_i e2
      rw [if_pos (e1.trans e2)]
      exact ih h1 h2
     ·rename_i e2
      rw [if_neg (by omega)]
      have := of_decide_eq_true h2
      exact decide_eq_true (by omega)
    ·rename_i e1
     have h3 := of_decide_eq_true h1
     split at h2
     ·rename_i e2
      rw [if_neg (by omega)]
      exact decide_eq_true (by omega)
     ·have h4 := of_decide_eq_true h2
      rw [if_neg (by omega)]
      exact decide_eq_true (by omega)
theorem slt_total : ∀ {a b : List Nat}, slt a b = false → slt b a = false → a = b := by
 intro a
 induction a with
 | nil =>
  intro b h1 h2
  cases b with
  | nil => rfl
  | cons y b => cases h1
 | cons x a ih =>
  intro b h1 h2
  cases b with
  | nil => cases h2
  | cons y b =>
   simp only [slt] at h1 h2
   split at h1
   ·rename_i e
    rw [if_pos e.symm] at h2
    rw [e, ih h1 h2]
   ·rename_i e
    rw [if_neg (fun h => e h.symm)] at h2
    have := of_decide_eq_false h1
    have := of_decide_eq_false h2
    omega
section
variable {C : List S66} {O : List Int} {y : Wy} {n : Nat} (h2 : op O n = 2) (hs : ∀ j, 0 < j → j < n → op O j ≠ 2)
include h2 hs
omit h2 hs in
theorem lns_chn : ∀ (es : List Nat) (i : Nat), Asc n i es → Chn n i (lns C O y i es) := by
 intro es
 induction es with
 | nil => intro i h; exact h
 | cons e r ih =>
  intro i h
  refine ⟨e, rfl, ?_, h.1, h.2.1, ih e h.2.2⟩
  have := h.1
  show ((i + (e - i) : Nat) : Int) = _
  omega
end
end Go.Proofs.Ytcnblneghbgjgaa.Pure
end
section
/- The document's search, plainly: from the beginning on, for each boundary the best ends so far. -/
namespace Go.Proofs.Ytcnblneghbgjgaa.Pure
open Go.RowKit Go.Proofs.YtcnblneghbgjgaaW.PrintWords Go.Proofs.Ytcnblneghbgjgaa.F
def ez (C : List S66) (O : List Int) (y : Wy) (z : Nat) : Nat → List Nat → Option Int
 | _, [] => some 0
 | i, e :: r => match pc C O y i e (e == z), ez C O y z e r with
  | some a, some b => some (a + b)
  | _, _ => none
section
variable {C : List S66} {O : List Int} {y : Wy} {z : Nat}
theorem ez_cons {i e : Nat} {r : List Nat} {s : Int} : ez C O y z i (e :: r) = some s ↔ ∃ a b, pc C O y i e (e == z) = some a ∧ ez C O y z e r = some b ∧ s = a + b := by
 show (match pc C O y i e (e == z), ez C O y z e r with
  | some a, some b => some (a + b)
  | _, _ => none) = some s ↔ _
 cases h1 : pc C O y i e (e == z) with
 | none => simp
 | some a =>
  cases h2 : ez C O y z e r with
  | none => simp
  | some b => simp; exact eq_comm
theorem ez_app {j k : Nat} : ∀ {l : List Nat} {i : Nat} {s : Int}, Asc j i l → (ez C O y z i (l ++ [k]) = some s ↔ ∃ a b, ez C O y z i l = some a ∧ pc C O y j k (k == z) = some b ∧ s = a + b) := by
 intro l
 induction l with
 | nil =>
  intro i s h
  obtain rfl : i = j := h
  rw [List.nil_append, ez_cons]
  constructor
  ·rintro ⟨a, b, h1, h2, h3⟩
   cases h2
   exact ⟨0, a, rfl, h1, by omega⟩
  ·rintro ⟨a, b, h1, h2, h3⟩
   cases h1
   exact ⟨b, 0, h2, rfl, by omega⟩
 | cons e r ih =>
  intro i s h
  rw [List.cons_append, ez_cons]
  constructor
  ·rintro ⟨a, b, h1, h2, h3⟩
   obtain ⟨a', b', h4, h5, h6⟩ := (ih h.2.2).1 h2
   exact ⟨a + a', b', ez_cons.2 ⟨a, a', h1, h4, rfl⟩, h5, by omega⟩
  ·rintro ⟨a, b, h1, h2, h3⟩
   obtain ⟨a', b', h4, h5, h6⟩ := ez_cons.1 h1
   exact ⟨a', b' + b, h4, (ih h.2.2).2 ⟨b', b, h5, h2, rfl⟩, by omega⟩
theorem asc_snoc {j k : Nat} (hk : j < k) : ∀ {l : List Nat} {i : Nat}, Asc j i l → Asc k i (l ++ [k]) := by
 intro l
 induction l with
 | nil => intro i h; obtain rfl : i = j := h; exact ⟨hk, Nat.le_refl _, rfl⟩
 | cons e r ih => intro i h; exact ⟨h.1, by have := h.2.1; omega, ih h.2.2⟩
theorem asc_unsnoc {k : Nat} : ∀ {l : List Nat} {i : Nat}, Asc k i l → i < k → ∃ j l1, l = l1 ++ [k] ∧ Asc j i l1 ∧ i ≤ j ∧ j < k := by
 intro l
 induction l with
 | nil => intro i h hi; have : i = k := h; omega
 | cons e r ih =>
  intro i h hi
  rcases Nat.eq_or_lt_of_le h.2.1 with h1 | h1
  ·subst h1
   cases r with
   | nil => exact ⟨i, [], rfl, rfl, Nat.le_refl _, h.1⟩
   | cons f r => have := h.2.2.1; have := h.2.2.2.1; omega
  ·obtain ⟨j, l1, e1, e2, e3, e4⟩ := ih h.2.2 h1
   have := h.1
   exact ⟨j, e :: l1, by rw [e1]; rfl, ⟨h.1, by have := Asc.le e2; omega, e2⟩, by omega, e4⟩
theorem asc_len {k : Nat} : ∀ {l : List Nat} {i : Nat}, Asc k i l → i + l.length ≤ k := by
 intro l
 induction l with
 | nil => intro i h; have : i = k := h; simp; omega
 | cons e r ih => intro i h; have := ih h.2.2; have := h.1; rw [List.length_cons]; omega
theorem slt_snoc {j k : Nat} : ∀ {a b : List Nat} {i : Nat}, Asc j i a → Asc j i b → slt (a ++ [k]) (b ++ [k]) = slt a b := by
 intro a
 induction a with
 | nil =>
  intro b i h1 h2
  obtain rfl : i = j := h1
  cases b with
  | nil => simp [slt]
  | cons e r => have := h2.1; have := h2.2.1; omega
 | cons e r ih =>
  intro b i h1 h2
  cases b with
  | nil => obtain rfl : i = j := h2; have := h1.1; have := h1.2.1; omega
  | cons f s =>
   simp only [List.cons_append, slt]
   by_cases he : e = f
   ·subst he
    rw [if_pos rfl, if_pos rfl]
    exact ih h1.2.2 h2.2.2
   ·rw [if_neg he, if_neg he]
theorem ez_bd (k : WyOk y) {j : Nat} : ∀ {l : List Nat} {i : Nat} {s : Int}, Asc j i l → ez C O y z i l = some s → 0 ≤ s ∧ s ≤ 110000000 * ((j - i : Nat) : Int) := by
 intro l
 induction l with
 | nil => intro i s h h1; cases h1; exact ⟨Int.le_refl _, by omega⟩
 | cons e r ih =>
  intro i s h h1
  obtain ⟨a, b, h2, h3, h4⟩ := ez_cons.1 h1
  have h5 := pc_bd k h2
  have h6 := ih h.2.2 h3
  have h7 := h.1
  have h8 := Asc.le h.2.2
  omega
end
def Spec (C : List S66) (O : List Int) (y : Wy) (fr z j : Nat) (o : Option (Int × List Nat)) : Prop :=
 (o = none → ∀ l s, Asc j fr l → ez C O y z fr l = some s → False) ∧
 (∀ s l, o = some (s, l) → Asc j fr l ∧ ez C O y z fr l = some s ∧ ∀ l' s', Asc j fr l' → ez C O y z fr l' = some s' → s ≤ s' ∧ (s' = s → slt l' l = false))
def Cur (C : List S66) (O : List Int) (y : Wy) (fr z k i : Nat) (o : Option (Int × List Nat)) : Prop :=
 (o = none → ∀ j l s c, j < i → Asc j fr l → ez C O y z fr l = some s → pc C O y j k (k == z) = some c → False) ∧
 (∀ s l, o = some (s, l) → Asc k fr l ∧ ez C O y z fr l = some s ∧ ∀ j l1 s1 c, j < i → Asc j fr l1 → ez C O y z fr l1 = some s1 → pc C O y j k (k == z) = some c → s ≤ s1 + c ∧ (s1 + c = s → slt (l1 ++ [k]) l = false))
section
variable {C : List S66} {O : List Int} {y : Wy} {fr z : Nat}
theorem spec_fr : Spec C O y fr z fr (some (0, [])) := by
 refine ⟨fun h => (by cases h), fun s l h => ?_⟩
 cases h
 refine ⟨rfl, rfl, fun l' s' h1 h2 => ?_⟩
 cases l' with
 | nil => cases h2; exact ⟨Int.le_refl _, fun _ => rfl⟩
 | cons e r => have := h1.1; have := h1.2.1; omega
theorem cur_zero (k : Nat) : Cur C O y fr z k fr none := by
 refine ⟨fun _ j l s c h1 h2 => ?_, fun s l h => (by cases h)⟩
 have := Asc.le h2
 omega
theorem cur_spec {k : Nat} (hk : fr < k) {o : Option (Int × List Nat)} (h : Cur C O y fr z k k o) : Spec C O y fr z k o := by
 refine ⟨fun h0 l s h1 h2 => ?_, fun s l h0 => ?_⟩
 ·obtain ⟨j, l1, rfl, e2, e3, e4⟩ := asc_unsnoc h1 hk
  obtain ⟨a, b, h3, h4, -⟩ := (ez_app e2).1 h2
  exact h.1 h0 j l1 a b e4 e2 h3 h4
 ·obtain ⟨g1, g2, g3⟩ := h.2 s l h0
  refine ⟨g1, g2, fun l' s' h1 h2 => ?_⟩
  obtain ⟨j, l1, rfl, e2, e3, e4⟩ := asc_unsnoc h1 hk
  obtain ⟨a, b, h3, h4, h5⟩ := (ez_app e2).1 h2
  rw [h5]
  exact g3 j l1 a b e4 e2 h3 h4
theorem cur_skip {k i : Nat} {o : Option (Int × List Nat)} (h : Cur C O y fr z k i o) (hn : ∀ l s c, Asc i fr l → ez C O y z fr l = some s → pc C O y i k (k == z) = some c → False) : Cur C O y fr z k (i + 1) o := by
 refine ⟨fun h0 j l s c h1 h2 h3 h4 => ?_, fun s l h0 => ?_⟩
 ·rcases Nat.eq_or_lt_of_le (Nat.le_of_lt_succ h1) with h5 | h5
  ·subst h5; exact hn l s c h2 h3 h4
  ·exact h.1 h0 j l s c h5 h2 h3 h4
 ·obtain ⟨g1, g2, g3⟩ := h.2 s l h0
  refine ⟨g1, g2, fun j l1 s1 c h1 h2 h3 h4 => ?_⟩
  rcases Nat.eq_or_lt_of_le (Nat.le_of_lt_succ h1) with h5 | h5
  ·subst h5; exact (hn l1 s1 c h2 h3 h4).elim
  ·exact g3 j l1 s1 c h5 h2 h3 h4
theorem cur_take {k i : Nat} (hik : i < k) {o : Option (Int × List Nat)} (h : Cur C O y fr z k i o) {s c : Int} {l : List Nat} (hS : Spec C O y fr z i (some (s, l))) (hc : pc C O y i k (k == z) = some c)
  (hb : ∀ s0 l0, o = some (s0, l0) → s + c ≤ s0 ∧ (s + c = s0 → slt (l ++ [k]) l0 = true)) : Cur C O y fr z k (i + 1) (some (s + c, l ++ [k])) := by
 obtain ⟨g1, g2, g3⟩ := hS.2 s l rfl
 refine ⟨fun h0 => (by cases h0), fun s' l' h0 => ?_⟩
 cases h0
 refine ⟨asc_snoc hik g1, (ez_app g1).2 ⟨s, c, g2, hc, rfl⟩, fun j l1 s1 c1 h1 h2 h3 h4 => ?_⟩
 rcases Nat.eq_or_lt_of_le (Nat.le_of_lt_succ h1) with h5 | h5
 ·subst h5
  rw [hc] at h4
  cases h4
  obtain ⟨h6, h7⟩ := g3 l1 s1 h2 h3
  refine ⟨by omega, fun he => ?_⟩
  rw [slt_snoc h2 g1]
  exact h7 (by omega)
 ·cases ho : o with
  | none => exact (h.1 ho j l1 s1 c1 h5 h2 h3 h4).elim
  | some p =>
   obtain ⟨s0, l0⟩ := p
   obtain ⟨h6, h7⟩ := hb s0 l0 ho
   obtain ⟨-, -, h8⟩ := h.2 s0 l0 ho
   obtain ⟨h9, h10⟩ := h8 j l1 s1 c1 h5 h2 h3 h4
   refine ⟨by omega, fun he => ?_⟩
   cases hq : slt (l1 ++ [k]) (l ++ [k]) with
   | false => rfl
   | true =>
    have := slt_trans hq (h7 (by omega))
    rw [h10 (by omega)] at this
    cases this
theorem cur_keep {k i : Nat} {o : Option (Int × List Nat)} (h : Cur C O y fr z k i o) {s c : Int} {l : List Nat} (hS : Spec C O y fr z i (some (s, l))) (hc : pc C O y i k (k == z) = some c)
  {s0 : Int} {l0 : List Nat} (ho : o = some (s0, l0)) (hb : s0 < s + c ∨ s0 = s + c ∧ slt (l ++ [k]) l0 = false) : Cur C O y fr z k (i + 1) o := by
 obtain ⟨g1, g2, g3⟩ := hS.2 s l rfl
 obtain ⟨f1, f2, f3⟩ := h.2 s0 l0 ho
 refine ⟨fun h0 => (by rw [h0] at ho; cases ho), fun s' l' h0 => ?_⟩
 rw [ho] at h0
 cases h0
 refine ⟨f1, f2, fun j l1 s1 c1 h1 h2 h3 h4 => ?_⟩
 rcases Nat.eq_or_lt_of_le (Nat.le_of_lt_succ h1) with h5 | h5
 ·subst h5
  rw [hc] at h4
  cases h4
  obtain ⟨h6, h7⟩ := g3 l1 s1 h2 h3
  rcases hb with hb | ⟨hb, hq⟩
  ·exact ⟨by omega, fun he => by omega⟩
  ·refine ⟨by omega, fun he => ?_⟩
   cases hq2 : slt (l1 ++ [k]) l0 with
   | false => rfl
   | true =>
    have h8 := h7 (by omega)
    rw [← slt_snoc (k := k) h2 g1] at h8
    cases hq3 : slt (l ++ [k]) (l1 ++ [k]) with
    | true =>
     have := slt_trans hq3 hq2
     rw [hq] at this
     cases this
    | false =>
     have := slt_total hq3 h8
     rw [this, hq2] at hq
     cases hq
 ·exact f3 j l1 s1 c1 h5 h2 h3 h4
end
section
variable {C : List S66} {O : List Int} {y : Wy} {fr z : Nat} (h2 : op O z = 2) (hs : ∀ j, fr < j → j < z → op O j ≠ 2)
include h2 hs
theorem ez_lcost : ∀ (es : List Nat) (i : Nat), fr ≤ i → Asc z i es → ez C O y z i es = lcost C O y (lns C O y i es) := by
 intro es
 induction es with
 | nil => intro i _ _; rfl
 | cons e r ih =>
  intro i hi h
  have hp : pcl C O y (mkln C i (e - i) (op O e) y.t) = pc C O y i e (e == z) := by
   unfold pcl mkln
   have := h.1
   rw [show i + (e - i) = e from by omega]
   dsimp only
   rw [Int.toNat_natCast, Int.toNat_natCast, last_eq (fr := fr) h2 hs (by omega) h.2.1]
  show (match pc C O y i e (e == z), ez C O y z e r with
   | some a, some b => some (a + b)
   | _, _ => none) = (match pcl C O y (mkln C i (e - i) (op O e) y.t), lcost C O y (lns C O y e r) with
   | some a, some b => some (a + b)
   | _, _ => none)
  rw [hp, ih e (by have := h.1; omega) h.2.2]
theorem fown_first (k : WyOk y) : ∀ (es : List Nat) (d i : Nat) (b : Int × Nat) (s : Int), fr ≤ i → i ≤ z → z - i ≤ d → (i = fr ∨ op O i ≠ 0) → E C O y fr z i = some b → Asc z i es → lcost C O y (lns C O y i es) = some s → s = b.1 →
  slt es ((LB C O y fr z d i).map (fun x => x.f1.toNat)) = false := by
 intro es
 induction es with
 | nil =>
  intro d i b s _ h3 h4 h5 hE hA _ _
  obtain rfl : i = z := hA
  cases d with
  | zero => rfl
  | succ d => unfold LB; rw [if_neg (by omega)]; rfl
 | cons e r ih =>
  intro d i b s hfi h3 h4 h5 hE hA hc hsb
  have h6 := hA.1
  have h7 := hA.2.1
  obtain ⟨d', rfl⟩ : ∃ d', d = d' + 1 := ⟨d - 1, by omega⟩
  have e1 : LB C O y fr z (d' + 1) i = mkln C i (b.2 - i) (op O b.2) y.t :: LB C O y fr z d' b.2 := by
   show (if i < z then _ else _) = _
   rw [if_pos (by omega), hE]
  have hsp := (E_spec k (z - i) i (Nat.le_refl _) hfi h3 b hE).2 (by omega)
  obtain ⟨x, hx⟩ := hsp.2.2
  obtain ⟨a, c, g1, g2, g3⟩ := lcost_cons_some.1 hc
  have g4 : pc C O y i e (op O e == 2) = some a := by
   unfold pcl mkln at g1
   rw [show i + (e - i) = e from by omega] at g1
   dsimp only at g1
   rw [Int.toNat_natCast, Int.toNat_natCast] at g1
   exact g1
  have hoe : op O e ≠ 0 := by
   intro h
   unfold pc at g4
   rw [if_pos (.inr h)] at g4
   cases g4
  rw [pc_cst h2 hs hfi h6 h7] at g4
  obtain ⟨q, hq, hqle⟩ := opt_le h2 hs _ e c (by omega) h7 (.inr hoe) (lns_chn r e hA.2.2) g2
  have hcn : cnd C O y z (R C O y fr z) i (e - i) = some (a + q) := cnd_some.2 ⟨a, q, g4, by rw [show i + (e - i) = e from by omega]; exact hq, rfl⟩
  have hE2 := hE
  rw [E_eq hfi (by omega), if_pos h5] at hE2
  obtain ⟨m, n1, n2, n3, n4, n5⟩ := bu_some hE2
  have hm := n5 (e - i) (a + q) (by omega) (by omega) hcn
  have hb2 : ((mkln C i (b.2 - i) (op O b.2) y.t).f1).toNat = b.2 := by
   show (((i + (b.2 - i) : Nat) : Int)).toNat = _
   rw [Int.toNat_natCast]
   have := hsp.1
   omega
  rw [e1, List.map_cons, hb2]
  simp only [slt]
  by_cases he : e = b.2
  ·rw [if_pos he]
   have hEe : E C O y fr z e = some x := by rw [he]; exact hx
   have hqx : q = x.1 := by
    unfold R at hq
    rw [hEe] at hq
    exact (Option.some.inj hq).symm
   have := ih d' e x c (by omega) h7 (by omega) (.inr hoe) hEe hA.2.2 g2 (by omega)
   rw [← he]
   exact this
  ·rw [if_neg he]
   refine decide_eq_false (fun hlt => ?_)
   have := hm.2 (by omega)
   omega
omit h2 hs in
theorem fown_asc (k : WyOk y) : ∀ (d i : Nat) (b : Int × Nat), z - i ≤ d → fr ≤ i → i ≤ z → E C O y fr z i = some b →
  Asc z i ((LB C O y fr z d i).map (fun x => x.f1.toNat)) ∧ lns C O y i ((LB C O y fr z d i).map (fun x => x.f1.toNat)) = LB C O y fr z d i := by
 intro d
 induction d with
 | zero =>
  intro i b h1 _ h2 _
  exact ⟨(show i = z from by omega), rfl⟩
 | succ d ih =>
  intro i b h1 hf h2 hE
  rcases Nat.eq_or_lt_of_le h2 with h3 | h3
  ·unfold LB
   rw [if_neg (by omega)]
   exact ⟨h3, rfl⟩
  ·have e1 : LB C O y fr z (d + 1) i = mkln C i (b.2 - i) (op O b.2) y.t :: LB C O y fr z d b.2 := by
    show (if i < z then _ else _) = _
    rw [if_pos h3, hE]
   have hsp := (E_spec k (z - i) i (Nat.le_refl _) hf h2 b hE).2 h3
   obtain ⟨x, hx⟩ := hsp.2.2
   obtain ⟨i1, i2⟩ := ih b.2 x (by omega) (by omega) hsp.2.1 hx
   have hb2 : ((mkln C i (b.2 - i) (op O b.2) y.t).f1).toNat = b.2 := by
    show (((i + (b.2 - i) : Nat) : Int)).toNat = _
    rw [Int.toNat_natCast]
    have := hsp.1
    omega
   rw [e1, List.map_cons, hb2]
   refine ⟨⟨hsp.1, hsp.2.1, i1⟩, ?_⟩
   show mkln C i (b.2 - i) (op O b.2) y.t :: lns C O y b.2 _ = _
   rw [i2]
theorem spec_BB (k : WyOk y) (hlt : fr < z) {o : Option (Int × List Nat)} (hS : Spec C O y fr z z o) : BB C O y fr z = o.map (fun p => lns C O y fr p.2) := by
 unfold BB
 rw [if_neg (by omega)]
 cases hE : E C O y fr z fr with
 | none =>
  cases o with
  | none => rfl
  | some p =>
   exfalso
   obtain ⟨g1, g2, -⟩ := hS.2 p.1 p.2 rfl
   rw [ez_lcost h2 hs p.2 fr (Nat.le_refl _) g1] at g2
   obtain ⟨q, hq, -⟩ := opt_le h2 hs _ fr p.1 (Nat.le_refl _) (by omega) (.inl rfl) (lns_chn p.2 fr g1) g2
   unfold R at hq
   rw [hE] at hq
   cases hq
 | some b =>
  obtain ⟨o1, o2⟩ := fown_asc k (z - fr) fr b (Nat.le_refl _) (Nat.le_refl _) (by omega) hE
  have oc := own_cost h2 hs k (z - fr) fr b (Nat.le_refl _) (Nat.le_refl _) (by omega) hE
  have oe : ez C O y z fr ((LB C O y fr z (z - fr) fr).map (fun x => x.f1.toNat)) = some b.1 := by
   rw [ez_lcost h2 hs _ fr (Nat.le_refl _) o1, o2]; exact oc
  cases o with
  | none => exact (hS.1 rfl _ _ o1 oe).elim
  | some p =>
   obtain ⟨g1, g2, g3⟩ := hS.2 p.1 p.2 rfl
   obtain ⟨h5, h6⟩ := g3 _ _ o1 oe
   have g2' := g2
   rw [ez_lcost h2 hs p.2 fr (Nat.le_refl _) g1] at g2'
   obtain ⟨q, hq, hqle⟩ := opt_le h2 hs _ fr p.1 (Nat.le_refl _) (by omega) (.inl rfl) (lns_chn p.2 fr g1) g2'
   have hqb : q = b.1 := by
    unfold R at hq
    rw [hE] at hq
    exact (Option.some.inj hq).symm
   have h7 := fown_first h2 hs k p.2 (z - fr) fr b p.1 (Nat.le_refl _) (by omega) (Nat.le_refl _) (.inl rfl) hE g1 g2' (by omega)
   have h8 := h6 (by omega)
   have h9 := slt_total h8 h7
   show some (LB C O y fr z (z - fr) fr) = some (lns C O y fr p.2)
   rw [← h9, o2]
end
end Go.Proofs.Ytcnblneghbgjgaa.Pure
end
section
/- The document's Badness comes to the same number as the code's. -/
namespace Go.Proofs.Ytcnblneghbgjgaa.Pure
open Go.RowKit Go.Proofs.YtcnblneghbgjgaaW.PrintWords Go.Proofs.Ytcnblneghbgjgaa.F
open Ieee (Format Datum)
theorem rabs_eq {x : Nat} (h : x < 18446744073709551616) : rabs x = absb x := by
 rw [absb_eq h]
 unfold rabs
 by_cases hs : (x : Int) / 9223372036854775808 = 1
 ·rw [if_pos (by simp [hs])]
  show x ^^^ 2 ^ 63 = _
  obtain ⟨y, hy, hy2⟩ : ∃ y, x = 2 ^ 63 + y ∧ y < 2 ^ 63 := ⟨x - 2 ^ 63, by omega, by omega⟩
  subst hy
  rw [show (9223372036854775808 : Nat) = 2 ^ 63 from rfl, Nat.add_mod_left, Nat.mod_eq_of_lt hy2]
  refine Nat.eq_of_testBit_eq fun i => ?_
  rw [Nat.testBit_xor, Nat.testBit_two_pow]
  by_cases hi : 63 = i
  ·subst hi
   rw [Nat.testBit_two_pow_add_eq]
   simp
  ·rw [decide_eq_false hi, Bool.xor_false]
   rcases Nat.lt_or_ge i 63 with h1 | h1
   ·exact Nat.testBit_two_pow_add_gt (by omega) y
   ·have e1 : y.testBit i = false := Nat.testBit_lt_two_pow (Nat.lt_of_lt_of_le hy2 (Nat.pow_le_pow_right (by decide) h1))
    have e2 : (2 ^ 63 + y).testBit i = false := Nat.testBit_lt_two_pow (Nat.lt_of_lt_of_le (show 2 ^ 63 + y < 2 ^ 64 from by omega) (Nat.pow_le_pow_right (by decide) (by omega)))
    rw [e1, e2]
 ·rw [if_neg (by simp [hs])]
  omega
theorem rcube_eq {x : Nat} (h : x < 18446744073709551616) : rcube x = cube x := by unfold rcube cube; rw [rabs_eq h]
theorem read_int {n : Nat} (h1 : 1 ≤ n) (h2 : n ≤ 10000) : ∃ L : Nat, L ≤ 13 ∧ dbl.read (floatOfInt .f64 (n : Int)) = .number false (n * 2 ^ (52 - L)) ((L : Int) - 52) := by
 obtain ⟨L, hL⟩ : ∃ L, L = n.log2 := ⟨_, rfl⟩
 have hlo : 2 ^ L ≤ n := by rw [hL]; exact Nat.log2_self_le (by omega)
 have hhi : n < 2 ^ (L + 1) := by rw [hL]; exact Nat.lt_log2_self
 have hl : L ≤ 13 := by
  rcases Nat.lt_or_ge 13 L with h | h
  ·have := Nat.pow_le_pow_right (show 0 < 2 from by decide) (show 14 ≤ L from h)
   have : (2 : Nat) ^ 14 = 16384 := rfl
   omega
  ·exact h
 refine ⟨L, hl, ?_⟩
 have hk1 : 4503599627370496 ≤ n * 2 ^ (52 - L) := by
  calc (4503599627370496 : Nat) = 2 ^ L * 2 ^ (52 - L) := by rw [← Nat.pow_add, show L + (52 - L) = 52 from by omega]
   _ ≤ _ := Nat.mul_le_mul_right _ hlo
 have hk2 : n * 2 ^ (52 - L) < 9007199254740992 := by
  calc n * 2 ^ (52 - L) < 2 ^ (L + 1) * 2 ^ (52 - L) := Nat.mul_lt_mul_of_pos_right hhi (Nat.two_pow_pos _)
   _ = 9007199254740992 := by rw [← Nat.pow_add, show L + 1 + (52 - L) = 53 from by omega]
 have hw : floatOfInt .f64 (n : Int) = (L + 1022) * 4503599627370496 + n * 2 ^ (52 - L) := by
  unfold floatOfInt FloatKind.nearest FloatKind.encode Format.write
  show Format.nearest dbl (decide ((n : Int) < 0)) (n : Int).natAbs 0 = _
  rw [show decide ((n : Int) < 0) = false from by simp, Int.natAbs_natCast]
  unfold Format.nearest Format.word
  rw [if_neg (by omega), ← hL]
  have e1 : (dbl.fractionBits : Int) = 52 := rfl
  have e2 : dbl.leastPlace = -1074 := rfl
  simp only [e1, e2, Bool.false_eq_true, if_false, d_bi, d_ir]
  rw [show max (0 + (L : Int) - 52) (-1074) = (L : Int) - 52 from by omega, show ((L : Int) - 52 - -1074).toNat = L + 1022 from by omega,
   show (0 - ((L : Int) - 52)).toNat = 52 - L from by omega, show ((L : Int) - 52 - 0).toNat = 0 from by omega]
  unfold Ieee.Toward.cut
  simp only [Nat.zero_min, Nat.shiftLeft_zero, Nat.div_one, Nat.mod_one]
  rw [Nat.shiftLeft_eq]
  simp
  omega
 generalize n * 2 ^ (52 - L) = K at *
 have hr : ((L + 1022) * 4503599627370496 + K) % 9223372036854775808 = (L + 1022) * 4503599627370496 + K := Nat.mod_eq_of_lt (by omega)
 have hd : ((L + 1022) * 4503599627370496 + K) / 9223372036854775808 = 0 := Nat.div_eq_of_lt (by omega)
 rw [hw]
 unfold Format.read
 simp only [d_sw, d_bi, d_ir, hr, hd]
 rw [if_neg (by omega), if_pos (by omega)]
 have e2 : dbl.leastPlace = -1074 := rfl
 rw [e2, show ((L + 1022) * 4503599627370496 + K) / 4503599627370496 - 1 = L + 1022 from by omega, show 4503599627370496 + ((L + 1022) * 4503599627370496 + K) % 4503599627370496 = K from by omega,
  show (-1074 : Int) + ((L + 1022 : Nat) : Int) = (L : Int) - 52 from by omega]
 rfl
theorem floor_cut (m d : Nat) : Ieee.Toward.cut .zero false m d = m / 2 ^ d := by
 unfold Ieee.Toward.cut
 simp only [Bool.toNat_false, Nat.add_zero]
 rw [pow_cut]
 rcases Nat.le_total d (m.log2 + 2) with h1 | h1
 ·rw [Nat.min_eq_left h1]
 ·rw [Nat.min_eq_right h1]
  have h2 : m < 2 ^ (m.log2 + 2) := Nat.lt_trans (Nat.lt_log2_self) (Nat.pow_lt_pow_right (by decide) (by omega))
  have h3 : m < 2 ^ d := Nat.lt_of_lt_of_le h2 (Nat.pow_le_pow_right (by decide) h1)
  rw [Nat.div_eq_of_lt h2, Nat.div_eq_of_lt h3]
theorem le_trunc {z n : Nat} {v : Int} (hz : z ≤ 9218868437227405312) (hv : floatToIntVal .f64 z .i64 = some v) (h1 : 1 ≤ n) (h2 : n ≤ 10000) :
  (dbl.order (floatOfInt .f64 (n : Int)) z = some .lt ∨ dbl.order (floatOfInt .f64 (n : Int)) z = some .eq) ↔ (n : Int) ≤ v := by
 obtain ⟨L, hl, hr⟩ := read_int h1 h2
 rcases read_pos hz with ⟨m, e, e1⟩ | e1
 ·have hv' : v = ((m * 2 ^ e.toNat / 2 ^ (-e).toNat : Nat) : Int) := by
   unfold floatToIntVal FloatKind.decode at hv
   rw [show FloatKind.f64.format.read z = _ from e1] at hv
   simp only [Datum.toInt, Datum.integral, floor_cut, Ieee.signed, Bool.false_eq_true, if_false, Nat.shiftLeft_eq] at hv
   split at hv
   ·simpa using (Option.some.inj hv).symm
   ·cases hv
  have ho : dbl.order (floatOfInt .f64 (n : Int)) z = some (compare ((n * 2 ^ (52 - L) * 2 ^ ((L : Int) - 52 - min ((L : Int) - 52) e).toNat : Nat) : Int) ((m * 2 ^ (e - min ((L : Int) - 52) e).toNat : Nat) : Int)) := by
   unfold Format.order
   rw [hr, e1]
   simp only [Datum.order, Ieee.signed, Bool.false_eq_true, if_false, Nat.shiftLeft_eq]
  rw [ho, hv']
  have hle : (some (compare ((n * 2 ^ (52 - L) * 2 ^ ((L : Int) - 52 - min ((L : Int) - 52) e).toNat : Nat) : Int) ((m * 2 ^ (e - min ((L : Int) - 52) e).toNat : Nat) : Int)) = some Ordering.lt ∨
    some (compare ((n * 2 ^ (52 - L) * 2 ^ ((L : Int) - 52 - min ((L : Int) - 52) e).toNat : Nat) : Int) ((m * 2 ^ (e - min ((L : Int) - 52) e).toNat : Nat) : Int)) = some Ordering.eq) ↔
    n * 2 ^ (52 - L) * 2 ^ ((L : Int) - 52 - min ((L : Int) - 52) e).toNat ≤ m * 2 ^ (e - min ((L : Int) - 52) e).toNat := by
   generalize n * 2 ^ (52 - L) * 2 ^ ((L : Int) - 52 - min ((L : Int) - 52) e).toNat = A
   generalize m * 2 ^ (e - min ((L : Int) - 52) e).toNat = B
   simp only [Option.some.injEq, Int.compare_eq_lt, Int.compare_eq_eq]
   omega
  rw [hle, Int.ofNat_le, Nat.le_div_iff_mul_le (Nat.two_pow_pos _), Nat.mul_assoc n, ← Nat.pow_add]
  rcases Int.le_total e 0 with h0 | h0
  ·rw [show e.toNat = 0 from by omega, Nat.pow_zero, Nat.mul_one]
   rw [show 52 - L + ((L : Int) - 52 - min ((L : Int) - 52) e).toNat = (-e).toNat + (e - min ((L : Int) - 52) e).toNat from by omega, Nat.pow_add, ← Nat.mul_assoc]
   exact ⟨fun h => Nat.le_of_mul_le_mul_right h (Nat.two_pow_pos _), fun h => Nat.mul_le_mul_right _ h⟩
  ·rw [show (-e).toNat = 0 from by omega, Nat.pow_zero, Nat.mul_one]
   rw [show 52 - L + ((L : Int) - 52 - min ((L : Int) - 52) e).toNat = 52 - L from by omega, show (e - min ((L : Int) - 52) e).toNat = e.toNat + (52 - L) from by omega, Nat.pow_add, ← Nat.mul_assoc]
   exact ⟨fun h => Nat.le_of_mul_le_mul_right h (Nat.two_pow_pos _), fun h => Nat.mul_le_mul_right _ h⟩
 ·unfold floatToIntVal FloatKind.decode at hv
  rw [show FloatKind.f64.format.read z = _ from e1] at hv
  simp [Datum.toInt, Datum.integral] at hv
theorem rbad_l0 {z : Nat} {v : Int} (hz : z ≤ 9218868437227405312) (hv : floatToIntVal .f64 z .i64 = some v) (h0 : 0 ≤ v) (h9 : v ≤ 9999) : ∀ (d n : Nat), (n : Int) + d = v →
  Ev (fun k => r2_Badness.l0 k z (n : Int)) v := by
 intro d
 induction d with
 | zero =>
  intro n hn
  have := mt (le_trunc hz hv (n := n + 1) (by omega) (by omega)).1 (by omega)
  refine Ev.step (fun k => by unfold r2_Badness.l0; rfl) (ev_neg ?_ (ev_ret (by omega)))
  rw [show wrap64 ((n : Int) + 1) = ((n + 1 : Nat) : Int) from by rw [w64 (by omega) (by omega)]; rfl]
  simpa using this
 | succ d ih =>
  intro n hn
  have := (le_trunc hz hv (n := n + 1) (by omega) (by omega)).2 (by omega)
  refine Ev.step (fun k => by unfold r2_Badness.l0; rfl) (ev_pos ?_ ?_)
  ·rw [show wrap64 ((n : Int) + 1) = ((n + 1 : Nat) : Int) from by rw [w64 (by omega) (by omega)]; rfl]
   simpa using this
  ·rw [show wrap64 ((n : Int) + 1) = ((n + 1 : Nat) : Int) from by rw [w64 (by omega) (by omega)]; rfl]
   exact ih (n + 1) (by omega)
theorem rbad_ev {x : Nat} (h : x < 18446744073709551616) : Ev (fun k => r2_Badness.f k x) (bdn x) := by
 unfold r2_Badness.f bdn ratio_Badness.f
 rw [rcube_eq h]
 by_cases hn : isNan x = true
 ·rw [if_pos hn]
  exact ev_pos hn (Ev.now _)
 ·rw [if_neg hn]
  refine ev_neg hn ?_
  have ha := abs_le h (by simpa using hn)
  have hc : Pos (cube x) := fop_pos (fop_pos (fop_pos (.inl (by decide)) ha) ha) ha
  cases ho : FloatKind.f64.format.order (cube x) 4666723172467343360 with
  | none =>
   refine ev_neg (by simp) ?_
   rw [if_neg (by simp)]
   by_cases hnn : isNan (cube x) = true
   ·exact ev_pos hnn (Ev.now _)
   ·exfalso
    rcases hc with hc | hc
    ·unfold Format.order at ho
     rw [show dbl.read 4666723172467343360 = _ from ten_k] at ho
     rcases read_pos hc with ⟨m, e, e1⟩ | e1 <;> (rw [show FloatKind.f64.format.read (cube x) = _ from e1] at ho; simp [Datum.order] at ho)
    ·rw [hc] at hnn; exact hnn nan_B
  | some o =>
   have hnn : isNan (cube x) = false := by
    cases hnn : isNan (cube x) with
    | false => rfl
    | true => rw [order_nan_l hnn] at ho; cases ho
   cases o with
   | lt =>
    refine ev_neg (by simp) (ev_neg (by simp [hnn]) ?_)
    rw [if_pos (by simp)]
    rcases hc with hc | hc
    ·obtain ⟨n, h1, h2, h3⟩ := trunc_ok hc ho
     rw [h1]
     show Ev _ n
     have := rbad_l0 hc h1 h2 h3 n.toNat 0 (by omega)
     exact this
    ·rw [hc, nan_B] at hnn; cases hnn
   | eq => rw [if_neg (by simp)]; exact ev_pos (by simp) (Ev.now _)
   | gt => rw [if_neg (by simp)]; exact ev_pos (by simp) (Ev.now _)
end Go.Proofs.Ytcnblneghbgjgaa.Pure
end
section
/- The document's Gaps comes to the plain number of spaces. -/
namespace Go.Proofs.Ytcnblneghbgjgaa.Pure
open Go.RowKit Go.Proofs.YtcnblneghbgjgaaW.PrintWords Go.Proofs.Ytcnblneghbgjgaa.F
theorem rgaps_l0 {C : List S66} (g : Good C) (O : List Int) (fr n : Nat) (h : fr + n ≤ C.length) : ∀ (d i : Nat), i + d = trm C fr n →
  Ev (fun k => r3_Gaps.l0 k (fr : Int) ((fr + n : Nat) : Int) (spc C fr i : Int) ((fr + i : Nat) : Int) C O) (gap C fr n : Int) := by
 have hg := g.len
 have ht := trm_le C fr n
 intro d
 induction d with
 | zero =>
  intro i hi
  refine Ev.step (fun k => by unfold r3_Gaps.l0; rfl) (ev_bind (rtrim_ev g O fr n h) ?_)
  refine ev_neg (by omega) (ev_ret ?_)
  rw [show i = trm C fr n from by omega]
  rfl
 | succ d ih =>
  intro i hi
  have hs := spc_le C fr i
  refine Ev.step (fun k => by unfold r3_Gaps.l0; rfl) (ev_bind (rtrim_ev g O fr n h) ?_)
  refine ev_pos (by omega) (ev_pos (by omega) (ev_pos (by omega) ?_))
  rw [rd_cl, show wrap64 (((fr + i : Nat) : Int) + 1) = ((fr + (i + 1) : Nat) : Int) from by rw [w64 (by omega) (by omega)]; omega]
  by_cases hk : (cl C (fr + i)).f3 = 1
  ·refine ev_pos hk ?_
   rw [show wrap64 ((spc C fr i : Int) + 1) = ((spc C fr (i + 1) : Nat) : Int) from by rw [w64 (by omega) (by omega)]; simp [spc, hk]]
   exact ih (i + 1) (by omega)
  ·refine ev_neg hk ?_
   rw [show spc C fr i = spc C fr (i + 1) from by simp [spc, hk]]
   exact ih (i + 1) (by omega)
theorem rgaps_ev {C : List S66} (g : Good C) (O : List Int) (fr n : Nat) (h : fr + n ≤ C.length) :
  Ev (fun k => r3_Gaps.f k C O (fr : Int) ((fr + n : Nat) : Int)) (gap C fr n : Int) := by
 unfold r3_Gaps.f
 exact rgaps_l0 g O fr n h (trm C fr n) 0 (by omega)
end Go.Proofs.Ytcnblneghbgjgaa.Pure
end
section
/- The document's Cost comes to the plain cost of a line. -/
namespace Go.Proofs.Ytcnblneghbgjgaa.Pure
open Go.RowKit Go.Proofs.YtcnblneghbgjgaaW.PrintWords Go.Proofs.Ytcnblneghbgjgaa.F
theorem rcost_j1 {y : Wy} (k : WyOk y) (C : List S66) {O : List Int} {a b : Nat} (ha : a < O.length) (hb : b < O.length) {x : Int} (hx : 0 ≤ x ∧ x ≤ 10000) (m3 : Int) :
  Ev (fun q => r3_Cost.j1 q (a : Int) (b : Int) x C O y.w y.t m3 y.h y.p y.lo) ((10 + x) * (10 + x) + hyp y (op O a) (op O b), true) := by
 have hh := k.h
 have hp := k.p
 have h1 : x * x ≤ 10000 * 10000 := Int.mul_le_mul (by omega) (by omega) (by omega) (by omega)
 have h0 : 0 ≤ x * x := Int.mul_nonneg (by omega) (by omega)
 have e0 : (10 + x) * (10 + x) = 100 + 20 * x + x * x := by
  rw [Int.add_mul, Int.mul_add, Int.mul_add, Int.mul_comm x 10]
  omega
 rw [e0]
 refine Ev.step (fun k => by unfold r3_Cost.j1; rfl) (ev_pos (by omega) (ev_pos (by omega) ?_))
 rw [rd_op, rd_op, w64 (x := x * x) (by omega) (by omega), w64 (x := 20 * x) (by omega) (by omega), w64 (x := 100 + 20 * x) (by omega) (by omega), w64 (x := 100 + 20 * x + x * x) (by omega) (by omega)]
 clear e0
 generalize x * x = s at *
 by_cases hb3 : op O b = 3
 ·refine ev_pos hb3 (ev_pos (by omega) (ev_pos (by omega) ?_))
  rw [w64 (x := 100 + 20 * x + s + y.h) (by omega) (by omega)]
  by_cases ha3 : op O a = 3
  ·rw [w64 (x := 100 + 20 * x + s + y.h + y.p) (by omega) (by omega), show hyp y (op O a) (op O b) = y.h + y.p from by simp [hyp, hb3, ha3], ← Int.add_assoc]
   exact ev_pos ha3 (Ev.now _)
  ·rw [show hyp y (op O a) (op O b) = y.h from by simp [hyp, hb3, ha3]]
   exact ev_neg ha3 (Ev.now _)
 ·rw [show hyp y (op O a) (op O b) = 0 from by simp [hyp, hb3], Int.add_zero]
  exact ev_neg hb3 (Ev.now _)
theorem rcost_ev {C : List S66} (g : Good C) {O : List Int} (hO : O.length = C.length + 1) {y : Wy} (k : WyOk y) (m3 : Int) {a b : Nat} (ha : a ≤ C.length) (hb : b ≤ C.length) (last : Bool) :
  Ev (fun q => r3_Cost.f q C O (a : Int) (b : Int) last y.w y.t m3 y.h y.p y.lo) (encP (pc C O y a b last)) := by
 have hg := g.len
 have hw := k.w
 unfold r3_Cost.f pc
 by_cases hba : b ≤ a
 ·rw [if_pos (.inl hba)]
  refine ev_pos (by omega) ?_
  exact Ev.step (fun k => by unfold r3_Cost.j0; rfl) (ev_pos rfl (Ev.now _))
 ·refine ev_neg (by omega) (ev_pos (by omega) (ev_pos (by omega) ?_))
  rw [rd_op]
  by_cases hb0 : op O b = 0
  ·rw [if_pos (.inr hb0)]
   exact Ev.step (fun k => by unfold r3_Cost.j0; rfl) (ev_pos (by simp [hb0]) (Ev.now _))
  ·rw [if_neg (by omega)]
   have h1 := rcells_ev g O a (b - a) (op O b) k.t (by omega)
   have h2 := rgaps_ev g O a (b - a) (by omega)
   rw [show a + (b - a) = b from by omega] at h1 h2
   have hc := cel_bd g a (b - a) (op O b) k.t
   refine Ev.step (fun k => by unfold r3_Cost.j0; rfl) (ev_neg (by simp [hb0]) (ev_pos (by omega) (ev_pos (by omega) ?_)))
   rw [rd_op]
   refine ev_bind h1 ?_
   unfold prc
   by_cases hn : cel C a (b - a) (op O b) y.t > y.w
   ·rw [if_pos hn]
    exact ev_pos hn (Ev.now _)
   rw [if_neg hn]
   refine ev_neg hn ?_
   by_cases hl : last = true
   ·rw [if_pos hl]
    refine ev_pos hl ?_
    exact rcost_j1 k C (by omega) (by omega) (x := 0) (by omega) m3
   rw [if_neg hl]
   refine ev_neg hl (ev_bind h2 ?_)
   rw [w64 (x := y.w - cel C a (b - a) (op O b) y.t) (by omega) (by omega)]
   refine ev_bind' (a := lsn y.w (cel C a (b - a) (op O b) y.t) (gap C a (b - a) : Int)) rfl ?_
   have hbd := bdn_bd (lsn_lt y.w (cel C a (b - a) (op O b) y.t) (gap C a (b - a) : Int))
   have hrb := rbad_ev (lsn_lt y.w (cel C a (b - a) (op O b) y.t) (gap C a (b - a) : Int))
   generalize lsn y.w (cel C a (b - a) (op O b) y.t) (gap C a (b - a) : Int) = r at *
   unfold fits
   by_cases hf : (FloatKind.f64.format.order r y.lo == some .gt) = true
   ·rw [if_neg (by simp [hf])]
    exact ev_pos hf (Ev.now _)
   ·rw [if_pos (by simpa using hf)]
    exact ev_neg hf (ev_bind hrb (rcost_j1 k C (by omega) (by omega) ⟨hbd.1, hbd.2.1⟩ m3))
end Go.Proofs.Ytcnblneghbgjgaa.Pure
end
section
/- The document's Best comes to the plain choice's lines. -/
namespace Go.Proofs.Ytcnblneghbgjgaa.Pure
open Go.RowKit Go.Proofs.YtcnblneghbgjgaaW.PrintWords Go.Proofs.Ytcnblneghbgjgaa.F
theorem before_l0 {a b : List Nat} (ha : a.length ≤ 10000) : ∀ (d i : Nat), i + d = a.length → i ≤ b.length →
  Ev (fun k => r3_before.l0 k (bds a) (bds b) (i : Int)) (slt (a.drop i) (b.drop i)) := by
 have hal := bds_len a
 have hbl := bds_len b
 intro d
 induction d with
 | zero =>
  intro i hi hb
  refine Ev.step (fun k => by unfold r3_before.l0; rfl) (ev_neg (by omega) ?_)
  refine Ev.step (fun k => by unfold r3_before.j1; rfl) (ev_neg (by decide) (ev_ret ?_))
  rw [List.drop_of_length_le (show a.length ≤ i from by omega)]
  rcases Nat.eq_or_lt_of_le hb with h | h
  ·rw [List.drop_of_length_le (show b.length ≤ i from by omega)]
   exact decide_eq_false (by omega)
  ·rw [List.drop_eq_getElem_cons h]
   exact decide_eq_true (by omega)
 | succ d ih =>
  intro i hi hb
  have hlt : i < a.length := by omega
  refine Ev.step (fun k => by unfold r3_before.l0; rfl) (ev_pos (by omega) ?_)
  rcases Nat.eq_or_lt_of_le hb with h | h
  ·refine Ev.step (fun k => by unfold r3_before.j1; rfl) (ev_neg (by simp; omega) (ev_ret ?_))
   rw [List.drop_of_length_le (show b.length ≤ i from by omega), List.drop_eq_getElem_cons hlt]
   exact decide_eq_false (by omega)
  ·have e1 := (bds_at (List.drop_eq_getElem_cons hlt)).2.1
   have e2 := (bds_at (List.drop_eq_getElem_cons h)).2.1
   have ih' := ih (i + 1) (by omega) h
   refine Ev.step (fun k => by unfold r3_before.j1; rfl) (ev_pos (by simp; omega) (ev_pos (by omega) (ev_pos (by omega) (ev_pos (by omega) ?_))))
   rw [e1, e2, List.drop_eq_getElem_cons hlt, List.drop_eq_getElem_cons h, show wrap64 ((i : Int) + 1) = ((i + 1 : Nat) : Int) from by rw [w64 (by omega) (by omega)]; rfl]
   simp only [slt]
   by_cases he : a[i] = b[i]
   ·rw [if_pos he]
    exact ev_pos (by omega) ih'
   ·rw [if_neg he]
    refine ev_neg (by omega) (ev_ret ?_)
    rw [decide_eq_decide]
    omega
theorem before_ev {a b : List Nat} (ha : a.length ≤ 10000) : Ev (fun k => r3_before.f k (bds a) (bds b)) (slt a b) := by
 have := before_l0 (b := b) ha a.length 0 (by omega) (Nat.zero_le _)
 exact this
theorem rdl_set (xs : List (List Int)) (j m : Nat) (v : List Int) (h : j < xs.length) : rd_L7 (xs.set j v) (m : Int) = if m = j then v else rd_L7 xs (m : Int) := by
 show (xs.set j v).getD m [] = if m = j then v else xs.getD m []
 rw [List.getD_eq_getElem?_getD, List.getD_eq_getElem?_getD, List.getElem?_set]
 by_cases hm : m = j
 ·subst hm; simp [h]
 ·rw [if_neg (fun h => hm h.symm), if_neg hm]
theorem rdi_set (xs : List Int) (j m : Nat) (v : Int) (h : j < xs.length) : rd (xs.set j v) (m : Int) = if m = j then v else rd xs (m : Int) := by
 show (xs.set j v).getD m 0 = if m = j then v else xs.getD m 0
 rw [List.getD_eq_getElem?_getD, List.getD_eq_getElem?_getD, List.getElem?_set]
 by_cases hm : m = j
 ·subst hm; simp [h]
 ·rw [if_neg (fun h => hm h.symm), if_neg hm]
def Ent (sums : List Int) (en : List (List Int)) (fr j : Nat) : Option (Int × List Nat) → Prop
 | none => rd_L7 en ((j - fr : Nat) : Int) = []
 | some p => rd sums ((j - fr : Nat) : Int) = p.1 ∧ rd_L7 en ((j - fr : Nat) : Int) = bds p.2
structure TabF (fr z : Nat) (sums : List Int) (en : List (List Int)) (G : Nat → Option (Int × List Nat)) (k : Nat) (o : Option (Int × List Nat)) : Prop where
 ls : sums.length = z - fr + 1
 le : en.length = z - fr + 1
 old : ∀ j, fr ≤ j → j < k → Ent sums en fr j (G j)
 cur : Ent sums en fr k o
 new : ∀ j, k < j → j ≤ z → rd_L7 en ((j - fr : Nat) : Int) = []
theorem asc_ne {k i : Nat} {l : List Nat} (h : Asc k i l) (hi : i < k) : l ≠ [] := by
 cases l with
 | nil => have : i = k := h; omega
 | cons e r => simp
section
variable {C : List S66} (g : Good C) {O : List Int} (hO : O.length = C.length + 1) {y : Wy} (k : WyOk y) (md : Int) {fr z : Nat} (hfz : fr < z) (hz : z ≤ C.length)
include g hO k hfz hz
theorem fbest_l1 {b : Nat} (hb1 : fr < b) (hb2 : b ≤ z) {G : Nat → Option (Int × List Nat)} (hG0 : G fr = some (0, [])) (hG : ∀ j, fr ≤ j → j < b → Spec C O y fr z j (G j)) {T : List S54 × Bool}
  (H : ∀ sums en o, TabF fr z sums en G b o → Cur C O y fr z b b o → Ev (fun q => r3_Best.l0 q (fr : Int) (z : Int) sums en ((b + 1 : Nat) : Int) C O y.w y.t md y.h y.p y.lo) T) : ∀ (d i : Nat) (sums : List Int) (en : List (List Int)) (o : Option (Int × List Nat)), i + d = b → fr ≤ i → TabF fr z sums en G b o → Cur C O y fr z b i o →
  Ev (fun q => r3_Best.l1 q (fr : Int) (z : Int) sums en (b : Int) (i : Int) C O y.w y.t md y.h y.p y.lo) T := by
 have hg := g.len
 intro d
 induction d with
 | zero =>
  intro i sums en o hi hf hT hC
  obtain rfl : i = b := by omega
  refine Ev.step (fun k => by unfold r3_Best.l1; rfl) (ev_neg (by omega) ?_)
  rw [show wrap64 ((i : Int) + 1) = ((i + 1 : Nat) : Int) from by rw [w64 (by omega) (by omega)]; rfl]
  exact H sums en o hT hC
 | succ d ih =>
  intro i sums en o hi hf hT hC
  have hls := hT.ls
  have hle := hT.le
  have hSi := hG i hf (by omega)
  have hei := hT.old i hf (by omega)
  have hcost := rcost_ev g hO k md (a := i) (b := b) (by omega) (by omega) (b == z)
  have hj2 : ∀ s l, G i = some (s, l) → Ev (fun q => r3_Best.j2 q (fr : Int) (z : Int) sums en (b : Int) (i : Int) false C O y.w y.t md y.h y.p y.lo) T := by
   intro s l hGi
   rw [hGi] at hSi hei
   obtain ⟨hA, hs1, -⟩ := hSi.2 s l rfl
   have hsb := ez_bd k hA hs1
   have hll := asc_len hA
   obtain ⟨hrs, hrl⟩ := hei
   dsimp only at hrs hrl
   refine Ev.step (fun k => by unfold r3_Best.j2; rfl) (ev_neg (by decide) ?_)
   rw [beq_cast, show wrap64 ((i : Int) + 1) = ((i + 1 : Nat) : Int) from by rw [w64 (by omega) (by omega)]; rfl, show wrap64 ((i : Int) - (fr : Int)) = ((i - fr : Nat) : Int) from by rw [w64 (by omega) (by omega)]; omega,
    show wrap64 ((b : Int) - (fr : Int)) = ((b - fr : Nat) : Int) from by rw [w64 (by omega) (by omega)]; omega, hrs, hrl, Int.toNat_natCast]
   refine ev_bind hcost ?_
   cases hpc : pc C O y i b (b == z) with
   | none =>
    exact ev_neg (by simp [encP]) (ih (i + 1) sums en o (by omega) (by omega) hT (cur_skip hC (fun l s c _ _ h => by rw [hpc] at h; cases h)))
   | some c =>
    have hcb := pc_bd k hpc
    refine ev_pos rfl ?_
    have e1 : wrap64 (s + c) = s + c := w64 (by omega) (by omega)
    simp only [encP, e1]
    clear e1
    refine ev_pos (by omega) (ev_pos (by omega) (ev_let ?_))
    have hbl := bds_len l
    refine ev_pos (by omega) (ev_pos (by simp; omega) (ev_let (ev_pos (by simp; omega) (ev_let ?_))))
    have hy : ([] : List Int) ++ bds l ++ [(b : Int)] = bds (l ++ [b]) := by simp [bds]
    rw [hy]
    have hTk : TabF fr z (sums.set (b - fr) (s + c)) (en.set (b - fr) (bds (l ++ [b]))) G b (some (s + c, l ++ [b])) := by
     refine ⟨by simp [hls], by simp [hle], fun j h1 h2 => ?_, ⟨?_, ?_⟩, fun j h1 h2 => ?_⟩
     ·have := hT.old j h1 h2
      cases hGj : G j with
      | none =>
       rw [hGj] at this
       show rd_L7 _ _ = []
       rw [rdl_set _ _ _ _ (by omega), if_neg (by omega)]
       exact this
      | some p =>
       rw [hGj] at this
       refine ⟨?_, ?_⟩
       ·rw [rdi_set _ _ _ _ (by omega), if_neg (by omega)]; exact this.1
       ·rw [rdl_set _ _ _ _ (by omega), if_neg (by omega)]; exact this.2
     ·rw [rdi_set _ _ _ _ (by omega), if_pos rfl]
     ·rw [rdl_set _ _ _ _ (by omega), if_pos rfl]
     ·rw [rdl_set _ _ _ _ (by omega), if_neg (by omega)]
      exact hT.new j h1 h2
    have htake : (∀ s0 l0, o = some (s0, l0) → s + c ≤ s0 ∧ (s + c = s0 → slt (l ++ [b]) l0 = true)) →
      Ev (fun q => r3_Best.l1 q (fr : Int) (z : Int) (sums.set (b - fr) (s + c)) (en.set (b - fr) (bds (l ++ [b]))) (b : Int) ((i + 1 : Nat) : Int) C O y.w y.t md y.h y.p y.lo) T :=
     fun h => ih (i + 1) _ _ _ (by omega) (by omega) hTk (cur_take (by omega) hC hSi hpc h)
    refine ev_pos (by omega) (ev_pos (by omega) ?_)
    cases ho : o with
    | none =>
     have hcur := hT.cur
     rw [ho] at hcur
     have hcur' : rd_L7 en ((b - fr : Nat) : Int) = [] := hcur
     rw [hcur']
     exact ev_pos rfl (ev_pos (by omega) (htake (fun s0 l0 h => by rw [ho] at h; cases h)))
    | some p =>
     obtain ⟨s0, l0⟩ := p
     have hcur := hT.cur
     rw [ho] at hcur
     obtain ⟨c1, c2⟩ := hcur
     dsimp only at c1 c2
     obtain ⟨hA0, hs0, -⟩ := hC.2 s0 l0 ho
     have hne := asc_ne hA0 hb1
     have hl0 : 0 < l0.length := List.length_pos_iff.2 hne
     have hbl0 := bds_len l0
     have hll0 := asc_len hA0
     rw [c1, c2]
     refine ev_neg (by omega) (ev_pos (by omega) ?_)
     have hkeep : (s0 < s + c ∨ s0 = s + c ∧ slt (l ++ [b]) l0 = false) → Ev (fun q => r3_Best.l1 q (fr : Int) (z : Int) sums en (b : Int) ((i + 1 : Nat) : Int) C O y.w y.t md y.h y.p y.lo) T :=
      fun h => ih (i + 1) sums en o (by omega) (by omega) hT (cur_keep hC hSi hpc ho h)
     by_cases h1 : s + c < s0
     ·exact ev_pos h1 (htake (fun s0' l0' h => by rw [ho] at h; cases h; exact ⟨by omega, fun he => by omega⟩))
     refine ev_neg h1 ?_
     by_cases h3 : s + c = s0
     ·refine ev_pos h3 (ev_bind (before_ev (a := l ++ [b]) (b := l0) (by simp; omega)) ?_)
      cases hq : slt (l ++ [b]) l0 with
      | true => exact ev_pos rfl (htake (fun s0' l0' h => by rw [ho] at h; cases h; exact ⟨by omega, fun _ => hq⟩))
      | false => exact ev_neg (by decide) (hkeep (.inr ⟨h3.symm, hq⟩))
     ·exact ev_neg h3 (hkeep (.inl (by omega)))
  refine Ev.step (fun k => by unfold r3_Best.l1; rfl) (ev_pos (by omega) ?_)
  by_cases hif : i = fr
  ·refine ev_neg (by omega) ?_
   exact hj2 0 [] (by rw [hif]; exact hG0)
  ·rw [show wrap64 ((i : Int) - (fr : Int)) = ((i - fr : Nat) : Int) from by rw [w64 (by omega) (by omega)]; omega]
   refine ev_pos (by omega) (ev_pos (by omega) (ev_pos (by omega) ?_))
   cases hGi : G i with
   | none =>
    rw [hGi] at hei hSi
    have hei' : rd_L7 en ((i - fr : Nat) : Int) = [] := hei
    rw [hei']
    refine Ev.step (fun k => by unfold r3_Best.j2; rfl) (ev_pos rfl ?_)
    rw [show wrap64 ((i : Int) + 1) = ((i + 1 : Nat) : Int) from by rw [w64 (by omega) (by omega)]; rfl]
    exact ih (i + 1) sums en o (by omega) (by omega) hT (cur_skip hC (fun l s c h1 h2 _ => hSi.1 rfl l s h1 h2))
   | some p =>
    obtain ⟨s, l⟩ := p
    have hj := hj2 s l hGi
    rw [hGi] at hei hSi
    obtain ⟨hA, -, -⟩ := hSi.2 s l rfl
    have hne := asc_ne hA (by omega)
    have hl0 : 0 < l.length := List.length_pos_iff.2 hne
    have hbl := bds_len l
    have hei2 : rd_L7 en ((i - fr : Nat) : Int) = bds l := hei.2
    have hflag : (((rd_L7 en ((i - fr : Nat) : Int)).length : Int) == 0) = false := by
     rw [hei2, beq_eq_false_iff_ne]
     omega
    rw [hflag]
    exact hj
theorem fbest_l2 {en : List (List Int)} {es : List Nat} (hel : es.length ≤ 4000) (hle : en.length = z - fr + 1) (hen : rd_L7 en ((z - fr : Nat) : Int) = bds es) : ∀ (d i a : Nat) (acc : List S54), i + d = es.length → acc.length = i → fr ≤ a → Asc z a (es.drop i) →
  Ev (fun q => r3_Best.l2 q (fr : Int) (z : Int) en acc (a : Int) (i : Int) C O y.w y.t md y.h y.p y.lo) (acc ++ lns C O y a (es.drop i), true) := by
 have hg := g.len
 have hbl := bds_len es
 intro d
 induction d with
 | zero =>
  intro i a acc hi hacc _ _
  refine Ev.step (fun k => by unfold r3_Best.l2; rfl) ?_
  rw [show wrap64 ((z : Int) - (fr : Int)) = ((z - fr : Nat) : Int) from by rw [w64 (by omega) (by omega)]; omega] at *
  refine ev_pos (by omega) (ev_pos (by omega) ?_)
  rw [hen]
  refine ev_neg (by omega) (ev_ret ?_)
  rw [List.drop_of_length_le (by omega)]
  simp [lns]
 | succ d ih =>
  intro i a acc hi hacc hfa hA
  have hlt : i < es.length := by omega
  have hd := List.drop_eq_getElem_cons hlt
  have e1 := (bds_at hd).2.1
  rw [hd] at hA
  have h1 := hA.1
  have h2 := hA.2.1
  have hln := rline_ev g O a (es[i] - a) (op O es[i]) k.t (by omega)
  rw [show a + (es[i] - a) = es[i] from by omega] at hln
  have hal := asc_len hA.2.2
  have ih' := ih (i + 1) es[i] (acc ++ [mkln C a (es[i] - a) (op O es[i]) y.t]) (by omega) (by simp; omega) (by omega) hA.2.2
  have e2 : mkln C a (es[i] - a) (op O es[i]) y.t = ⟨(a : Int), (es[i] : Int), cel C a (es[i] - a) (op O es[i]) y.t, op O es[i]⟩ := by
   unfold mkln
   rw [show a + (es[i] - a) = es[i] from by omega]
  rw [List.append_assoc, List.singleton_append, show mkln C a (es[i] - a) (op O es[i]) y.t :: lns C O y es[i] (es.drop (i + 1)) = lns C O y a (es.drop i) from by rw [hd]; rfl, e2] at ih'
  refine Ev.step (fun k => by unfold r3_Best.l2; rfl) ?_
  rw [show wrap64 ((z : Int) - (fr : Int)) = ((z - fr : Nat) : Int) from by rw [w64 (by omega) (by omega)]; omega]
  refine ev_pos (by omega) (ev_pos (by omega) ?_)
  rw [hen, e1, rd_op, show wrap64 ((i : Int) + 1) = ((i + 1 : Nat) : Int) from by rw [w64 (by omega) (by omega)]; rfl]
  refine ev_pos (by omega) (ev_pos (by omega) (ev_pos (by omega) (ev_pos (by omega) (ev_bind hln (ev_pos (by omega) ?_)))))
  exact ih'
theorem fbest_l0 (h2 : op O z = 2) (hs : ∀ j, fr < j → j < z → op O j ≠ 2) : ∀ (d b : Nat) (sums : List Int) (en : List (List Int)) (G : Nat → Option (Int × List Nat)), b + d = z + 1 → fr < b → G fr = some (0, []) → (∀ j, fr ≤ j → j < b → Spec C O y fr z j (G j)) →
  sums.length = z - fr + 1 → en.length = z - fr + 1 → (∀ j, fr ≤ j → j < b → Ent sums en fr j (G j)) → (∀ j, b ≤ j → j ≤ z → rd_L7 en ((j - fr : Nat) : Int) = []) →
  Ev (fun q => r3_Best.l0 q (fr : Int) (z : Int) sums en (b : Int) C O y.w y.t md y.h y.p y.lo) (encL (BB C O y fr z)) := by
 have hg := g.len
 intro d
 induction d with
 | zero =>
  intro b sums en G hb hfb hG0 hG hls hle hE hN
  obtain rfl : b = z + 1 := by omega
  have hS := hG z (by omega) (by omega)
  have hEz := hE z (by omega) (by omega)
  have hBB := spec_BB h2 hs k hfz hS
  rw [hBB]
  refine Ev.step (fun k => by unfold r3_Best.l0; rfl) (ev_neg (by omega) ?_)
  rw [show wrap64 ((z : Int) - (fr : Int)) = ((z - fr : Nat) : Int) from by rw [w64 (by omega) (by omega)]; omega]
  refine ev_pos (by omega) (ev_pos (by omega) ?_)
  cases hGz : G z with
  | none =>
   rw [hGz] at hEz
   have hEz' : rd_L7 en ((z - fr : Nat) : Int) = [] := hEz
   rw [hEz']
   exact ev_pos rfl (Ev.now _)
  | some p =>
   obtain ⟨s, l⟩ := p
   rw [hGz] at hEz hS
   have hEz' : rd_L7 en ((z - fr : Nat) : Int) = bds l := hEz.2
   obtain ⟨hA, -, -⟩ := hS.2 s l rfl
   have hl0 : 0 < l.length := List.length_pos_iff.2 (asc_ne hA hfz)
   have hbl := bds_len l
   refine ev_neg (by rw [hEz']; omega) ?_
   have := fbest_l2 g hO k md hfz hz (by have := asc_len hA; omega) hle hEz' l.length 0 fr [] (by omega) rfl (Nat.le_refl _) hA
   exact this
 | succ d ih =>
  intro b sums en G hb hfb hG0 hG hls hle hE hN
  refine Ev.step (fun k => by unfold r3_Best.l0; rfl) (ev_pos (by omega) ?_)
  have hT : TabF fr z sums en G b none := ⟨hls, hle, hE, hN b (Nat.le_refl _) (by omega), fun j h1 h2 => hN j (by omega) h2⟩
  refine fbest_l1 g hO k md hfz hz hfb (by omega) hG0 hG (fun sums' en' o hT' hC' => ?_) (b - fr) fr sums en none (by omega) (Nat.le_refl _) hT (cur_zero b)
  refine ih (b + 1) sums' en' (fun j => if j = b then o else G j) (by omega) (by omega) (by rw [if_neg (by omega)]; exact hG0) (fun j h1 h2 => ?_) hT'.ls hT'.le (fun j h1 h2 => ?_) (fun j h1 h2 => hT'.new j (by omega) h2)
  ·by_cases hj : j = b
   ·rw [if_pos hj, hj]; exact cur_spec hfb hC'
   ·rw [if_neg hj]; exact hG j h1 (by omega)
  ·by_cases hj : j = b
   ·rw [if_pos hj, hj]; exact hT'.cur
   ·rw [if_neg hj]; exact hT'.old j h1 (by omega)
end
theorem fbest_ev {C : List S66} (g : Good C) {O : List Int} (hO : O.length = C.length + 1) {y : Wy} (k : WyOk y) (md : Int) {fr z : Nat} (hz : z ≤ C.length) (h2 : op O z = 2) (hs : ∀ j, fr < j → j < z → op O j ≠ 2) :
  Ev (fun q => r3_Best.f q C O (fr : Int) (z : Int) y.w y.t md y.h y.p y.lo) (encL (BB C O y fr z)) := by
 have hg := g.len
 unfold r3_Best.f
 by_cases h : z ≤ fr
 ·unfold BB
  rw [if_pos h]
  exact ev_pos (by omega) (Ev.now _)
 ·refine ev_neg (by omega) ?_
  rw [w64 (x := (z : Int) - (fr : Int)) (by omega) (by omega), show wrap64 ((z : Int) - (fr : Int) + 1) = ((z - fr + 1 : Nat) : Int) from by rw [w64 (by omega) (by omega)]; omega, Int.toNat_natCast, show wrap64 ((fr : Int) + 1) = ((fr + 1 : Nat) : Int) from by rw [w64 (by omega) (by omega)]; rfl]
  refine ev_pos (by omega) (ev_pos (by omega) (ev_pos (by omega) ?_))
  have hrl : ∀ m : Nat, rd_L7 (List.replicate (z - fr + 1) []) (m : Int) = [] := by
   intro m
   show (List.replicate (z - fr + 1) ([] : List Int)).getD m [] = []
   rw [List.getD_eq_getElem?_getD, List.getElem?_replicate]
   split <;> rfl
  refine fbest_l0 g hO k md (by omega) hz h2 hs (z - fr) (fr + 1) _ _ (fun _ => some (0, [])) (by omega) (by omega) rfl (fun j h1 h2 => ?_) List.length_replicate List.length_replicate (fun j h1 h2 => ⟨?_, hrl _⟩) (fun j h1 h2 => hrl _)
  ·obtain rfl : j = fr := by omega
   exact spec_fr
  ·obtain rfl : j = fr := by omega
   show (List.replicate (z - j + 1) (0 : Int)).getD (j - j) 0 = 0
   rw [List.getD_eq_getElem?_getD, List.getElem?_replicate]
   split <;> rfl
end Go.Proofs.Ytcnblneghbgjgaa.Pure
end
section
/- The document's Break of all parts, by any mode, comes to the plain lines. -/
namespace Go.Proofs.Ytcnblneghbgjgaa.Pure
open Go.RowKit Go.Proofs.YtcnblneghbgjgaaW.PrintWords Go.Proofs.Ytcnblneghbgjgaa.F
section
variable {C : List S66} (g : Good C) {O : List Int} (hO : O.length = C.length + 1) {y : Wy} (k : WyOk y) (md : Int) (hmd : md = 0 ∨ md = 1)
include g hO k hmd
theorem rpart_ev {fr z : Nat} (hf : fr ≤ z) (hz : z ≤ C.length) (h2 : op O z = 2) (hs : ∀ i, fr < i → i < z → op O i ≠ 2) :
  Ev (fun q => r3_Part.f q C O (fr : Int) (z : Int) y.w y.t md y.h y.p y.lo) (PA C O y md fr z) := by
 have h1 := rfirst_ev g hO (w := y.w) k.t md y.h y.p y.lo hf hz
 unfold r3_Part.f PA
 by_cases hm : md = 1
 ·rw [if_pos hm]
  refine ev_neg (by omega) (ev_bind (fbest_ev g hO k md hz h2 hs) ?_)
  cases BB C O y fr z with
  | none => exact ev_neg (by simp [encL]) (ev_bind h1 (Ev.now _))
  | some L => exact ev_pos rfl (Ev.now _)
 ·rw [if_neg hm]
  exact ev_pos (by omega) (ev_bind h1 (Ev.now _))
theorem rlines_l0 (L : List Nat) (hL : L.length ≤ 4001) : ∀ (r : List Nat) (i fr : Nat) (acc : List S54) (s : Bool), L.drop i = r → Sec O C.length fr r → acc.length ≤ fr →
  Ev (fun q => r3_Break.l0 q acc s (fr : Int) (bds L) (i : Int) C O y.w y.t md y.h y.p y.lo) (acc ++ LN C O y md fr r, s || LS C O y md fr r) := by
 have hg := g.len
 intro r
 induction r with
 | nil =>
  intro i fr acc s hi _ _
  have := bds_end hi
  refine Ev.step (fun k => by unfold r3_Break.l0; rfl) (ev_neg (by rw [bds_len]; omega) (ev_ret ?_))
  simp [LN, LS]
 | cons z r ih =>
  intro i fr acc s hi hr ha
  obtain ⟨hlt, e1, hd⟩ := bds_at hi
  obtain ⟨h1, h2, h3, h4, h5⟩ := hr
  have hlen := PA_len C O k md fr z
  refine Ev.step (fun k => by unfold r3_Break.l0; rfl) (ev_pos (by rw [bds_len]; omega) (ev_pos (by omega) ?_))
  rw [e1, show wrap64 ((i : Int) + 1) = ((i + 1 : Nat) : Int) from by rw [w64 (by omega) (by omega)]; rfl]
  refine ev_bind (rpart_ev g hO k md hmd h1 h2 h3 h4) (ev_pos (by omega) (ev_let ?_))
  have ih' := ih (i + 1) z (acc ++ (PA C O y md fr z).1) (s || (PA C O y md fr z).2) hd h5 (by rw [List.length_append]; omega)
  rw [List.append_assoc, Bool.or_assoc] at ih'
  cases s with
  | true => exact ev_pos rfl ih'
  | false => exact ev_neg (by decide) ih'
theorem rlines_ev (hl : C.length ≤ 4000) : Ev (fun q => r3_Break.f q C O y.w y.t md y.h y.p y.lo) (LN C O y md 0 (PT O), LS C O y md 0 (PT O)) := by
 have hP := PT_len O
 unfold r3_Break.f
 refine ev_bind (rparts_ev C (by omega)) ?_
 have := rlines_l0 g hO k md hmd (PT O) (by omega) (PT O) 0 0 [] false rfl (sec_PT hO) (Nat.zero_le _)
 exact this
end
end Go.Proofs.Ytcnblneghbgjgaa.Pure
end
section
/- A list of lines is the same as itself. -/
namespace Go.Proofs.Ytcnblneghbgjgaa.Pure
open Go.RowKit Go.Proofs.YtcnblneghbgjgaaW.PrintWords Go.Proofs.Ytcnblneghbgjgaa.F
theorem samel_l0 (a : List S54) (h : a.length ≤ 1000000) : ∀ (d i : Nat), i + d = a.length → Ev (fun k => r3_SameLines.l0 k a a (i : Int)) true := by
 intro d
 induction d with
 | zero =>
  intro i hi
  exact Ev.step (fun k => by unfold r3_SameLines.l0; rfl) (ev_neg (by omega) (Ev.now _))
 | succ d ih =>
  intro i hi
  refine Ev.step (fun k => by unfold r3_SameLines.l0; rfl) (ev_pos (by omega) (ev_pos (by omega) (ev_pos (by omega) (ev_neg (by simp) ?_))))
  rw [show wrap64 ((i : Int) + 1) = ((i + 1 : Nat) : Int) from by rw [w64 (by omega) (by omega)]; rfl]
  exact ih (i + 1) (by omega)
theorem samel_ev (a : List S54) (h : a.length ≤ 1000000) : Ev (fun k => r3_SameLines.f k a a) true := by
 unfold r3_SameLines.f
 exact ev_pos rfl (samel_l0 a h a.length 0 (by omega))
end Go.Proofs.Ytcnblneghbgjgaa.Pure
end
section
/- LinesBreaks: any text in lines, by any way; its rows: as the document has them. -/
namespace Go.Proofs.Ytcnblneghbgjgaa.Pure
open Go.RowKit Go.Proofs.YtcnblneghbgjgaaW.PrintWords Go.Proofs.Ytcnblneghbgjgaa.F
theorem samey_l0 (a : List S53) (h : a.length ≤ 1000000) : ∀ (d i : Nat), i + d = a.length → Ev (fun k => r3_SameLayouts.l0 k (i : Int) a false a false) true := by
 intro d
 induction d with
 | zero =>
  intro i hi
  exact Ev.step (fun k => by unfold r3_SameLayouts.l0; rfl) (ev_neg (by omega) (Ev.now _))
 | succ d ih =>
  intro i hi
  refine Ev.step (fun k => by unfold r3_SameLayouts.l0; rfl) (ev_pos (by omega) (ev_pos (by omega) (ev_pos (by omega) (ev_neg (by simp) ?_))))
  rw [show wrap64 ((i : Int) + 1) = ((i + 1 : Nat) : Int) from by rw [w64 (by omega) (by omega)]; rfl]
  exact ih (i + 1) (by omega)
theorem samey_ev (a : List S53) (h : a.length ≤ 1000000) : Ev (fun k => r3_SameLayouts.f k a false a false) true := by
 unfold r3_SameLayouts.f
 refine ev_pos rfl (Ev.step (fun k => by unfold r3_SameLayouts.j0; rfl) (ev_neg (by decide) ?_))
 exact samey_l0 a h a.length 0 (by omega)
theorem rrows_l0 {l : List S63} (hl : l.length ≤ 1000) {t : Int} (O : List Int) {M : List S54} (hM : M.length ≤ 1000) (hne : M ≠ []) : ∀ (d i a : Nat) (acc : List S53), i + d = M.length → acc.length = i → Rws (CL l) t l.length a (M.drop i) →
  Ev (fun k => r3_Rows.l0 k M acc (i : Int) (CL l) O) (acc ++ (M.drop i).map (rowOf l)) := by
 have hc := CL_len l
 have hpos : 0 < M.length := List.length_pos_iff.2 hne
 intro d
 induction d with
 | zero =>
  intro i a acc hi hacc _
  refine Ev.step (fun k => by unfold r3_Rows.l0; rfl) (ev_neg (by omega) (ev_neg (by omega) (ev_ret ?_)))
  rw [List.drop_of_length_le (by omega), List.map_nil, List.append_nil]
 | succ d ih =>
  intro i a acc hi hacc hR
  have hlt : i < M.length := by omega
  have hd : M.drop i = M[i] :: M.drop (i + 1) := List.drop_eq_getElem_cons hlt
  rw [hd] at hR
  obtain ⟨m, e, h1, h2, h3, h4⟩ := hR
  have hrd : rd_T54 M (i : Int) = mkln (CL l) a m e t := by
   show M.getD i z54 = _
   rw [List.getD_eq_getElem?_getD, List.getElem?_eq_getElem hlt]; exact h1
  have ha := atl_bd l (a + m - 1)
  have m4 := mod4 (bit l (a + m - 1)).f2
  have hrow : rowOf l M[i] = ⟨atl l a, atl l (a + m), cel (CL l) a m e t, e⟩ := by
   rw [h1]
   unfold rowOf mkln
   dsimp only
   rw [Int.toNat_natCast, Int.toNat_natCast]
  have ih' := ih (i + 1) (a + m) (acc ++ [rowOf l M[i]]) (by omega) (by simp; omega) h4
  rw [List.append_assoc, List.singleton_append, ← List.map_cons, ← hd, hrow] at ih'
  have h5 : atl l (a + m - 1) + (1 + (bit l (a + m - 1)).f2 % 4) = atl l (a + m) := by
   rw [← atl_succ, show a + m - 1 + 1 = a + m from by omega]
  refine Ev.step (fun k => by unfold r3_Rows.l0; rfl) (ev_pos (by omega) (ev_pos (by omega) ?_))
  rw [hrd, show wrap64 ((mkln (CL l) a m e t).f1 - 1) = ((a + m - 1 : Nat) : Int) from by
   show wrap64 (((a + m : Nat) : Int) - 1) = _
   rw [w64 (by omega) (by omega)]; omega]
  rw [show (mkln (CL l) a m e t).f0 = (a : Int) from rfl, rd_cl, rd_cl, cl_CL (by omega), cl_CL (by omega), show wrap64 ((i : Int) + 1) = ((i + 1 : Nat) : Int) from by rw [w64 (by omega) (by omega)]; rfl]
  rw [show wrap64 ((clus l (a + m - 1)).f0 + (clus l (a + m - 1)).f1) = atl l (a + m) from by
   show wrap64 (atl l (a + m - 1) + (1 + (bit l (a + m - 1)).f2 % 4)) = _
   rw [h5]; exact w64 (by have := atl_bd l (a + m); omega) (by have := atl_bd l (a + m); omega)]
  refine ev_pos (by omega) (ev_pos (by omega) (ev_pos (by omega) (ev_pos (by omega) (ev_pos (by omega) ?_))))
  exact ih'
theorem LinesBreaks : l6_LinesBreaks.Pure := by
 intro l a b c d e lo hl hw
 obtain ⟨ha, hb, hc, hd, he⟩ := way_of hw
 refine Ev.rounds ?_
 unfold l6_LinesBreaks.f
 refine ev_bind awake16 (ev_pos rfl ?_)
 by_cases hlen : (l.length : Int) > 80
 ·exact ev_pos hlen (Ev.now _)
 refine ev_neg hlen ?_
 refine ev_bind (para_ev (by omega) (fun b hb => small_of (hl.2 b hb))) ?_
 refine ev_bind' (config_eq lo ha hb hc hd he) ?_
 dsimp only
 have g : Good (CL l) := good_CL (by omega)
 have hcl := CL_len l
 have hO : (OP l).length = (CL l).length + 1 := by rw [OP_len, CL_len]
 have k : WyOk ⟨1 + a, 1 + b % 64, d, e, lo⟩ := ⟨by dsimp only; omega, by dsimp only; omega, by dsimp only; omega, by dsimp only; omega⟩
 have hmd : c % 2 = 0 ∨ c % 2 = 1 := by omega
 refine ev_bind (lines_ev g hO k (c % 2) (by omega)) ?_
 refine ev_bind (rlines_ev g hO k (c % 2) hmd (by omega)) ?_
 refine ev_pos (by simp) ?_
 by_cases h0 : l.length = 0
 ·have hl0 : l = [] := List.length_eq_zero_iff.1 h0
  subst hl0
  have hcc : ∀ md, LN (CL []) (OP []) ⟨1 + a, 1 + b % 64, d, e, lo⟩ md 0 (PT (OP [])) = [] := by
   intro md
   show (PA (CL []) (OP []) ⟨1 + a, 1 + b % 64, d, e, lo⟩ md 0 0).1 ++ [] = []
   unfold PA
   split <;> rfl
  dsimp only
  rw [hcc]
  refine ev_bind (samel_ev [] (by decide)) (ev_pos rfl ?_)
  refine ev_bind (show Ev (fun q => lines_Rows.f q (CL []) (OP []) []) [⟨0, 0, 0, 2⟩] from by unfold lines_Rows.f; exact ev_pos (by decide) (Ev.now _)) ?_
  refine ev_bind (show Ev (fun q => r3_Rows.f q (CL []) (OP []) []) [⟨0, 0, 0, 2⟩] from by
   unfold r3_Rows.f
   exact Ev.step (fun k => by unfold r3_Rows.l0; rfl) (ev_neg (by decide) (ev_pos (by decide) (Ev.now _)))) ?_
  exact ev_bind (samey_ev _ (by decide)) (Ev.now _)
 ·have hop : op (OP l) 0 ≠ 2 := by
   rw [← rd_op, rd_OP (Nat.zero_le _)]
   unfold opp
   rw [if_neg (by omega), if_pos rfl]
   decide
  have hopn : op (OP l) (CL l).length = 2 := by
   rw [CL_len, ← rd_op, rd_OP (Nat.le_refl _)]
   unfold opp
   rw [if_pos rfl]
  have hs := sec_PT hO
  have ht := srt_PT hop
  have hp := PT_last hO hopn 0
  obtain ⟨q1, _⟩ := LN_rws (C := CL l) k (c % 2) (PT (OP l)) 0 hs ht hp
  dsimp only
  generalize hM : LN (CL l) (OP l) ⟨1 + a, 1 + b % 64, d, e, lo⟩ (c % 2) 0 (PT (OP l)) = M at *
  rw [hcl] at q1
  have hne : M ≠ [] := by
   intro h
   rw [h] at q1
   have : 0 = l.length := q1
   omega
  have hMl : M.length ≤ 300 := by
   have : ∀ (A : List S54) (i n : Nat), Rws (CL l) (1 + b % 64) n i A → i + A.length ≤ n := by
    intro A
    induction A with
    | nil => intro i n h; have : i = n := h; simp; omega
    | cons x A ih =>
     intro i n h
     obtain ⟨m, e, h1, h2, h3, h4⟩ := h
     have := ih _ _ h4
     rw [List.length_cons]
     omega
   have := this M 0 l.length q1
   omega
  have hpos : 0 < M.length := List.length_pos_iff.2 hne
  have hr := rows_l0 (by omega) (OP l) (M := M) (by omega) M.length 0 0 [] (by omega) rfl q1
  have hr2 := rrows_l0 (by omega) (OP l) (M := M) (by omega) hne M.length 0 0 [] (by omega) rfl q1
  refine ev_bind (samel_ev M (by omega)) (ev_pos rfl ?_)
  refine ev_bind (show Ev (fun q => lines_Rows.f q (CL l) (OP l) M) (M.map (rowOf l)) from by unfold lines_Rows.f; exact ev_neg (by omega) hr) ?_
  refine ev_bind (show Ev (fun q => r3_Rows.f q (CL l) (OP l) M) (M.map (rowOf l)) from hr2) ?_
  exact ev_bind (samey_ev _ (by rw [List.length_map]; omega)) (Ev.now _)
end Go.Proofs.Ytcnblneghbgjgaa.Pure
end
