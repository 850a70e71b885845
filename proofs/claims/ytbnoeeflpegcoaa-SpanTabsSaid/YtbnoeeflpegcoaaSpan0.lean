/- Texts of clusters and widths, as plain functions: what Para makes, columns, what is empty at a line's end, gaps. -/
import Derived.Test.YtbnoeeflpegcoaaA0
import Derived.Test.YtbnoeeflpegcoaaF0
namespace Go.Proofs.Ytbnoeeflpegcoaa.Pure
open Go.RowKit Go.Proofs.YtbnoeeflpegcoaaW.PrintWords Go.Proofs.Ytbnoeeflpegcoaa.F

def cl (C : List S41) (i : Nat) : S41 := C.getD i z41
theorem rd_cl (C : List S41) (i : Nat) : rd_T41 C (i : Int) = cl C i := rfl
def bit (l : List S50) (i : Nat) : S50 := l.getD i z50
theorem rd_bit (l : List S50) (i : Nat) : rd_T50 l (i : Int) = bit l i := rfl
/-- a bit of small numbers -/
def Small (b : S50) : Prop := (0 ≤ b.f0 ∧ b.f0 ≤ 255) ∧ (0 ≤ b.f1 ∧ b.f1 ≤ 255) ∧ (0 ≤ b.f2 ∧ b.f2 ≤ 255) ∧ (0 ≤ b.f3 ∧ b.f3 ≤ 255)
theorem small_of {b : S50} (h : (Lit.int .u8 b.f0).wf = true ∧ (Lit.int .u8 b.f1).wf = true ∧ (Lit.int .u8 b.f2).wf = true ∧ (Lit.int .u8 b.f3).wf = true) : Small b := by
  rw [wfu8, wfu8, wfu8, wfu8] at h
  exact h
theorem bit_mem {l : List S50} {i : Nat} (h : i < l.length) : bit l i ∈ l := by
  unfold bit
  rw [List.getD_eq_getElem?_getD, List.getElem?_eq_getElem h]
  exact List.getElem_mem h
/-- where cluster i begins -/
def atl (l : List S50) : Nat → Int
  | 0 => 0
  | i + 1 => atl l i + (1 + (bit l i).f2 % 4)
def clus (l : List S50) (i : Nat) : S41 := ⟨atl l i, 1 + (bit l i).f2 % 4, (bit l i).f0 % 3, (bit l i).f1 % 3⟩
def opp (l : List S50) (i : Nat) : Int := if i = l.length then 2 else if i = 0 then 0 else (bit l (i - 1)).f3 % 4
/-- what Para makes of a list of at most 1000 bits -/
def CL (l : List S50) : List S41 := (List.range l.length).map (clus l)
def OP (l : List S50) : List Int := (List.range (l.length + 1)).map (opp l)
theorem CL_len (l : List S50) : (CL l).length = l.length := by simp [CL]
theorem OP_len (l : List S50) : (OP l).length = l.length + 1 := by simp [OP]
theorem cl_CL {l : List S50} {i : Nat} (h : i < l.length) : cl (CL l) i = clus l i := by
  unfold cl CL
  rw [List.getD_eq_getElem?_getD, List.getElem?_map, List.getElem?_range h]; rfl
theorem rd_OP {l : List S50} {i : Nat} (h : i ≤ l.length) : rd (OP l) (i : Int) = opp l i := rd_map_range (opp l) (by omega)
theorem atl_bd (l : List S50) (i : Nat) : (i : Int) ≤ atl l i ∧ atl l i ≤ 4 * i := by
  induction i with
  | zero => simp [atl]
  | succ i ih =>
    have := mod4 (bit l i).f2
    simp only [atl, Int.natCast_add, Int.natCast_one]
    omega
theorem opp_bd (l : List S50) (i : Nat) : 0 ≤ opp l i ∧ opp l i ≤ 3 := by
  unfold opp
  have := mod4 (bit l (i - 1)).f3
  split
  · omega
  · split <;> omega

/-- clusters whose cells and kinds are small, and at most 4000 of them -/
structure Good (C : List S41) : Prop where
  len : C.length ≤ 4000
  cells : ∀ i, 0 ≤ (cl C i).f2 ∧ (cl C i).f2 ≤ 2
  kind : ∀ i, 0 ≤ (cl C i).f3 ∧ (cl C i).f3 ≤ 2
theorem cl_out {C : List S41} {i : Nat} (h : C.length ≤ i) : cl C i = z41 := by
  unfold cl
  rw [List.getD_eq_getElem?_getD, List.getElem?_eq_none h]; rfl
theorem good_CL {l : List S50} (h : l.length ≤ 4000) : Good (CL l) := by
  refine ⟨by rw [CL_len]; exact h, fun i => ?_, fun i => ?_⟩
  · by_cases hi : i < l.length
    · rw [cl_CL hi]; exact mod3 _
    · rw [cl_out (by rw [CL_len]; omega)]; exact ⟨Int.le_refl _, by decide⟩
  · by_cases hi : i < l.length
    · rw [cl_CL hi]; exact mod3 _
    · rw [cl_out (by rw [CL_len]; omega)]; exact ⟨Int.le_refl _, by decide⟩

/-- the column behind a cluster -/
def nxt (c : S41) (x t : Int) : Int := if c.f3 = 2 then x + t - x % t else x + c.f2
/-- the column n clusters behind boundary 'from' -/
def col (C : List S41) (fr : Nat) (t : Int) : Nat → Int
  | 0 => 0
  | n + 1 => nxt (cl C (fr + n)) (col C fr t n) t
def emp (c : S41) : Bool := c.f3 == 1 || (c.f3 == 0 && c.f2 == 0)
/-- of n clusters behind 'from': how many are left without what is empty at the end -/
def trm (C : List S41) (fr : Nat) : Nat → Nat
  | 0 => 0
  | n + 1 => if emp (cl C (fr + n)) then trm C fr n else n + 1
def cel (C : List S41) (fr n : Nat) (e t : Int) : Int := col C fr t (trm C fr n) + if e = 3 then 1 else 0
/-- how many spaces there are among n clusters behind 'from' -/
def spc (C : List S41) (fr : Nat) : Nat → Nat
  | 0 => 0
  | n + 1 => spc C fr n + if (cl C (fr + n)).f3 = 1 then 1 else 0
def gap (C : List S41) (fr n : Nat) : Nat := spc C fr (trm C fr n)

theorem nxt_bd {c : S41} {x t : Int} (h0 : 0 ≤ c.f2 ∧ c.f2 ≤ 2) (_ : 0 ≤ x) (ht : 1 ≤ t ∧ t ≤ 64) : x ≤ nxt c x t ∧ nxt c x t ≤ x + 64 := by
  unfold nxt
  have h1 := Int.emod_nonneg x (by omega : t ≠ 0)
  have h2 := Int.emod_lt_of_pos x (by omega : 0 < t)
  split <;> omega
theorem col_bd {C : List S41} (g : Good C) (fr : Nat) {t : Int} (ht : 1 ≤ t ∧ t ≤ 64) (n : Nat) : 0 ≤ col C fr t n ∧ col C fr t n ≤ 64 * n := by
  induction n with
  | zero => simp [col]
  | succ n ih =>
    have := nxt_bd (g.cells (fr + n)) ih.1 ht
    simp only [col, Int.natCast_add, Int.natCast_one]
    omega
theorem col_mono {C : List S41} (g : Good C) (fr : Nat) {t : Int} (ht : 1 ≤ t ∧ t ≤ 64) {m n : Nat} (h : m ≤ n) : col C fr t m ≤ col C fr t n := by
  induction n with
  | zero => rw [show m = 0 from by omega]; exact Int.le_refl _
  | succ n ih =>
    rcases Nat.lt_or_ge n m with h1 | h1
    · rw [show m = n + 1 from by omega]; exact Int.le_refl _
    · have := nxt_bd (g.cells (fr + n)) (col_bd g fr ht n).1 ht
      have := ih h1
      simp only [col]
      omega
theorem trm_le (C : List S41) (fr n : Nat) : trm C fr n ≤ n := by
  induction n with
  | zero => exact Nat.le_refl _
  | succ n ih =>
    unfold trm
    split <;> omega
theorem trm_mono (C : List S41) (fr : Nat) {m n : Nat} (h : m ≤ n) : trm C fr m ≤ trm C fr n := by
  induction n with
  | zero => rw [show m = 0 from by omega]; exact Nat.le_refl _
  | succ n ih =>
    rcases Nat.lt_or_ge n m with h1 | h1
    · rw [show m = n + 1 from by omega]; exact Nat.le_refl _
    · have h2 := ih h1
      have h3 := trm_le C fr m
      rw [show trm C fr (n + 1) = if emp (cl C (fr + n)) then trm C fr n else n + 1 from rfl]
      split <;> omega
theorem trm_trm (C : List S41) (fr n : Nat) : trm C fr (trm C fr n) = trm C fr n := by
  induction n with
  | zero => rfl
  | succ n ih =>
    by_cases h : emp (cl C (fr + n)) = true
    · rw [show trm C fr (n + 1) = trm C fr n from if_pos h]; exact ih
    · rw [show trm C fr (n + 1) = n + 1 from if_neg h, show trm C fr (n + 1) = n + 1 from if_neg h]
theorem spc_le (C : List S41) (fr n : Nat) : spc C fr n ≤ n := by
  induction n with
  | zero => exact Nat.le_refl _
  | succ n ih =>
    unfold spc
    split <;> omega
theorem cel_bd {C : List S41} (g : Good C) (fr n : Nat) (e : Int) {t : Int} (ht : 1 ≤ t ∧ t ≤ 64) : 0 ≤ cel C fr n e t ∧ cel C fr n e t ≤ 64 * n + 1 := by
  have h1 := col_bd g fr ht (trm C fr n)
  have h2 := trm_le C fr n
  unfold cel
  split <;> omega
end Go.Proofs.Ytbnoeeflpegcoaa.Pure
