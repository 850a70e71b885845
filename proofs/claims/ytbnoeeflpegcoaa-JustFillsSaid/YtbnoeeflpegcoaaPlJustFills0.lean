/- Plain proofs: what the printed functions compute. -/
import Derived.Test.YtbnoeeflpegcoaaXJustFills0
import Derived.WalkKit
import Derived.Test.YtbnoeeflpegcoaaVJustFills0
import Derived.Test.YtbnoeeflpegcoaaVJustFills4
import Derived.Test.YtbnoeeflpegcoaaVJustFills1
import Derived.Test.YtbnoeeflpegcoaaVJustFills3
import Derived.Test.YtbnoeeflpegcoaaVJustFills2
section
/- Helpers of the plain proofs: eventual values (Ev), wrapped numbers, lists. -/
namespace Go.Proofs.Ytbnoeeflpegcoaa.Pure
open Go.RowKit Go.Proofs.YtbnoeeflpegcoaaW.PrintWords

theorem ev_pos {α : Type} {c : Prop} [Decidable c] {a b : Nat → Option α} {r : α} (h : c) (H : Ev a r) : Ev (fun k => if c then a k else b k) r := by simpa [h] using H
theorem ev_neg {α : Type} {c : Prop} [Decidable c] {a b : Nat → Option α} {r : α} (h : ¬ c) (H : Ev b r) : Ev (fun k => if c then a k else b k) r := by simpa [h] using H
theorem ev_eq {α : Type} {o : Option α} {r : α} (h : o = some r) : Ev (fun _ => o) r := by subst h; exact Ev.now _
theorem ev_ret {α : Type} {x r : α} (h : x = r) : Ev (fun _ => some x) r := by subst h; exact Ev.now _
theorem ev_bind {α β : Type} {g : Nat → Option α} {f : Nat → α → Option β} {a : α} {r : β} (h : Ev g a) (k : Ev (fun n => f n a) r) : Ev (fun n => (g n).bind (f n)) r := Ev.bind h k
theorem ev_bind' {α β : Type} {o : Option α} {f : Nat → α → Option β} {a : α} {r : β} (h : o = some a) (k : Ev (fun n => f n a) r) : Ev (fun n => o.bind (f n)) r := by subst h; exact k
theorem ev_let {α β : Type} {a : α} {f : Nat → α → Option β} {r : β} (k : Ev (fun n => f n a) r) : Ev (fun n => (some a).bind (f n)) r := k
theorem ev_uniq {α : Type} {g : Nat → Option α} {a b : α} (h : Ev g a) (k : Ev g b) : a = b := by
  obtain ⟨m, hm⟩ := h
  obtain ⟨n, hn⟩ := k
  have h1 := hm (max m n) (Nat.le_max_left _ _)
  have h2 := hn (max m n) (Nat.le_max_right _ _)
  exact Option.some.inj (h1.symm.trans h2)

theorem w64 {x : Int} (h1 : -9223372036854775808 ≤ x) (h2 : x ≤ 9223372036854775807) : wrap64 x = x := by unfold wrap64; omega
theorem tmodp {a b : Int} (h : 0 ≤ a) : Int.tmod a b = a % b := Int.tmod_eq_emod_of_nonneg h
theorem tdivp {a b : Int} (h : 0 ≤ a) : Int.tdiv a b = a / b := Int.tdiv_eq_ediv_of_nonneg h
theorem wfu8 {x : Int} : (Lit.int .u8 x).wf = true ↔ 0 ≤ x ∧ x ≤ 255 := by simp [Lit.wf, IntKind.min, IntKind.max, IntKind.signed, IntKind.bits]
theorem wfu16 {x : Int} : (Lit.int .u16 x).wf = true ↔ 0 ≤ x ∧ x ≤ 65535 := by simp [Lit.wf, IntKind.min, IntKind.max, IntKind.signed, IntKind.bits]
theorem wfu32 {x : Int} : (Lit.int .u32 x).wf = true ↔ 0 ≤ x ∧ x ≤ 4294967295 := by simp [Lit.wf, IntKind.min, IntKind.max, IntKind.signed, IntKind.bits]
theorem wfi64 {x : Int} : (Lit.int .i64 x).wf = true ↔ -9223372036854775808 ≤ x ∧ x ≤ 9223372036854775807 := by simp [Lit.wf, IntKind.min, IntKind.max, IntKind.signed, IntKind.bits]
theorem wfi32 {x : Int} : (Lit.int .i32 x).wf = true ↔ -2147483648 ≤ x ∧ x ≤ 2147483647 := by simp [Lit.wf, IntKind.min, IntKind.max, IntKind.signed, IntKind.bits]
theorem u64mod {x n : Int} (h1 : 0 < n) (h2 : n ≤ 9223372036854775807) : wrap64 (Int.tmod (IntKind.u64.wrap x) (IntKind.u64.wrap n)) = (x % 18446744073709551616) % n := by
  have hw : ∀ y, IntKind.u64.wrap y = y % 18446744073709551616 := fun y => by simp [IntKind.wrap, IntKind.signed, IntKind.bits]
  rw [hw, hw, Int.emod_eq_of_lt (by omega) (by omega : n < 18446744073709551616), tmodp (by omega)]
  have h3 := Int.emod_nonneg (x % 18446744073709551616) (by omega : n ≠ 0)
  have h4 := Int.emod_lt_of_pos (x % 18446744073709551616) h1
  exact w64 (by omega) (by omega)

theorem rd_nat (xs : List Int) (n : Nat) : rd xs (n : Int) = xs.getD n 0 := rfl
theorem getD_map_range (g : Nat → Int) {n i : Nat} (h : i < n) : ((List.range n).map g).getD i 0 = g i := by
  rw [List.getD_eq_getElem?_getD, List.getElem?_map, List.getElem?_range h]; rfl
theorem rd_map_range (g : Nat → Int) {n i : Nat} (h : i < n) : rd ((List.range n).map g) (i : Int) = g i := getD_map_range g h
theorem map_range_snoc {α : Type} (g : Nat → α) (n : Nat) : (List.range n).map g ++ [g n] = (List.range (n + 1)).map g := by
  rw [List.range_succ, List.map_append]; rfl
theorem mod3 (x : Int) : 0 ≤ x % 3 ∧ x % 3 ≤ 2 := by omega
theorem mod4 (x : Int) : 0 ≤ x % 4 ∧ x % 4 ≤ 3 := by omega
end Go.Proofs.Ytbnoeeflpegcoaa.Pure
end
section
/- Texts of clusters and widths, as plain functions: what Para makes, columns, what is empty at a line's end, gaps. -/
namespace Go.Proofs.Ytbnoeeflpegcoaa.Pure
open Go.RowKit Go.Proofs.YtbnoeeflpegcoaaW.PrintWords Go.Proofs.Ytbnoeeflpegcoaa.F

def cl (C : List S41) (i : Nat) : S41 := C.getD i z41
theorem rd_cl (C : List S41) (i : Nat) : rd_T41 C (i : Int) = cl C i := rfl
def bit (l : List S50) (i : Nat) : S50 := l.getD i z50
theorem rd_bit (l : List S50) (i : Nat) : rd_T50 l (i : Int) = bit l i := rfl
/-- a bit of small numbers -/
def Small (b : S50) : Prop := (0 ≤ b.f0 ∧ b.f0 ≤ 255) ∧ (0 ≤ b.f1 ∧ b.f1 ≤ 255) ∧ (0 ≤ b.f2 ∧ b.f2 ≤ 255) ∧ (0 ≤ b.f3 ∧ b.f3 ≤ 255)
theorem small_of {b : S50} (h : (Lit.int .u8 b.f0).wf = true ∧ (Lit.int .u8 b.f1).wf = true ∧ (Lit.int .u8 b.f2).wf = true ∧ (Lit.int .u8 b.f3).wf = true) : Small b := by
  rw [wfu8, wfu8, wfu8, wfu8] at h
  exact h
theorem bit_mem {l : List S50} {i : Nat} (h : i < l.length) : bit l i ∈ l := by
  unfold bit
  rw [List.getD_eq_getElem?_getD, List.getElem?_eq_getElem h]
  exact List.getElem_mem h
/-- where cluster i begins -/
def atl (l : List S50) : Nat → Int
  | 0 => 0
  | i + 1 => atl l i + (1 + (bit l i).f2 % 4)
def clus (l : List S50) (i : Nat) : S41 := ⟨atl l i, 1 + (bit l i).f2 % 4, (bit l i).f0 % 3, (bit l i).f1 % 3⟩
def opp (l : List S50) (i : Nat) : Int := if i = l.length then 2 else if i = 0 then 0 else (bit l (i - 1)).f3 % 4
/-- what Para makes of a list of at most 1000 bits -/
def CL (l : List S50) : List S41 := (List.range l.length).map (clus l)
def OP (l : List S50) : List Int := (List.range (l.length + 1)).map (opp l)
theorem CL_len (l : List S50) : (CL l).length = l.length := by simp [CL]
theorem OP_len (l : List S50) : (OP l).length = l.length + 1 := by simp [OP]
theorem cl_CL {l : List S50} {i : Nat} (h : i < l.length) : cl (CL l) i = clus l i := by
  unfold cl CL
  rw [List.getD_eq_getElem?_getD, List.getElem?_map, List.getElem?_range h]; rfl
theorem rd_OP {l : List S50} {i : Nat} (h : i ≤ l.length) : rd (OP l) (i : Int) = opp l i := rd_map_range (opp l) (by omega)
theorem atl_bd (l : List S50) (i : Nat) : (i : Int) ≤ atl l i ∧ atl l i ≤ 4 * i := by
  induction i with
  | zero => simp [atl]
  | succ i ih =>
    have := mod4 (bit l i).f2
    simp only [atl, Int.natCast_add, Int.natCast_one]
    omega
theorem opp_bd (l : List S50) (i : Nat) : 0 ≤ opp l i ∧ opp l i ≤ 3 := by
  unfold opp
  have := mod4 (bit l (i - 1)).f3
  split
  · omega
  · split <;> omega

/-- clusters whose cells and kinds are small, and at most 4000 of them -/
structure Good (C : List S41) : Prop where
  len : C.length ≤ 4000
  cells : ∀ i, 0 ≤ (cl C i).f2 ∧ (cl C i).f2 ≤ 2
  kind : ∀ i, 0 ≤ (cl C i).f3 ∧ (cl C i).f3 ≤ 2
theorem cl_out {C : List S41} {i : Nat} (h : C.length ≤ i) : cl C i = z41 := by
  unfold cl
  rw [List.getD_eq_getElem?_getD, List.getElem?_eq_none h]; rfl
theorem good_CL {l : List S50} (h : l.length ≤ 4000) : Good (CL l) := by
  refine ⟨by rw [CL_len]; exact h, fun i => ?_, fun i => ?_⟩
  · by_cases hi : i < l.length
    · rw [cl_CL hi]; exact mod3 _
    · rw [cl_out (by rw [CL_len]; omega)]; exact ⟨Int.le_refl _, by decide⟩
  · by_cases hi : i < l.length
    · rw [cl_CL hi]; exact mod3 _
    · rw [cl_out (by rw [CL_len]; omega)]; exact ⟨Int.le_refl _, by decide⟩

/-- the column behind a cluster -/
def nxt (c : S41) (x t : Int) : Int := if c.f3 = 2 then x + t - x % t else x + c.f2
/-- the column n clusters behind boundary 'from' -/
def col (C : List S41) (fr : Nat) (t : Int) : Nat → Int
  | 0 => 0
  | n + 1 => nxt (cl C (fr + n)) (col C fr t n) t
def emp (c : S41) : Bool := c.f3 == 1 || (c.f3 == 0 && c.f2 == 0)
/-- of n clusters behind 'from': how many are left without what is empty at the end -/
def trm (C : List S41) (fr : Nat) : Nat → Nat
  | 0 => 0
  | n + 1 => if emp (cl C (fr + n)) then trm C fr n else n + 1
def cel (C : List S41) (fr n : Nat) (e t : Int) : Int := col C fr t (trm C fr n) + if e = 3 then 1 else 0
/-- how many spaces there are among n clusters behind 'from' -/
def spc (C : List S41) (fr : Nat) : Nat → Nat
  | 0 => 0
  | n + 1 => spc C fr n + if (cl C (fr + n)).f3 = 1 then 1 else 0
def gap (C : List S41) (fr n : Nat) : Nat := spc C fr (trm C fr n)

theorem nxt_bd {c : S41} {x t : Int} (h0 : 0 ≤ c.f2 ∧ c.f2 ≤ 2) (_ : 0 ≤ x) (ht : 1 ≤ t ∧ t ≤ 64) : x ≤ nxt c x t ∧ nxt c x t ≤ x + 64 := by
  unfold nxt
  have h1 := Int.emod_nonneg x (by omega : t ≠ 0)
  have h2 := Int.emod_lt_of_pos x (by omega : 0 < t)
  split <;> omega
theorem col_bd {C : List S41} (g : Good C) (fr : Nat) {t : Int} (ht : 1 ≤ t ∧ t ≤ 64) (n : Nat) : 0 ≤ col C fr t n ∧ col C fr t n ≤ 64 * n := by
  induction n with
  | zero => simp [col]
  | succ n ih =>
    have := nxt_bd (g.cells (fr + n)) ih.1 ht
    simp only [col, Int.natCast_add, Int.natCast_one]
    omega
theorem col_mono {C : List S41} (g : Good C) (fr : Nat) {t : Int} (ht : 1 ≤ t ∧ t ≤ 64) {m n : Nat} (h : m ≤ n) : col C fr t m ≤ col C fr t n := by
  induction n with
  | zero => rw [show m = 0 from by omega]; exact Int.le_refl _
  | succ n ih =>
    rcases Nat.lt_or_ge n m with h1 | h1
    · rw [show m = n + 1 from by omega]; exact Int.le_refl _
    · have := nxt_bd (g.cells (fr + n)) (col_bd g fr ht n).1 ht
      have := ih h1
      simp only [col]
      omega
theorem trm_le (C : List S41) (fr n : Nat) : trm C fr n ≤ n := by
  induction n with
  | zero => exact Nat.le_refl _
  | succ n ih =>
    unfold trm
    split <;> omega
theorem trm_mono (C : List S41) (fr : Nat) {m n : Nat} (h : m ≤ n) : trm C fr m ≤ trm C fr n := by
  induction n with
  | zero => rw [show m = 0 from by omega]; exact Nat.le_refl _
  | succ n ih =>
    rcases Nat.lt_or_ge n m with h1 | h1
    · rw [show m = n + 1 from by omega]; exact Nat.le_refl _
    · have h2 := ih h1
      have h3 := trm_le C fr m
      rw [show trm C fr (n + 1) = if emp (cl C (fr + n)) then trm C fr n else n + 1 from rfl]
      split <;> omega
theorem trm_trm (C : List S41) (fr n : Nat) : trm C fr (trm C fr n) = trm C fr n := by
  induction n with
  | zero => rfl
  | succ n ih =>
    by_cases h : emp (cl C (fr + n)) = true
    · rw [show trm C fr (n + 1) = trm C fr n from if_pos h]; exact ih
    · rw [show trm C fr (n + 1) = n + 1 from if_neg h, show trm C fr (n + 1) = n + 1 from if_neg h]
theorem spc_le (C : List S41) (fr n : Nat) : spc C fr n ≤ n := by
  induction n with
  | zero => exact Nat.le_refl _
  | succ n ih =>
    unfold spc
    split <;> omega
theorem cel_bd {C : List S41} (g : Good C) (fr n : Nat) (e : Int) {t : Int} (ht : 1 ≤ t ∧ t ≤ 64) : 0 ≤ cel C fr n e t ∧ cel C fr n e t ≤ 64 * n + 1 := by
  have h1 := col_bd g fr ht (trm C fr n)
  have h2 := trm_le C fr n
  unfold cel
  split <;> omega
end Go.Proofs.Ytbnoeeflpegcoaa.Pure
end
section
/- What Spread, SameInts and layer 18's Awake come to, as plain lists. -/
namespace Go.Proofs.Ytbnoeeflpegcoaa.Pure
open Go.RowKit Go.Proofs.YtbnoeeflpegcoaaW.PrintWords Go.Proofs.Ytbnoeeflpegcoaa.F

theorem same_loop (a b : List Int) (hl : a.length = b.length) (hm : (a.length : Int) ≤ 9223372036854775806) : ∀ (d i : Nat), i + d = a.length → (∀ j, j < i → a.getD j 0 = b.getD j 0) →
    Ev (fun k => stanzaref01_SameInts.l0 k a b (i : Int)) (decide (a = b)) := by
  intro d
  induction d with
  | zero =>
    intro i hi hs
    refine Ev.step (fun k => by unfold stanzaref01_SameInts.l0; rfl) (ev_neg (by omega) (ev_ret ?_))
    have hab : a = b := by
      refine List.ext_getElem hl (fun j h1 h2 => ?_)
      have := hs j (by omega)
      rwa [List.getD_eq_getElem?_getD, List.getD_eq_getElem?_getD, List.getElem?_eq_getElem h1, List.getElem?_eq_getElem h2] at this
    simp [hab]
  | succ d ih =>
    intro i hi hs
    refine Ev.step (fun k => by unfold stanzaref01_SameInts.l0; rfl) (ev_pos (by omega) (ev_pos (by omega) (ev_pos (by omega) ?_)))
    rw [rd_nat, rd_nat]
    by_cases he : a.getD i 0 = b.getD i 0
    · refine ev_pos he ?_
      rw [show wrap64 ((i : Int) + 1) = ((i + 1 : Nat) : Int) from by rw [w64 (by omega) (by omega)]; rfl]
      refine ih (i + 1) (by omega) (fun j hj => ?_)
      rcases Nat.lt_succ_iff_lt_or_eq.1 hj with h | h
      · exact hs j h
      · exact h ▸ he
    · refine ev_neg he (ev_ret ?_)
      have : a ≠ b := fun h => he (by rw [h])
      simp [this]
theorem same_ints (a b : List Int) (hm : (a.length : Int) ≤ 9223372036854775806) : Ev (fun k => stanzaref01_SameInts.f k a b) (decide (a = b)) := by
  unfold stanzaref01_SameInts.f
  by_cases hl : a.length = b.length
  · exact ev_pos (by omega) (same_loop a b hl hm a.length 0 (by omega) (fun j hj => by omega))
  · refine ev_neg (by omega) (ev_ret ?_)
    have : a ≠ b := fun h => hl (by rw [h])
    simp [this]

/-- one gap's share -/
def shr1 (room g : Int) (i : Nat) : Int := room * (i + 1) / g - room * i / g
def spr (room g : Int) : List Int := if 0 ≤ room ∧ room ≤ 1048576 ∧ 1 ≤ g ∧ g ≤ 4096 then (List.range g.toNat).map (shr1 room g) else []
theorem share_bd {room g : Int} {i : Nat} (h : 0 ≤ room ∧ room ≤ 1048576 ∧ 1 ≤ g ∧ g ≤ 4096) (hi : (i : Int) ≤ 4096) : 0 ≤ room * i ∧ room * i ≤ 4294967296 ∧ 0 ≤ room * i / g ∧ room * i / g ≤ 4294967296 := by
  have h1 : 0 ≤ room * i := Int.mul_nonneg h.1 (by omega)
  have h2 : room * i ≤ 1048576 * 4096 := Int.mul_le_mul h.2.1 hi (by omega) (by omega)
  have h3 : 0 ≤ room * i / g := Int.ediv_nonneg h1 (by omega)
  have h4 : room * i / g ≤ room * i := Int.ediv_le_self _ h1
  omega
theorem share_val {room g : Int} {i : Nat} (h : 0 ≤ room ∧ room ≤ 1048576 ∧ 1 ≤ g ∧ g ≤ 4096) (hi : (i : Int) < g) :
    wrap64 ((wrap64 (Int.tdiv (wrap64 (room * (wrap64 ((i : Int) + 1)))) g)) - (wrap64 (Int.tdiv (wrap64 (room * (i : Int))) g))) = shr1 room g i := by
  have b1 := share_bd (i := i) h (by omega)
  have b2 := share_bd (i := i + 1) h (by omega)
  rw [Int.natCast_add, Int.natCast_one] at b2
  rw [w64 (x := (i : Int) + 1) (by omega) (by omega), w64 (x := room * ((i : Int) + 1)) (by omega) (by omega), w64 (x := room * (i : Int)) (by omega) (by omega), tdivp b1.1, tdivp b2.1, w64 (x := room * ((i : Int) + 1) / g) (by omega) (by omega), w64 (x := room * (i : Int) / g) (by omega) (by omega), w64 (x := room * ((i : Int) + 1) / g - room * (i : Int) / g) (by omega) (by omega)]
  rfl
theorem spread_loop {room g : Int} (h : 0 ≤ room ∧ room ≤ 1048576 ∧ 1 ≤ g ∧ g ≤ 4096) : ∀ (d i : Nat), ((i + d : Nat) : Int) = g →
    Ev (fun k => just_Spread.l0 k room g ((List.range i).map (shr1 room g) ++ List.replicate d 0) g (i : Int)) ((List.range (i + d)).map (shr1 room g)) := by
  intro d
  induction d with
  | zero =>
    intro i hi
    refine Ev.step (fun k => by unfold just_Spread.l0; rfl) (ev_neg (by omega) (ev_ret ?_))
    simp
  | succ d ih =>
    intro i hi
    refine Ev.step (fun k => by unfold just_Spread.l0; rfl) (ev_pos (by omega) (ev_neg (by omega) (ev_pos (by omega) (ev_pos ?_ ?_))))
    · simp; omega
    · rw [share_val h (by omega), show wrap64 ((i : Int) + 1) = ((i + 1 : Nat) : Int) from by rw [w64 (by omega) (by omega)]; rfl]
      have e : ((List.range i).map (shr1 room g) ++ List.replicate (d + 1) 0).set (i : Int).toNat (shr1 room g i) = (List.range (i + 1)).map (shr1 room g) ++ List.replicate d 0 := by
        rw [Int.toNat_natCast, List.set_append_right _ _ (by simp), ← map_range_snoc]
        simp [List.replicate_succ]
      rw [e]
      have := ih (i + 1) (by omega)
      rwa [show i + 1 + d = i + (d + 1) from by omega] at this
theorem spread_none (room g : Int) : Ev (fun k => just_Spread.j0 k room g true) ([] : List Int) :=
  Ev.step (fun k => by unfold just_Spread.j0; rfl) (ev_pos rfl (Ev.now _))
theorem spread_ev (room g : Int) : Ev (fun k => just_Spread.f k room g) (spr room g) := by
  unfold just_Spread.f spr
  by_cases h : 0 ≤ room ∧ room ≤ 1048576 ∧ 1 ≤ g ∧ g ≤ 4096
  · rw [if_pos h]
    refine ev_neg (by omega) (ev_neg (by omega) (ev_neg (by omega) ?_))
    rw [show decide (g > 4096) = false from decide_eq_false (by omega)]
    refine Ev.step (fun k => by unfold just_Spread.j0; rfl) (ev_neg (by decide) (ev_pos (by omega) (ev_pos (by omega) (ev_let ?_))))
    have := spread_loop h g.toNat 0 (by omega)
    simp only [List.range_zero, List.map_nil, List.nil_append, Nat.zero_add] at this
    rwa [show ((List.replicate g.toNat (0 : Int)).length : Int) = g from by simp; omega]
  · rw [if_neg h]
    by_cases h1 : room < 0
    · exact ev_pos h1 (spread_none room g)
    · refine ev_neg h1 ?_
      by_cases h2 : room > 1048576
      · exact ev_pos h2 (spread_none room g)
      · refine ev_neg h2 ?_
        by_cases h3 : g < 1
        · exact ev_pos h3 (spread_none room g)
        · refine ev_neg h3 ?_
          rw [show decide (g > 4096) = true from decide_eq_true (by omega)]
          exact spread_none room g

theorem rspread_loop {room g : Int} (h : 0 ≤ room ∧ room ≤ 1048576 ∧ 1 ≤ g ∧ g ≤ 4096) : ∀ (d i : Nat), ((i + d : Nat) : Int) = g →
    Ev (fun k => stanzaref13_Spread.l0 k room g ((List.range i).map (shr1 room g)) (room * i / g) ((i : Int) + 1)) ((List.range (i + d)).map (shr1 room g)) := by
  intro d
  induction d with
  | zero =>
    intro i hi
    exact Ev.step (fun k => by unfold stanzaref13_Spread.l0; rfl) (ev_neg (by omega) (Ev.now _))
  | succ d ih =>
    intro i hi
    have b1 := share_bd (i := i) h (by omega)
    have b2 := share_bd (i := i + 1) h (by omega)
    rw [Int.natCast_add, Int.natCast_one] at b2
    refine Ev.step (fun k => by unfold stanzaref13_Spread.l0; rfl) (ev_pos (by omega) (ev_neg (by omega) (ev_pos (by simp; omega) ?_)))
    rw [w64 (x := room * ((i : Int) + 1)) (by omega) (by omega), tdivp b2.1, w64 (x := room * ((i : Int) + 1) / g) (by omega) (by omega), w64 (x := room * ((i : Int) + 1) / g - room * i / g) (by omega) (by omega), w64 (x := (i : Int) + 1 + 1) (by omega) (by omega),
      show room * ((i : Int) + 1) / g - room * i / g = shr1 room g i from rfl, map_range_snoc]
    have := ih (i + 1) (by omega)
    rwa [show i + 1 + d = i + (d + 1) from by omega] at this
theorem rspread_none (room g : Int) : Ev (fun k => stanzaref13_Spread.j0 k room g true) ([] : List Int) :=
  Ev.step (fun k => by unfold stanzaref13_Spread.j0; rfl) (ev_pos rfl (Ev.now _))
theorem rspread_ev (room g : Int) : Ev (fun k => stanzaref13_Spread.f k room g) (spr room g) := by
  unfold stanzaref13_Spread.f spr
  by_cases h : 0 ≤ room ∧ room ≤ 1048576 ∧ 1 ≤ g ∧ g ≤ 4096
  · rw [if_pos h]
    refine ev_neg (by omega) (ev_neg (by omega) (ev_neg (by omega) ?_))
    rw [show decide (g > 4096) = false from decide_eq_false (by omega)]
    refine Ev.step (fun k => by unfold stanzaref13_Spread.j0; rfl) (ev_neg (by decide) ?_)
    have := rspread_loop h g.toNat 0 (by omega)
    simpa using this
  · rw [if_neg h]
    by_cases h1 : room < 0
    · exact ev_pos h1 (rspread_none room g)
    · refine ev_neg h1 ?_
      by_cases h2 : room > 1048576
      · exact ev_pos h2 (rspread_none room g)
      · refine ev_neg h2 ?_
        by_cases h3 : g < 1
        · exact ev_pos h3 (rspread_none room g)
        · refine ev_neg h3 ?_
          rw [show decide (g > 4096) = true from decide_eq_true (by omega)]
          exact rspread_none room g

theorem spr_len (room g : Int) : ((spr room g).length : Int) ≤ 4096 := by
  unfold spr
  split <;> simp
  omega
theorem awake18 : Ev (fun k => stanzalaw18_Awake.f k) true := by
  unfold stanzalaw18_Awake.f
  refine ev_bind (spread_ev 5 3) (ev_bind (same_ints _ _ (by have := spr_len 5 3; omega)) ?_)
  rw [show decide (spr 5 3 = [1, 2, 2]) = true from by decide]
  refine ev_pos rfl (ev_bind (spread_ev (-1) 3) (ev_pos (by decide) (ev_bind (spread_ev 1 1) (ev_ret (by decide)))))
/-- a share lies between the quotient and one more -/
theorem share_near {r g : Int} (_ : 0 ≤ r) (hg : 1 ≤ g) (i : Nat) : r / g ≤ shr1 r g i ∧ shr1 r g i ≤ r / g + 1 ∧ (r % g = 0 → shr1 r g i = r / g) := by
  unfold shr1
  have e1 := Int.mul_ediv_add_emod (r * (i + 1)) g
  have e2 := Int.mul_ediv_add_emod (r * i) g
  have e3 := Int.mul_ediv_add_emod r g
  have p1 := Int.emod_nonneg (r * (i + 1)) (by omega : g ≠ 0)
  have p2 := Int.emod_nonneg (r * i) (by omega : g ≠ 0)
  have p3 := Int.emod_nonneg r (by omega : g ≠ 0)
  have q1 := Int.emod_lt_of_pos (r * (i + 1)) (by omega : 0 < g)
  have q2 := Int.emod_lt_of_pos (r * i) (by omega : 0 < g)
  have q3 := Int.emod_lt_of_pos r (by omega : 0 < g)
  have e4 : r * ((i : Int) + 1) = r * i + r := by rw [Int.mul_add, Int.mul_one]
  rw [e4] at e1 p1 q1 ⊢
  generalize (r * i + r) / g = x at *
  generalize (r * (i : Int)) / g = y at *
  generalize r / g = z at *
  generalize (r * i + r) % g = u at *
  generalize (r * (i : Int)) % g = v at *
  generalize r % g = t at *
  generalize r * (i : Int) = s at *
  have key : g * (x - y - z) = v + t - u := by
    rw [Int.mul_sub, Int.mul_sub]; omega
  have lo : -1 < x - y - z := by
    refine Int.lt_of_mul_lt_mul_left (a := g) ?_ (by omega)
    rw [key]; omega
  have hi : x - y - z < 2 := by
    refine Int.lt_of_mul_lt_mul_left (a := g) ?_ (by omega)
    rw [key]; omega
  refine ⟨by omega, by omega, fun h0 => ?_⟩
  have hi' : x - y - z < 1 := by
    refine Int.lt_of_mul_lt_mul_left (a := g) ?_ (by omega)
    rw [key]; omega
  omega
/-- if r is no multiple of g, some share is the greater one -/
theorem sum_range (r g : Int) : ∀ n : Nat, ((List.range n).map (shr1 r g)).sum = r * n / g := by
  intro n
  induction n with
  | zero => simp
  | succ n ih =>
    rw [List.range_succ, List.map_append, List.sum_append, ih]
    simp [shr1]
    omega
end Go.Proofs.Ytbnoeeflpegcoaa.Pure
end
section
/- How wide the clusters of a line are, with room spread over its spaces, as a plain function. -/
namespace Go.Proofs.Ytbnoeeflpegcoaa.Pure
open Go.RowKit Go.Proofs.YtbnoeeflpegcoaaW.PrintWords Go.Proofs.Ytbnoeeflpegcoaa.F

def bas (C : List S41) (a : Nat) (t : Int) (i : Nat) : Int := col C a t (i + 1) - col C a t i
def ext (C : List S41) (a n : Nat) (e w t : Int) : List Int := if e = 2 ∨ e = 4 then [] else spr (w - cel C a n e t) (gap C a n : Int)
def wid (C : List S41) (a : Nat) (t : Int) (E : List Int) (i : Nat) : Int := bas C a t i + if (cl C (a + i)).f3 = 1 ∧ spc C a i < E.length then E.getD (spc C a i) 0 else 0
def WD (C : List S41) (a n : Nat) (e w t : Int) : List Int := (List.range (trm C a n)).map (wid C a t (ext C a n e w t))

theorem bas_bd {C : List S41} (g : Good C) (a : Nat) {t : Int} (ht : 1 ≤ t ∧ t ≤ 64) (i : Nat) : 0 ≤ bas C a t i ∧ bas C a t i ≤ 64 := by
  have h1 := col_bd g a ht i
  have h2 := nxt_bd (g.cells (a + i)) h1.1 ht
  unfold bas
  simp only [col]
  omega
theorem bas_plain (C : List S41) (a : Nat) (t : Int) {i : Nat} (h : (cl C (a + i)).f3 ≠ 2) : bas C a t i = (cl C (a + i)).f2 := by
  unfold bas
  simp only [col, nxt]
  rw [if_neg h]
  omega
theorem spr_elem {r g : Int} {x : Int} (h : x ∈ spr r g) : 0 ≤ x ∧ x ≤ 1048577 := by
  unfold spr at h
  split at h
  · rename_i hr
    obtain ⟨i, _, rfl⟩ := List.mem_map.1 h
    have := share_near hr.1 hr.2.2.1 i
    have q0 : 0 ≤ r / g := Int.ediv_nonneg hr.1 (by omega)
    have q1 : r / g ≤ r := Int.ediv_le_self _ hr.1
    omega
  · cases h
theorem spr_getD (r g : Int) (k : Nat) : 0 ≤ (spr r g).getD k 0 ∧ (spr r g).getD k 0 ≤ 1048577 := by
  rw [List.getD_eq_getElem?_getD]
  cases h : (spr r g)[k]? with
  | none => simp
  | some x => exact spr_elem (List.mem_of_getElem? h)
theorem ext_getD (C : List S41) (a n : Nat) (e w t : Int) (k : Nat) : 0 ≤ (ext C a n e w t).getD k 0 ∧ (ext C a n e w t).getD k 0 ≤ 1048577 := by
  unfold ext
  split
  · simp
  · exact spr_getD _ _ k
theorem ext_len (C : List S41) (a n : Nat) (e w t : Int) : (ext C a n e w t).length ≤ 4096 := by
  unfold ext
  split
  · simp
  · have := spr_len (w - cel C a n e t) (gap C a n : Int)
    omega
theorem wid_bd {C : List S41} (g : Good C) (a n : Nat) (e w : Int) {t : Int} (ht : 1 ≤ t ∧ t ≤ 64) (i : Nat) : 0 ≤ wid C a t (ext C a n e w t) i ∧ wid C a t (ext C a n e w t) i ≤ 1048641 := by
  have h1 := bas_bd g a ht i
  have h2 := ext_getD C a n e w t (spc C a i)
  unfold wid
  split <;> omega
theorem spc_mono (C : List S41) (a : Nat) {m n : Nat} (h : m ≤ n) : spc C a m ≤ spc C a n := by
  induction n with
  | zero => rw [show m = 0 from by omega]; exact Nat.le_refl _
  | succ n ih =>
    rcases Nat.lt_or_ge n m with h1 | h1
    · rw [show m = n + 1 from by omega]; exact Nat.le_refl _
    · have := ih h1
      simp only [spc]
      omega
/-- the sum of the first i clusters' widths -/
theorem wid_sum (C : List S41) (a : Nat) (t : Int) (E : List Int) (i : Nat) : ((List.range i).map (wid C a t E)).sum = col C a t i + (E.take (spc C a i)).sum := by
  induction i with
  | zero => simp [col, spc]
  | succ i ih =>
    rw [List.range_succ, List.map_append, List.sum_append, ih]
    simp only [List.map_cons, List.map_nil, List.sum_cons, List.sum_nil]
    unfold wid bas
    by_cases hk : (cl C (a + i)).f3 = 1
    · rw [show spc C a (i + 1) = spc C a i + 1 from by simp [spc, hk]]
      by_cases hl : spc C a i < E.length
      · rw [if_pos ⟨hk, hl⟩, List.take_succ_eq_append_getElem hl, List.sum_append, List.getD_eq_getElem?_getD, List.getElem?_eq_getElem hl]
        simp only [List.sum_cons, List.sum_nil, Option.getD_some]
        omega
      · rw [if_neg (fun h => hl h.2), List.take_of_length_le (by omega), List.take_of_length_le (by omega)]
        omega
    · rw [show spc C a (i + 1) = spc C a i from by simp [spc, hk], if_neg (fun h => hk h.1)]
      omega
theorem spr_sum {r g : Int} (h : 0 ≤ r ∧ r ≤ 1048576 ∧ 1 ≤ g ∧ g ≤ 4096) : (spr r g).sum = r := by
  unfold spr
  rw [if_pos h, sum_range, show ((g.toNat : Nat) : Int) = g from by omega, Int.mul_ediv_cancel _ (by omega)]
/-- a line with a space in it that doesn't end by Must or Cut and is not too wide fills the width; others are as wide as they are -/
theorem wide_total {C : List S41} (g : Good C) (a n : Nat) (h : a + n ≤ C.length) (e : Int) {w t : Int} (hw : 1 ≤ w ∧ w ≤ 1048576) (ht : 1 ≤ t ∧ t ≤ 64) :
    (WD C a n e w t).sum + (if e = 3 then 1 else 0) = if e ≠ 2 ∧ e ≠ 4 ∧ 0 < gap C a n ∧ cel C a n e t ≤ w then w else cel C a n e t := by
  have hg := g.len
  have hb := cel_bd g a n e ht
  have hs : gap C a n ≤ n := Nat.le_trans (spc_le C a (trm C a n)) (trm_le C a n)
  unfold WD
  rw [wid_sum]
  have e1 : cel C a n e t = col C a t (trm C a n) + if e = 3 then 1 else 0 := rfl
  have e2 : spc C a (trm C a n) = gap C a n := rfl
  rw [e2]
  unfold ext
  by_cases h1 : e = 2 ∨ e = 4
  · rw [if_pos h1]
    have hn : ¬ (e ≠ 2 ∧ e ≠ 4 ∧ 0 < gap C a n ∧ cel C a n e t ≤ w) := by omega
    rw [if_neg hn]
    simp only [List.take_nil, List.sum_nil]
    omega
  · rw [if_neg h1]
    by_cases h2 : 0 < gap C a n ∧ cel C a n e t ≤ w
    · have hp : e ≠ 2 ∧ e ≠ 4 ∧ 0 < gap C a n ∧ cel C a n e t ≤ w := ⟨by omega, by omega, h2.1, h2.2⟩
      rw [if_pos hp]
      have hr : 0 ≤ w - cel C a n e t ∧ w - cel C a n e t ≤ 1048576 ∧ 1 ≤ (gap C a n : Int) ∧ (gap C a n : Int) ≤ 4096 := by omega
      rw [List.take_of_length_le (by unfold spr; rw [if_pos hr]; simp), spr_sum hr]
      omega
    · have hn : ¬ (e ≠ 2 ∧ e ≠ 4 ∧ 0 < gap C a n ∧ cel C a n e t ≤ w) := by omega
      rw [if_neg hn]
      have : spr (w - cel C a n e t) (gap C a n : Int) = [] := by
        unfold spr
        rw [if_neg (by omega)]
      rw [this]
      simp only [List.take_nil, List.sum_nil]
      omega
end Go.Proofs.Ytbnoeeflpegcoaa.Pure
end
section
/- The printed functions of Para, span and the document's span come to the plain functions. -/
namespace Go.Proofs.Ytbnoeeflpegcoaa.Pure
open Go.RowKit Go.Proofs.YtbnoeeflpegcoaaW.PrintWords Go.Proofs.Ytbnoeeflpegcoaa.F

/-! ### Para -/
theorem para_l1 {l : List S50} (hl : l.length ≤ 1000) (hs : ∀ b ∈ l, Small b) : ∀ (d i : Nat), i + d = l.length →
    Ev (fun k => stanzahand03_Para.l1 k l (i : Int) (CL l) ((List.range i).map (opp l))) (CL l, OP l) := by
  intro d
  induction d with
  | zero =>
    intro i hi
    refine Ev.step (fun k => by unfold stanzahand03_Para.l1; rfl) (ev_neg (by rw [CL_len]; omega) (ev_pos (by simp; omega) (ev_ret ?_)))
    have : opp l i = 2 := by unfold opp; rw [if_pos (by omega)]
    rw [← this, map_range_snoc, show i + 1 = l.length + 1 from by omega]
    rfl
  | succ d ih =>
    intro i hi
    refine Ev.step (fun k => by unfold stanzahand03_Para.l1; rfl) (ev_pos (by rw [CL_len]; omega) ?_)
    have hn : wrap64 ((i : Int) + 1) = ((i + 1 : Nat) : Int) := by rw [w64 (by omega) (by omega)]; rfl
    have hlen : ((List.range i).map (opp l)).length < 140737488355328 := by simp; omega
    by_cases h0 : i = 0
    · subst h0
      refine ev_neg (by omega) (ev_pos hlen ?_)
      rw [hn, show (0 : Int) = opp l 0 from by unfold opp; rw [if_neg (by omega)]; rfl, map_range_snoc]
      exact ih 1 (by omega)
    · obtain ⟨j, rfl⟩ : ∃ j, i = j + 1 := ⟨i - 1, by omega⟩
      refine ev_pos (by omega) ?_
      rw [show wrap64 (((j + 1 : Nat) : Int) - 1) = (j : Int) from by rw [w64 (by omega) (by omega)]; omega]
      refine ev_pos (by omega) (ev_pos (by omega) (ev_pos hlen ?_))
      have hb := hs _ (bit_mem (show j < l.length from by omega))
      rw [hn, rd_bit, tmodp hb.2.2.2.1, show (bit l j).f3 % 4 = opp l (j + 1) from by unfold opp; rw [if_neg (by omega), if_neg (by omega)]; rfl, map_range_snoc]
      exact ih (j + 1 + 1) (by omega)
theorem para_j1 {l : List S50} (hl : l.length ≤ 1000) (hs : ∀ b ∈ l, Small b) : Ev (fun k => stanzahand03_Para.j1 k l (CL l)) (CL l, OP l) :=
  Ev.step (fun k => by unfold stanzahand03_Para.j1; rfl) (para_l1 hl hs l.length 0 (by omega))
theorem para_l0 {l : List S50} (hl : l.length ≤ 1000) (hs : ∀ b ∈ l, Small b) : ∀ (d i : Nat), i + d = l.length →
    Ev (fun k => stanzahand03_Para.l0 k l (atl l i) (i : Int) ((List.range i).map (clus l))) (CL l, OP l) := by
  intro d
  induction d with
  | zero =>
    intro i hi
    refine Ev.step (fun k => by unfold stanzahand03_Para.l0; rfl) (ev_neg (by omega) ?_)
    rw [show i = l.length from by omega]
    exact para_j1 hl hs
  | succ d ih =>
    intro i hi
    have ha := atl_bd l i
    have hb := hs _ (bit_mem (show i < l.length from by omega))
    have m4 := mod4 (bit l i).f2
    have m3 := mod3 (bit l i).f0
    refine Ev.step (fun k => by unfold stanzahand03_Para.l0; rfl) (ev_pos (by omega) (ev_pos (by omega) (ev_pos (by omega) (ev_pos (by simp; omega) ?_))))
    rw [rd_bit, tmodp hb.2.2.1.1, tmodp hb.1.1, tmodp hb.2.1.1, w64 (x := (bit l i).f2 % 4) (by omega) (by omega), w64 (x := 1 + (bit l i).f2 % 4) (by omega) (by omega), w64 (x := (bit l i).f0 % 3) (by omega) (by omega),
      w64 (x := (i : Int) + 1) (by omega) (by omega), w64 (x := atl l i + (1 + (bit l i).f2 % 4)) (by omega) (by omega)]
    rw [show (⟨atl l i, 1 + (bit l i).f2 % 4, (bit l i).f0 % 3, (bit l i).f1 % 3⟩ : S41) = clus l i from rfl, map_range_snoc]
    exact ih (i + 1) (by omega)
theorem para_ev {l : List S50} (hl : l.length ≤ 1000) (hs : ∀ b ∈ l, Small b) : Ev (fun k => stanzahand03_Para.f k l) (CL l, OP l) :=
  para_l0 hl hs l.length 0 (by omega)

/-! ### span -/
theorem next_eq {c : S41} {x t : Int} (h0 : 0 ≤ c.f2 ∧ c.f2 ≤ 2) (hx : 0 ≤ x ∧ x ≤ 1000000) (ht : 1 ≤ t ∧ t ≤ 64) : span_Next.f c.f0 c.f1 c.f2 c.f3 x t = some (nxt c x t) := by
  unfold span_Next.f nxt
  have h1 := Int.emod_nonneg x (by omega : t ≠ 0)
  have h2 := Int.emod_lt_of_pos x (by omega : 0 < t)
  by_cases h : c.f3 = 2
  · rw [if_pos h, if_pos h, if_neg (by omega), tmodp hx.1, w64 (x := x + t) (by omega) (by omega), w64 (by omega) (by omega)]
  · rw [if_neg h, if_neg h, w64 (by omega) (by omega)]
theorem columns_l0 {C : List S41} (g : Good C) (O : List Int) (fr n : Nat) {t : Int} (ht : 1 ≤ t ∧ t ≤ 64) (h : fr + n ≤ C.length) : ∀ (d i : Nat), i + d = n →
    Ev (fun k => span_Columns.l0 k ((fr + n : Nat) : Int) t ((List.range (i + 1)).map (col C fr t)) ((fr + i : Nat) : Int) C O) ((List.range (n + 1)).map (col C fr t)) := by
  have hg := g.len
  intro d
  induction d with
  | zero =>
    intro i hi
    refine Ev.step (fun k => by unfold span_Columns.l0; rfl) (ev_neg (by omega) (ev_ret ?_))
    rw [show i = n from by omega]
  | succ d ih =>
    intro i hi
    have hc := col_bd g fr ht i
    refine Ev.step (fun k => by unfold span_Columns.l0; rfl) (ev_pos (by omega) (ev_pos (by omega) (ev_pos (by omega) ?_)))
    rw [List.length_map, List.length_range, show wrap64 (((i + 1 : Nat) : Int) - 1) = (i : Int) from by rw [w64 (by omega) (by omega)]; omega, rd_map_range _ (by omega), rd_cl]
    refine ev_pos (by omega) (ev_pos (by omega) (ev_bind' (next_eq (g.cells _) (by omega) ht) (ev_pos (by omega) ?_)))
    rw [show wrap64 (((fr + i : Nat) : Int) + 1) = ((fr + (i + 1) : Nat) : Int) from by rw [w64 (by omega) (by omega)]; omega, show nxt (cl C (fr + i)) (col C fr t i) t = col C fr t (i + 1) from rfl, map_range_snoc]
    exact ih (i + 1) (by omega)
theorem columns_ev {C : List S41} (g : Good C) (O : List Int) (fr n : Nat) {t : Int} (ht : 1 ≤ t ∧ t ≤ 64) (h : fr + n ≤ C.length) :
    Ev (fun k => span_Columns.f k C O (fr : Int) ((fr + n : Nat) : Int) t) ((List.range (n + 1)).map (col C fr t)) :=
  columns_l0 g O fr n ht h n 0 (by omega)
theorem empty_eq {c : S41} : span_empty.f c.f0 c.f1 c.f2 c.f3 = some (emp c) := by
  unfold span_empty.f emp
  by_cases h1 : c.f3 = 1
  · rw [if_pos h1, h1]; rfl
  · rw [if_neg h1]
    by_cases h0 : c.f3 = 0
    · rw [if_pos h0, h0]; rfl
    · rw [if_neg h0]
      simp [h1, h0]
theorem trim_ev {C : List S41} (g : Good C) (O : List Int) (fr : Nat) : ∀ n : Nat, fr + n ≤ C.length →
    Ev (fun k => span_Trim.f k C O (fr : Int) ((fr + n : Nat) : Int)) ((fr + trm C fr n : Nat) : Int) := by
  have hg := g.len
  intro n
  induction n with
  | zero =>
    intro h
    exact Ev.step (fun k => by unfold span_Trim.f span_Trim.l0; rfl) (ev_neg (by omega) (Ev.now _))
  | succ n ih =>
    intro h
    refine Ev.step (fun k => by unfold span_Trim.f span_Trim.l0; rfl) (ev_pos (by omega) ?_)
    rw [show wrap64 (((fr + (n + 1) : Nat) : Int) - 1) = ((fr + n : Nat) : Int) from by rw [w64 (by omega) (by omega)]; omega]
    refine ev_pos (by omega) (ev_pos (by omega) (ev_bind' empty_eq ?_))
    rw [rd_cl]
    by_cases he : emp (cl C (fr + n)) = true
    · rw [show trm C fr (n + 1) = trm C fr n from if_pos he]
      exact ev_pos he (ih (by omega))
    · rw [show trm C fr (n + 1) = n + 1 from if_neg he]
      exact ev_neg he (Ev.now _)
theorem cells_ev {C : List S41} (g : Good C) (O : List Int) (fr n : Nat) (e : Int) {t : Int} (ht : 1 ≤ t ∧ t ≤ 64) (h : fr + n ≤ C.length) :
    Ev (fun k => span_Cells.f k C O (fr : Int) ((fr + n : Nat) : Int) e t) (cel C fr n e t) := by
  have hg := g.len
  have ht' := trm_le C fr n
  have hc := col_bd g fr ht (trm C fr n)
  unfold span_Cells.f
  refine ev_bind (trim_ev g O fr n h) (ev_bind (columns_ev g O fr (trm C fr n) ht (by omega)) ?_)
  rw [List.length_map, List.length_range, show wrap64 (((trm C fr n + 1 : Nat) : Int) - 1) = (trm C fr n : Int) from by rw [w64 (by omega) (by omega)]; omega, rd_map_range _ (by omega)]
  refine ev_pos (by omega) (ev_pos (by omega) ?_)
  unfold cel
  by_cases he : e = 3
  · refine ev_pos he (ev_ret ?_)
    rw [if_pos he, w64 (by omega) (by omega)]
  · refine ev_neg he (ev_ret ?_)
    rw [if_neg he]
    omega
theorem gaps_l0 {C : List S41} (g : Good C) (fr n : Nat) (h : fr + n ≤ C.length) : ∀ (d i : Nat), i + d = n →
    Ev (fun k => span_Gaps.l0 k (spc C fr i : Int) ((C.take (fr + n)).drop fr) (n : Int) (i : Int)) (spc C fr n : Int) := by
  have hg := g.len
  intro d
  induction d with
  | zero =>
    intro i hi
    refine Ev.step (fun k => by unfold span_Gaps.l0; rfl) (ev_neg (by omega) (ev_ret ?_))
    rw [show i = n from by omega]
  | succ d ih =>
    intro i hi
    have hs := spc_le C fr i
    refine Ev.step (fun k => by unfold span_Gaps.l0; rfl) (ev_pos (by omega) (ev_pos (by omega) (ev_pos (by simp; omega) ?_)))
    have hr : rd_T41 ((C.take (fr + n)).drop fr) (i : Int) = cl C (fr + i) := by
      rw [rd_cl]
      unfold cl
      rw [List.getD_eq_getElem?_getD, List.getD_eq_getElem?_getD, List.getElem?_drop, List.getElem?_take_of_lt (by omega)]
    rw [hr, show wrap64 ((i : Int) + 1) = ((i + 1 : Nat) : Int) from by rw [w64 (by omega) (by omega)]; rfl]
    by_cases hk : (cl C (fr + i)).f3 = 1
    · refine ev_pos hk ?_
      rw [show wrap64 ((spc C fr i : Int) + 1) = ((spc C fr (i + 1) : Nat) : Int) from by rw [w64 (by omega) (by omega)]; simp [spc, hk]]
      exact ih (i + 1) (by omega)
    · refine ev_neg hk ?_
      rw [show spc C fr i = spc C fr (i + 1) from by simp [spc, hk]]
      exact ih (i + 1) (by omega)
theorem gaps_ev {C : List S41} (g : Good C) (O : List Int) (fr n : Nat) (h : fr + n ≤ C.length) :
    Ev (fun k => span_Gaps.f k C O (fr : Int) ((fr + n : Nat) : Int)) (gap C fr n : Int) := by
  have ht := trm_le C fr n
  unfold span_Gaps.f
  refine ev_bind (trim_ev g O fr n h) (ev_pos (by omega) (ev_pos (by omega) (ev_pos (by omega) (ev_let ?_))))
  rw [Int.toNat_natCast, Int.toNat_natCast, show (((C.take (fr + trm C fr n)).drop fr).length : Int) = (trm C fr n : Int) from by simp; omega]
  exact gaps_l0 g fr (trm C fr n) (by omega) (trm C fr n) 0 (by omega)
end Go.Proofs.Ytbnoeeflpegcoaa.Pure
end
section
/- just.Line comes to the plain function. -/
namespace Go.Proofs.Ytbnoeeflpegcoaa.Pure
open Go.RowKit Go.Proofs.YtbnoeeflpegcoaaW.PrintWords Go.Proofs.Ytbnoeeflpegcoaa.F
section
variable {C : List S41} (g : Good C) (O : List Int) (a n : Nat) (h : a + n ≤ C.length) (e : Int) {w t : Int} (hw : 1 ≤ w ∧ w ≤ 1048576) (ht : 1 ≤ t ∧ t ≤ 64) (ce m3 h4 p5 : Int) (lo : Nat)
def mix (C : List S41) (a m : Nat) (t : Int) (E : List Int) (i : Nat) : List Int := (List.range m).map (fun j => if j < i then wid C a t E j else bas C a t j)
theorem mix_zero (C : List S41) (a m : Nat) (t : Int) (E : List Int) : mix C a m t E 0 = (List.range m).map (bas C a t) := by
  unfold mix
  refine List.map_congr_left (fun j _ => ?_)
  rw [if_neg (by omega)]
theorem mix_all (C : List S41) (a m : Nat) (t : Int) (E : List Int) : mix C a m t E m = (List.range m).map (wid C a t E) := by
  unfold mix
  refine List.map_congr_left (fun j hj => ?_)
  rw [if_pos (List.mem_range.1 hj)]
theorem mix_keep (C : List S41) (a m : Nat) (t : Int) (E : List Int) (i : Nat) (hk : ¬ ((cl C (a + i)).f3 = 1 ∧ spc C a i < E.length)) : mix C a m t E (i + 1) = mix C a m t E i := by
  unfold mix
  refine List.map_congr_left (fun j _ => ?_)
  rcases Nat.lt_trichotomy j i with h | h | h
  · rw [if_pos (by omega), if_pos h]
  · subst h
    rw [if_pos (by omega), if_neg (by omega)]
    unfold wid
    rw [if_neg hk]
    omega
  · rw [if_neg (by omega), if_neg (by omega)]
theorem mix_set (C : List S41) (a m : Nat) (t : Int) (E : List Int) (i : Nat) : (mix C a m t E i).set i (wid C a t E i) = mix C a m t E (i + 1) := by
  refine List.ext_getElem (by simp [mix]) (fun j h1 h2 => ?_)
  rw [List.getElem_set]
  simp only [mix, List.getElem_map, List.getElem_range]
  rcases Nat.lt_trichotomy j i with h | h | h
  · rw [if_neg (by omega), if_pos h, if_pos (by omega)]
  · subst h
    rw [if_pos rfl, if_pos (by omega)]
  · rw [if_neg (by omega), if_neg (by omega), if_neg (by omega)]
include g h hw ht
omit hw in
theorem jline_l1 : ∀ (d i : Nat), i + d = trm C a n →
    Ev (fun k => just_Line.l1 k (mix C a (trm C a n) t (ext C a n e w t) i) (ext C a n e w t) ((min (spc C a i) (ext C a n e w t).length : Nat) : Int) (trm C a n : Int) (i : Int) C O (a : Int) ((a + n : Nat) : Int) ce e) (WD C a n e w t) := by
  have hg := g.len
  have hT := trm_le C a n
  intro d
  induction d with
  | zero =>
    intro i hi
    refine Ev.step (fun k => by unfold just_Line.l1; rfl) (ev_neg (by omega) (ev_ret ?_))
    rw [show i = trm C a n from by omega, mix_all]
    rfl
  | succ d ih =>
    intro i hi
    have ih' := ih (i + 1) (by omega)
    have hs := spc_le C a i
    have hE := ext_len C a n e w t
    refine Ev.step (fun k => by unfold just_Line.l1; rfl) (ev_pos (by omega) ?_)
    rw [w64 (x := (a : Int) + (i : Int)) (by omega) (by omega), show (a : Int) + (i : Int) = ((a + i : Nat) : Int) from by omega, rd_cl, show wrap64 ((i : Int) + 1) = ((i + 1 : Nat) : Int) from by rw [w64 (by omega) (by omega)]; rfl]
    refine ev_pos (by omega) (ev_pos (by omega) ?_)
    by_cases hk : (cl C (a + i)).f3 = 1
    · refine ev_pos hk ?_
      have es : spc C a (i + 1) = spc C a i + 1 := by simp [spc, hk]
      by_cases hl : spc C a i < (ext C a n e w t).length
      · have em : min (spc C a i) (ext C a n e w t).length = spc C a i := by omega
        rw [em]
        refine ev_pos (by omega) (ev_pos (by omega) (ev_pos (by simp [mix]; omega) (ev_pos (by omega) ?_)))
        have er : rd (mix C a (trm C a n) t (ext C a n e w t) i) (i : Int) = bas C a t i := by
          unfold mix
          rw [rd_map_range (fun j => if j < i then wid C a t (ext C a n e w t) j else bas C a t j) (by omega), if_neg (by omega)]
        have ew : bas C a t i + rd (ext C a n e w t) (spc C a i : Int) = wid C a t (ext C a n e w t) i := by
          unfold wid
          rw [if_pos ⟨hk, hl⟩]
          rfl
        have hb := wid_bd g a n e w ht i
        rw [er, ew, w64 (x := wid C a t (ext C a n e w t) i) (by omega) (by omega), Int.toNat_natCast, mix_set, w64 (x := (spc C a i : Int) + 1) (by omega) (by omega), show (spc C a i : Int) + 1 = ((min (spc C a (i + 1)) (ext C a n e w t).length : Nat) : Int) from by omega]
        exact ih'
      · refine ev_neg (by omega) ?_
        rw [show min (spc C a i) (ext C a n e w t).length = min (spc C a (i + 1)) (ext C a n e w t).length from by omega, ← mix_keep C a (trm C a n) t (ext C a n e w t) i (fun hh => hl hh.2)]
        exact ih'
    · refine ev_neg hk ?_
      have es : spc C a (i + 1) = spc C a i := by simp [spc, hk]
      rw [← es, ← mix_keep C a (trm C a n) t (ext C a n e w t) i (fun hh => hk hh.1)]
      exact ih'
theorem jline_j1 : Ev (fun k => just_Line.j1 k ((List.range (trm C a n)).map (bas C a t)) (e == 2 || e == 4) C O (a : Int) ((a + n : Nat) : Int) ce e w t m3 h4 p5 lo) (WD C a n e w t) := by
  have hg := g.len
  have hT := trm_le C a n
  refine Ev.step (fun k => by unfold just_Line.j1; rfl) ?_
  by_cases hE : e = 2 ∨ e = 4
  · have hx : ext C a n e w t = [] := if_pos hE
    refine ev_pos (by simpa using hE) (ev_ret ?_)
    unfold WD
    rw [hx]
    refine List.map_congr_left (fun j _ => ?_)
    simp [wid]
  · have hx : ext C a n e w t = spr (w - cel C a n e t) (gap C a n : Int) := if_neg hE
    have hc := cel_bd g a n e ht
    refine ev_neg (by simpa using hE) (ev_bind (cells_ev g O a n e ht h) ?_)
    refine ev_bind (gaps_ev g O a n h) ?_
    rw [w64 (x := w - cel C a n e t) (by omega) (by omega)]
    refine ev_bind (spread_ev _ _) ?_
    rw [← hx, List.length_map, List.length_range, ← mix_zero C a (trm C a n) t (ext C a n e w t)]
    have := jline_l1 g O a n h e (w := w) ht ce (trm C a n) 0 (by omega)
    simpa [spc] using this
theorem jline_l0 : ∀ (d i : Nat), i + d = trm C a n →
    Ev (fun k => just_Line.l0 k ((a + trm C a n : Nat) : Int) ((List.range (trm C a n + 1)).map (col C a t)) ((List.range i).map (bas C a t)) ((a + i : Nat) : Int) C O (a : Int) ((a + n : Nat) : Int) ce e w t m3 h4 p5 lo) (WD C a n e w t) := by
  have hg := g.len
  have hT := trm_le C a n
  intro d
  induction d with
  | zero =>
    intro i hi
    have hj := jline_j1 g O a n h e hw ht ce m3 h4 p5 lo
    refine Ev.step (fun k => by unfold just_Line.l0; rfl) (ev_neg (by omega) ?_)
    rw [show i = trm C a n from by omega]
    by_cases h2 : e = 2
    · refine ev_pos h2 ?_
      rwa [show (e == 2 || e == 4) = true from by simp [h2]] at hj
    · refine ev_neg h2 ?_
      rwa [show (e == 2 || e == 4) = (e == 4) from by simp [h2]] at hj
  | succ d ih =>
    intro i hi
    have hb := bas_bd g a ht i
    refine Ev.step (fun k => by unfold just_Line.l0; rfl) (ev_pos (by omega) ?_)
    rw [w64 (x := ((a + i : Nat) : Int) - (a : Int)) (by omega) (by omega), show ((a + i : Nat) : Int) - (a : Int) = (i : Int) from by omega, show wrap64 ((i : Int) + 1) = ((i + 1 : Nat) : Int) from by rw [w64 (by omega) (by omega)]; rfl,
      rd_map_range _ (by omega), rd_map_range _ (by omega), show col C a t (i + 1) - col C a t i = bas C a t i from rfl, w64 (x := bas C a t i) (by omega) (by omega), map_range_snoc, show wrap64 (((a + i : Nat) : Int) + 1) = ((a + (i + 1) : Nat) : Int) from by rw [w64 (by omega) (by omega)]; omega]
    exact ev_pos (by omega) (ev_pos (by simp; omega) (ev_pos (by omega) (ev_pos (by simp; omega) (ev_pos (by simp; omega) (ih (i + 1) (by omega))))))
theorem jline_ev : Ev (fun k => just_Line.f k C O (a : Int) ((a + n : Nat) : Int) ce e w t m3 h4 p5 lo) (WD C a n e w t) := by
  have hT := trm_le C a n
  unfold just_Line.f
  refine ev_bind (trim_ev g O a n h) ?_
  refine ev_bind (columns_ev g O a (trm C a n) ht (by omega)) ?_
  exact jline_l0 g O a n h e hw ht ce m3 h4 p5 lo (trm C a n) 0 (by omega)
end
end Go.Proofs.Ytbnoeeflpegcoaa.Pure
end
section
/- Lines as long as may be, as plain functions. -/
namespace Go.Proofs.Ytbnoeeflpegcoaa.Pure
open Go.RowKit Go.Proofs.YtbnoeeflpegcoaaW.PrintWords Go.Proofs.Ytbnoeeflpegcoaa.F

def op (O : List Int) (i : Nat) : Int := O.getD i 0
theorem rd_op (O : List Int) (i : Nat) : rd O (i : Int) = op O i := rfl
/-- of n clusters behind fr: the greatest number, at least 1, of those that fit; 0: none -/
def cutN (C : List S41) (fr : Nat) (w t : Int) : Nat → Nat
  | 0 => 0
  | n + 1 => if cel C fr (n + 1) 0 t ≤ w then n + 1 else cutN C fr w t n
/-- .. behind which a line may end, and fits so -/
def bestN (C : List S41) (O : List Int) (fr : Nat) (w t : Int) : Nat → Nat
  | 0 => 0
  | n + 1 => if op O (fr + (n + 1)) ≠ 0 ∧ cel C fr (n + 1) (op O (fr + (n + 1))) t ≤ w then n + 1 else bestN C O fr w t n
/-- how many clusters the next line has, of N at most -/
def lnN (C : List S41) (O : List Int) (fr : Nat) (w t : Int) (N : Nat) : Nat :=
  if bestN C O fr w t N = 0 then (if cutN C fr w t N = 0 then 1 else cutN C fr w t N) else bestN C O fr w t N
/-- how it ends -/
def lnE (C : List S41) (O : List Int) (fr : Nat) (w t : Int) (N : Nat) : Int :=
  if bestN C O fr w t N = 0 then (if op O (fr + lnN C O fr w t N) = 2 ∨ op O (fr + lnN C O fr w t N) = 1 then op O (fr + lnN C O fr w t N) else 4) else op O (fr + lnN C O fr w t N)
def mkln (C : List S41) (fr n : Nat) (e t : Int) : S63 := ⟨(fr : Int), ((fr + n : Nat) : Int), cel C fr n e t, e⟩
/-- the lines of a part (so many at most) -/
def FL (C : List S41) (O : List Int) (w t : Int) : Nat → Nat → Nat → List S63
  | 0, _, _ => []
  | d + 1, fr, z => if fr < z then mkln C fr (lnN C O fr w t (z - fr)) (lnE C O fr w t (z - fr)) t :: FL C O w t d (fr + lnN C O fr w t (z - fr)) z else []

theorem cutN_le (C : List S41) (fr : Nat) (w t : Int) (n : Nat) : cutN C fr w t n ≤ n := by
  induction n with
  | zero => exact Nat.le_refl _
  | succ n ih => unfold cutN; split <;> omega
theorem bestN_le (C : List S41) (O : List Int) (fr : Nat) (w t : Int) (n : Nat) : bestN C O fr w t n ≤ n := by
  induction n with
  | zero => exact Nat.le_refl _
  | succ n ih => unfold bestN; split <;> omega
theorem lnN_bd (C : List S41) (O : List Int) (fr : Nat) (w t : Int) {N : Nat} (h : 1 ≤ N) : 1 ≤ lnN C O fr w t N ∧ lnN C O fr w t N ≤ N := by
  have h1 := cutN_le C fr w t N
  have h2 := bestN_le C O fr w t N
  unfold lnN
  split
  · split <;> omega
  · omega
theorem cutN_spec (C : List S41) (fr : Nat) (w t : Int) (n : Nat) : (cutN C fr w t n ≠ 0 → cel C fr (cutN C fr w t n) 0 t ≤ w) ∧ ∀ m, cutN C fr w t n < m → m ≤ n → w < cel C fr m 0 t := by
  induction n with
  | zero => exact ⟨fun h => absurd rfl h, fun m h1 h2 => by omega⟩
  | succ n ih =>
    by_cases h : cel C fr (n + 1) 0 t ≤ w
    · have e : cutN C fr w t (n + 1) = n + 1 := if_pos h
      rw [e]
      exact ⟨fun _ => h, fun m h1 h2 => by omega⟩
    · have e : cutN C fr w t (n + 1) = cutN C fr w t n := if_neg h
      rw [e]
      refine ⟨ih.1, fun m h1 h2 => ?_⟩
      rcases Nat.lt_or_ge n m with h3 | h3
      · rw [show m = n + 1 from by omega]; omega
      · exact ih.2 m h1 h3
theorem bestN_spec (C : List S41) (O : List Int) (fr : Nat) (w t : Int) (n : Nat) :
    (bestN C O fr w t n ≠ 0 → op O (fr + bestN C O fr w t n) ≠ 0 ∧ cel C fr (bestN C O fr w t n) (op O (fr + bestN C O fr w t n)) t ≤ w) ∧
    ∀ m, bestN C O fr w t n < m → m ≤ n → ¬ (op O (fr + m) ≠ 0 ∧ cel C fr m (op O (fr + m)) t ≤ w) := by
  induction n with
  | zero => exact ⟨fun h => absurd rfl h, fun m h1 h2 => by omega⟩
  | succ n ih =>
    by_cases h : op O (fr + (n + 1)) ≠ 0 ∧ cel C fr (n + 1) (op O (fr + (n + 1))) t ≤ w
    · have e : bestN C O fr w t (n + 1) = n + 1 := if_pos h
      rw [e]
      exact ⟨fun _ => h, fun m h1 h2 => by omega⟩
    · have e : bestN C O fr w t (n + 1) = bestN C O fr w t n := if_neg h
      rw [e]
      refine ⟨ih.1, fun m h1 h2 => ?_⟩
      rcases Nat.lt_or_ge n m with h3 | h3
      · rw [show m = n + 1 from by omega]; exact h
      · exact ih.2 m h1 h3
theorem cel_mono {C : List S41} (g : Good C) (fr : Nat) {t : Int} (ht : 1 ≤ t ∧ t ≤ 64) (e : Int) {m n : Nat} (h : m ≤ n) : cel C fr m e t ≤ cel C fr n e t := by
  have := col_mono g fr ht (trm_mono C fr h)
  unfold cel
  omega
theorem cel_zero_le (C : List S41) (fr n : Nat) (e t : Int) : cel C fr n 0 t ≤ cel C fr n e t := by
  unfold cel
  rw [if_neg (by decide)]
  split <;> omega

/-- a line within boundaries lo and hi -/
def LineIn (C : List S41) (t : Int) (lo hi : Nat) (x : S63) : Prop := ∃ a n : Nat, ∃ e : Int, x = mkln C a n e t ∧ lo ≤ a ∧ 1 ≤ n ∧ a + n ≤ hi
theorem FL_in (C : List S41) (O : List Int) (w t : Int) (z : Nat) : ∀ (d fr : Nat), ∀ x ∈ FL C O w t d fr z, LineIn C t fr z x := by
  intro d
  induction d with
  | zero => intro fr x hx; cases hx
  | succ d ih =>
    intro fr x hx
    unfold FL at hx
    split at hx
    · rename_i h
      have hb := lnN_bd C O fr w t (N := z - fr) (by omega)
      rcases List.mem_cons.1 hx with rfl | hx
      · exact ⟨fr, _, _, rfl, Nat.le_refl _, hb.1, by omega⟩
      · obtain ⟨a, n, e, h1, h2, h3, h4⟩ := ih _ x hx
        exact ⟨a, n, e, h1, by omega, h3, h4⟩
    · cases hx
theorem FL_len (C : List S41) (O : List Int) (w t : Int) (z : Nat) : ∀ (d fr : Nat), (FL C O w t d fr z).length ≤ z - fr := by
  intro d
  induction d with
  | zero => intro fr; exact Nat.zero_le _
  | succ d ih =>
    intro fr
    unfold FL
    split
    · rename_i h
      have hb := lnN_bd C O fr w t (N := z - fr) (by omega)
      have := ih (fr + lnN C O fr w t (z - fr))
      simp only [List.length_cons]
      omega
    · exact Nat.zero_le _
/-- enough is enough -/
theorem FL_more (C : List S41) (O : List Int) (w t : Int) (z : Nat) : ∀ (d d' fr : Nat), z - fr ≤ d → z - fr ≤ d' → FL C O w t d fr z = FL C O w t d' fr z := by
  intro d
  induction d with
  | zero =>
    intro d' fr h h'
    cases d' with
    | zero => rfl
    | succ d' => unfold FL; rw [if_neg (by omega)]
  | succ d ih =>
    intro d' fr h h'
    cases d' with
    | zero => unfold FL; rw [if_neg (by omega)]
    | succ d' =>
      unfold FL
      split
      · rename_i hlt
        have hb := lnN_bd C O fr w t (N := z - fr) (by omega)
        rw [ih d' _ (by omega) (by omega)]
      · rfl
/-- the lines of a part -/
def PL (C : List S41) (O : List Int) (w t : Int) (fr z : Nat) : List S63 := FL C O w t (z - fr) fr z
theorem PL_lt (C : List S41) (O : List Int) (w t : Int) {fr z : Nat} (h : fr < z) :
    PL C O w t fr z = mkln C fr (lnN C O fr w t (z - fr)) (lnE C O fr w t (z - fr)) t :: PL C O w t (fr + lnN C O fr w t (z - fr)) z := by
  have hb := lnN_bd C O fr w t (N := z - fr) (by omega)
  obtain ⟨d, hd⟩ : ∃ d, z - fr = d + 1 := ⟨z - fr - 1, by omega⟩
  unfold PL
  rw [show FL C O w t (z - fr) fr z = FL C O w t (d + 1) fr z from by rw [hd]]
  rw [show FL C O w t (d + 1) fr z = mkln C fr (lnN C O fr w t (z - fr)) (lnE C O fr w t (z - fr)) t :: FL C O w t d (fr + lnN C O fr w t (z - fr)) z from if_pos h]
  rw [FL_more C O w t z d (z - (fr + lnN C O fr w t (z - fr))) _ (by omega) (by omega)]
theorem PL_ge (C : List S41) (O : List Int) (w t : Int) {fr z : Nat} (h : z ≤ fr) : PL C O w t fr z = [] := by
  unfold PL
  rw [show z - fr = 0 from by omega]; rfl

/-! ### parts -/
/-- the boundaries with Must -/
def PT (O : List Int) : List Nat := (List.range O.length).filter (fun i => op O i = 2)
/-- the lines of parts that end at such boundaries -/
def BK (C : List S41) (O : List Int) (w t : Int) : Nat → List Nat → List S63
  | _, [] => []
  | fr, z :: r => PL C O w t fr z ++ BK C O w t z r
/-- boundaries that rise, from fr on, up to n -/
def Rise (n : Nat) : Nat → List Nat → Prop
  | fr, [] => fr ≤ n
  | fr, z :: r => fr ≤ z ∧ Rise n z r
theorem Rise.le {n fr : Nat} {l : List Nat} (h : Rise n fr l) : fr ≤ n := by
  induction l generalizing fr with
  | nil => exact h
  | cons z r ih => have := ih h.2; have := h.1; omega
theorem rise_filter (O : List Int) (n : Nat) : ∀ (m s fr : Nat), fr ≤ s → s + m ≤ n + 1 → fr ≤ n → Rise n fr ((List.range' s m).filter (fun i => op O i = 2)) := by
  intro m
  induction m with
  | zero => intro s fr _ _ h; exact h
  | succ m ih =>
    intro s fr h1 h2 h3
    rw [List.range'_succ, List.filter_cons]
    split
    · exact ⟨h1, ih (s + 1) s (by omega) (by omega) (by omega)⟩
    · exact ih (s + 1) fr (by omega) (by omega) h3
theorem rise_PT {O : List Int} {n : Nat} (h : O.length = n + 1) : Rise n 0 (PT O) := by
  unfold PT
  rw [List.range_eq_range', h]
  exact rise_filter O n (n + 1) 0 0 (by omega) (by omega) (by omega)
theorem BK_in (C : List S41) (O : List Int) (w t : Int) (n : Nat) : ∀ (l : List Nat) (fr : Nat), Rise n fr l → ∀ x ∈ BK C O w t fr l, LineIn C t fr n x := by
  intro l
  induction l with
  | nil => intro fr _ x hx; cases hx
  | cons z r ih =>
    intro fr h x hx
    have hle := Rise.le h.2
    rcases List.mem_append.1 hx with hx | hx
    · obtain ⟨a, m, e, h1, h2, h3, h4⟩ := FL_in C O w t z _ fr x hx
      exact ⟨a, m, e, h1, h2, h3, by omega⟩
    · obtain ⟨a, m, e, h1, h2, h3, h4⟩ := ih z h.2 x hx
      have := h.1
      exact ⟨a, m, e, h1, by omega, h3, h4⟩
theorem BK_len (C : List S41) (O : List Int) (w t : Int) (n : Nat) : ∀ (l : List Nat) (fr : Nat), Rise n fr l → (BK C O w t fr l).length ≤ n - fr := by
  intro l
  induction l with
  | nil => intro fr _; exact Nat.zero_le _
  | cons z r ih =>
    intro fr h
    have h1 := ih z h.2
    have h2 := FL_len C O w t z (z - fr) fr
    have h3 := h.1
    have h4 := Rise.le h.2
    show (PL C O w t fr z ++ BK C O w t z r).length ≤ _
    rw [List.length_append]
    unfold PL
    omega
end Go.Proofs.Ytbnoeeflpegcoaa.Pure
end
section
/- The document's functions of layer 13 come to the same plain functions. -/
namespace Go.Proofs.Ytbnoeeflpegcoaa.Pure
open Go.RowKit Go.Proofs.YtbnoeeflpegcoaaW.PrintWords Go.Proofs.Ytbnoeeflpegcoaa.F

theorem rnext_l0 {x t : Int} (hx : 0 ≤ x ∧ x ≤ 1000000) (ht : 1 ≤ t ∧ t ≤ 64) : ∀ (d : Nat) (y : Int), x < y → y + d = x + t - x % t →
    Ev (fun k => stanzaref13_Next.l0 k t y) (x + t - x % t) := by
  have h1 := Int.emod_nonneg x (by omega : t ≠ 0)
  have h2 := Int.emod_lt_of_pos x (by omega : 0 < t)
  have h3 := Int.mul_ediv_add_emod x t
  intro d
  induction d with
  | zero =>
    intro y hy hd
    refine Ev.step (fun k => by unfold stanzaref13_Next.l0; rfl) (ev_neg (by omega) (ev_pos ?_ (ev_ret (by omega))))
    rw [tmodp (by omega), show y = t * (x / t + 1) from by rw [Int.mul_add, Int.mul_one]; omega]
    exact Int.mul_emod_right _ _
  | succ d ih =>
    intro y hy hd
    refine Ev.step (fun k => by unfold stanzaref13_Next.l0; rfl) (ev_neg (by omega) (ev_neg ?_ ?_))
    · rw [tmodp (by omega), show y = (y - t * (x / t)) + t * (x / t) from by omega, Int.add_mul_emod_self_left, Int.emod_eq_of_lt (by omega) (by omega)]
      omega
    · rw [w64 (by omega) (by omega)]
      exact ih (y + 1) (by omega) (by omega)
theorem rnext_ev {c : S41} {x t : Int} (h0 : 0 ≤ c.f2 ∧ c.f2 ≤ 2) (hx : 0 ≤ x ∧ x ≤ 1000000) (ht : 1 ≤ t ∧ t ≤ 64) : Ev (fun k => stanzaref13_Next.f k c.f0 c.f1 c.f2 c.f3 x t) (nxt c x t) := by
  unfold stanzaref13_Next.f nxt
  have h1 := Int.emod_nonneg x (by omega : t ≠ 0)
  have h2 := Int.emod_lt_of_pos x (by omega : 0 < t)
  by_cases h : c.f3 = 2
  · rw [if_pos h]
    refine ev_pos h ?_
    rw [w64 (by omega) (by omega)]
    exact rnext_l0 hx ht (t - x % t - 1).toNat (x + 1) (by omega) (by omega)
  · rw [if_neg h]
    refine ev_neg h (ev_ret ?_)
    rw [w64 (by omega) (by omega)]
theorem rcolumns_l0 {C : List S41} (g : Good C) (O : List Int) (fr n : Nat) {t : Int} (ht : 1 ≤ t ∧ t ≤ 64) (h : fr + n ≤ C.length) : ∀ (d i : Nat), i + d = n →
    Ev (fun k => stanzaref13_Columns.l0 k ((fr + n : Nat) : Int) t (col C fr t i) ((List.range (i + 1)).map (col C fr t)) ((fr + i : Nat) : Int) C O) ((List.range (n + 1)).map (col C fr t)) := by
  have hg := g.len
  intro d
  induction d with
  | zero =>
    intro i hi
    refine Ev.step (fun k => by unfold stanzaref13_Columns.l0; rfl) (ev_neg (by omega) (ev_ret ?_))
    rw [show i = n from by omega]
  | succ d ih =>
    intro i hi
    have hc := col_bd g fr ht i
    refine Ev.step (fun k => by unfold stanzaref13_Columns.l0; rfl) (ev_pos (by omega) (ev_pos (by omega) (ev_pos (by omega) ?_)))
    rw [rd_cl]
    refine ev_bind (rnext_ev (g.cells (fr + i)) (by omega) ht) ?_
    refine ev_pos (by rw [List.length_map, List.length_range]; omega) ?_
    rw [show wrap64 (((fr + i : Nat) : Int) + 1) = ((fr + (i + 1) : Nat) : Int) from by rw [w64 (by omega) (by omega)]; omega, show nxt (cl C (fr + i)) (col C fr t i) t = col C fr t (i + 1) from rfl, map_range_snoc]
    exact ih (i + 1) (by omega)
theorem rcolumns_ev {C : List S41} (g : Good C) (O : List Int) (fr n : Nat) {t : Int} (ht : 1 ≤ t ∧ t ≤ 64) (h : fr + n ≤ C.length) :
    Ev (fun k => stanzaref13_Columns.f k C O (fr : Int) ((fr + n : Nat) : Int) t) ((List.range (n + 1)).map (col C fr t)) :=
  rcolumns_l0 g O fr n ht h n 0 (by omega)
theorem rempty_eq {c : S41} : stanzaref13_Empty.f c.f0 c.f1 c.f2 c.f3 = some (emp c) := by
  unfold stanzaref13_Empty.f emp
  by_cases h1 : c.f3 = 1
  · rw [if_pos h1, h1]; rfl
  · rw [if_neg h1]
    by_cases h0 : c.f3 = 0
    · rw [if_pos h0, h0]; rfl
    · rw [if_neg h0]
      simp [h1, h0]
theorem rtrim_l0 {C : List S41} (g : Good C) (O : List Int) (fr n : Nat) (h : fr + n ≤ C.length) : ∀ (d i : Nat), i + d = n →
    Ev (fun k => stanzaref13_Trim.l0 k ((fr + n : Nat) : Int) ((fr + trm C fr i : Nat) : Int) ((fr + i : Nat) : Int) C O) ((fr + trm C fr n : Nat) : Int) := by
  have hg := g.len
  intro d
  induction d with
  | zero =>
    intro i hi
    refine Ev.step (fun k => by unfold stanzaref13_Trim.l0; rfl) (ev_neg (by omega) (ev_ret ?_))
    rw [show i = n from by omega]
  | succ d ih =>
    intro i hi
    refine Ev.step (fun k => by unfold stanzaref13_Trim.l0; rfl) (ev_pos (by omega) (ev_pos (by omega) (ev_pos (by omega) (ev_bind' rempty_eq ?_))))
    rw [rd_cl, show wrap64 (((fr + i : Nat) : Int) + 1) = ((fr + (i + 1) : Nat) : Int) from by rw [w64 (by omega) (by omega)]; omega]
    by_cases he : emp (cl C (fr + i)) = true
    · refine ev_pos he ?_
      rw [show trm C fr i = trm C fr (i + 1) from (if_pos he).symm]
      exact ih (i + 1) (by omega)
    · refine ev_neg he ?_
      have := ih (i + 1) (by omega)
      rwa [show trm C fr (i + 1) = i + 1 from if_neg he] at this
theorem rtrim_ev {C : List S41} (g : Good C) (O : List Int) (fr n : Nat) (h : fr + n ≤ C.length) :
    Ev (fun k => stanzaref13_Trim.f k C O (fr : Int) ((fr + n : Nat) : Int)) ((fr + trm C fr n : Nat) : Int) := by
  unfold stanzaref13_Trim.f
  exact rtrim_l0 g O fr n h n 0 (by omega)
theorem rcells_ev {C : List S41} (g : Good C) (O : List Int) (fr n : Nat) (e : Int) {t : Int} (ht : 1 ≤ t ∧ t ≤ 64) (h : fr + n ≤ C.length) :
    Ev (fun k => stanzaref13_Cells.f k C O (fr : Int) ((fr + n : Nat) : Int) e t) (cel C fr n e t) := by
  have hg := g.len
  have ht' := trm_le C fr n
  have hc := col_bd g fr ht (trm C fr n)
  unfold stanzaref13_Cells.f
  refine ev_bind (rtrim_ev g O fr n h) (ev_bind (rcolumns_ev g O fr (trm C fr n) ht (by omega)) ?_)
  rw [List.length_map, List.length_range, show wrap64 (((trm C fr n + 1 : Nat) : Int) - 1) = (trm C fr n : Int) from by rw [w64 (by omega) (by omega)]; omega, rd_map_range _ (by omega)]
  refine ev_pos (by omega) (ev_pos (by omega) ?_)
  unfold cel
  by_cases he : e = 3
  · refine ev_pos he (ev_ret ?_)
    rw [if_pos he, w64 (by omega) (by omega)]
  · refine ev_neg he (ev_ret ?_)
    rw [if_neg he]
    omega
theorem rgaps_l0 {C : List S41} (g : Good C) (O : List Int) (fr n : Nat) (h : fr + n ≤ C.length) : ∀ (d i : Nat), i + d = trm C fr n →
    Ev (fun k => stanzaref13_Gaps.l0 k (fr : Int) ((fr + n : Nat) : Int) (spc C fr i : Int) ((fr + i : Nat) : Int) C O) (gap C fr n : Int) := by
  have hg := g.len
  have ht := trm_le C fr n
  intro d
  induction d with
  | zero =>
    intro i hi
    refine Ev.step (fun k => by unfold stanzaref13_Gaps.l0; rfl) (ev_bind (rtrim_ev g O fr n h) ?_)
    refine ev_neg (by omega) (ev_ret ?_)
    rw [show i = trm C fr n from by omega]
    rfl
  | succ d ih =>
    intro i hi
    have hs := spc_le C fr i
    refine Ev.step (fun k => by unfold stanzaref13_Gaps.l0; rfl) (ev_bind (rtrim_ev g O fr n h) ?_)
    refine ev_pos (by omega) (ev_pos (by omega) (ev_pos (by omega) ?_))
    rw [rd_cl, show wrap64 (((fr + i : Nat) : Int) + 1) = ((fr + (i + 1) : Nat) : Int) from by rw [w64 (by omega) (by omega)]; omega]
    by_cases hk : (cl C (fr + i)).f3 = 1
    · refine ev_pos hk ?_
      rw [show wrap64 ((spc C fr i : Int) + 1) = ((spc C fr (i + 1) : Nat) : Int) from by rw [w64 (by omega) (by omega)]; simp [spc, hk]]
      exact ih (i + 1) (by omega)
    · refine ev_neg hk ?_
      rw [show spc C fr i = spc C fr (i + 1) from by simp [spc, hk]]
      exact ih (i + 1) (by omega)
theorem rgaps_ev {C : List S41} (g : Good C) (O : List Int) (fr n : Nat) (h : fr + n ≤ C.length) :
    Ev (fun k => stanzaref13_Gaps.f k C O (fr : Int) ((fr + n : Nat) : Int)) (gap C fr n : Int) := by
  unfold stanzaref13_Gaps.f
  exact rgaps_l0 g O fr n h (trm C fr n) 0 (by omega)
theorem rline_ev {C : List S41} (g : Good C) (O : List Int) (fr n : Nat) (e : Int) {t : Int} (ht : 1 ≤ t ∧ t ≤ 64) (h : fr + n ≤ C.length) :
    Ev (fun k => stanzaref13_Line.f k C O (fr : Int) ((fr + n : Nat) : Int) e t) ((fr : Int), ((fr + n : Nat) : Int), cel C fr n e t, e) := by
  unfold stanzaref13_Line.f
  exact ev_bind (rcells_ev g O fr n e ht h) (Ev.now _)
end Go.Proofs.Ytbnoeeflpegcoaa.Pure
end
section
/- The document's First, Parts and Break (in mode First) come to the plain functions. -/
namespace Go.Proofs.Ytbnoeeflpegcoaa.Pure
open Go.RowKit Go.Proofs.YtbnoeeflpegcoaaW.PrintWords Go.Proofs.Ytbnoeeflpegcoaa.F

theorem getD_neg (m : Nat) (fr : Nat) : (if m = 0 then (-1 : Int) else ((fr + m : Nat) : Int)) ≥ 0 ↔ m ≠ 0 := by
  split <;> omega
/-- a number of clusters as the code has it: a boundary, or -1 -/
def enc (fr m : Nat) : Int := if m = 0 then -1 else ((fr + m : Nat) : Int)
theorem enc_zero (fr : Nat) : enc fr 0 = -1 := rfl
theorem enc_pos {fr m : Nat} (h : m ≠ 0) : enc fr m = ((fr + m : Nat) : Int) := if_neg h
section
variable {C : List S41} (g : Good C) {O : List Int} (hO : O.length = C.length + 1) {w t : Int} (ht : 1 ≤ t ∧ t ≤ 64) (m3 h4 p5 : Int) (lo : Nat)
include g hO ht
theorem rfirst_end {fr z : Nat} (hft : fr < z) (hto : z ≤ C.length) (acc : List S63) (hacc : acc.length ≤ fr) {R : List S63}
    (H : Ev (fun k => stanzaref13_First.l0 k ((fr + lnN C O fr w t (z - fr) : Nat) : Int) (z : Int) (acc ++ [mkln C fr (lnN C O fr w t (z - fr)) (lnE C O fr w t (z - fr)) t]) C O w t m3 h4 p5 lo) R) :
    Ev (fun k => stanzaref13_First.l1 k (fr : Int) (z : Int) acc (enc fr (bestN C O fr w t (z - fr))) (enc fr (cutN C fr w t (z - fr))) ((z : Int) + 1) C O w t m3 h4 p5 lo) R := by
  have hg := g.len
  have hb := lnN_bd C O fr w t (N := z - fr) (by omega)
  have hcl := cutN_le C fr w t (z - fr)
  have hbl := bestN_le C O fr w t (z - fr)
  refine Ev.step (fun k => by unfold stanzaref13_First.l1; rfl) (ev_neg (by omega) ?_)
  by_cases h0 : bestN C O fr w t (z - fr) = 0
  · have eN : lnN C O fr w t (z - fr) = if cutN C fr w t (z - fr) = 0 then 1 else cutN C fr w t (z - fr) := if_pos h0
    have eE : lnE C O fr w t (z - fr) = if op O (fr + lnN C O fr w t (z - fr)) = 2 ∨ op O (fr + lnN C O fr w t (z - fr)) = 1 then op O (fr + lnN C O fr w t (z - fr)) else 4 := if_pos h0
    rw [h0, enc_zero]
    refine ev_neg (by omega) ?_
    by_cases hc : cutN C fr w t (z - fr) = 0
    · have e1 : lnN C O fr w t (z - fr) = 1 := by rw [eN, if_pos hc]
      rw [e1] at H eE
      rw [hc, enc_zero]
      refine ev_pos (by omega) ?_
      rw [w64 (x := (fr : Int) + 1) (by omega) (by omega), show (fr : Int) + 1 = ((fr + 1 : Nat) : Int) from by omega, rd_op]
      refine ev_pos (by omega) (ev_pos (by omega) ?_)
      by_cases o2 : op O (fr + 1) = 2
      · rw [if_pos (.inl o2)] at eE
        rw [eE] at H
        refine ev_pos o2 (ev_bind (rline_ev g O fr 1 _ ht (by omega)) ?_)
        exact ev_pos (by omega) H
      · refine ev_neg o2 ?_
        by_cases o1 : op O (fr + 1) = 1
        · rw [if_pos (.inr o1)] at eE
          rw [eE] at H
          refine ev_pos o1 (ev_bind (rline_ev g O fr 1 _ ht (by omega)) ?_)
          exact ev_pos (by omega) H
        · rw [if_neg (by omega)] at eE
          rw [eE] at H
          refine ev_neg o1 (ev_bind (rline_ev g O fr 1 _ ht (by omega)) ?_)
          exact ev_pos (by omega) H
    · have e1 : lnN C O fr w t (z - fr) = cutN C fr w t (z - fr) := by rw [eN, if_neg hc]
      rw [e1] at H eE hb
      rw [enc_pos hc]
      generalize cutN C fr w t (z - fr) = n at *
      refine ev_neg (by omega) ?_
      rw [rd_op]
      refine ev_pos (by omega) (ev_pos (by omega) ?_)
      by_cases o2 : op O (fr + n) = 2
      · rw [if_pos (.inl o2)] at eE
        rw [eE] at H
        refine ev_pos o2 (ev_bind (rline_ev g O fr n _ ht (by omega)) ?_)
        exact ev_pos (by omega) H
      · refine ev_neg o2 ?_
        by_cases o1 : op O (fr + n) = 1
        · rw [if_pos (.inr o1)] at eE
          rw [eE] at H
          refine ev_pos o1 (ev_bind (rline_ev g O fr n _ ht (by omega)) ?_)
          exact ev_pos (by omega) H
        · rw [if_neg (by omega)] at eE
          rw [eE] at H
          refine ev_neg o1 (ev_bind (rline_ev g O fr n _ ht (by omega)) ?_)
          exact ev_pos (by omega) H
  · have e1 : lnN C O fr w t (z - fr) = bestN C O fr w t (z - fr) := if_neg h0
    have eE : lnE C O fr w t (z - fr) = op O (fr + lnN C O fr w t (z - fr)) := if_neg h0
    rw [eE, e1] at H
    rw [e1] at hb
    rw [enc_pos h0]
    generalize bestN C O fr w t (z - fr) = n at *
    refine ev_pos (by omega) (ev_pos (by omega) (ev_pos (by omega) ?_))
    rw [rd_op]
    refine ev_bind (rline_ev g O fr n _ ht (by omega)) ?_
    exact ev_pos (by omega) H
theorem rfirst_l1 {fr z : Nat} (hft : fr < z) (hto : z ≤ C.length) (acc : List S63) {R : List S63}
    (H : Ev (fun k => stanzaref13_First.l1 k (fr : Int) (z : Int) acc (enc fr (bestN C O fr w t (z - fr))) (enc fr (cutN C fr w t (z - fr))) ((z : Int) + 1) C O w t m3 h4 p5 lo) R) : ∀ (d m : Nat), m + d = z - fr →
    Ev (fun k => stanzaref13_First.l1 k (fr : Int) (z : Int) acc (enc fr (bestN C O fr w t m)) (enc fr (cutN C fr w t m)) ((fr + (m + 1) : Nat) : Int) C O w t m3 h4 p5 lo) R := by
  have hg := g.len
  intro d
  induction d with
  | zero =>
    intro m hm
    rw [show m = z - fr from by omega, show ((fr + (z - fr + 1) : Nat) : Int) = (z : Int) + 1 from by omega]
    exact H
  | succ d ih =>
    intro m hm
    have ih' := ih (m + 1) (by omega)
    refine Ev.step (fun k => by unfold stanzaref13_First.l1; rfl) (ev_pos (by omega) (ev_bind (rcells_ev g O fr (m + 1) 0 ht (by omega)) ?_))
    rw [show wrap64 (((fr + (m + 1) : Nat) : Int) + 1) = ((fr + (m + 1 + 1) : Nat) : Int) from by rw [w64 (by omega) (by omega)]; omega, rd_op]
    have hle := cel_zero_le C fr (m + 1) (op O (fr + (m + 1))) t
    by_cases hc : cel C fr (m + 1) 0 t ≤ w
    · have ec : cutN C fr w t (m + 1) = m + 1 := if_pos hc
      rw [ec, enc_pos (fr := fr) (m := m + 1) (by omega)] at ih'
      refine ev_pos hc (ev_pos (by omega) (ev_pos (by omega) ?_))
      by_cases ho : op O (fr + (m + 1)) = 0
      · have eb : bestN C O fr w t (m + 1) = bestN C O fr w t m := if_neg (fun h => h.1 ho)
        rw [eb] at ih'
        exact ev_pos ho ih'
      · refine ev_neg ho (ev_bind (rcells_ev g O fr (m + 1) _ ht (by omega)) ?_)
        by_cases h2 : cel C fr (m + 1) (op O (fr + (m + 1))) t ≤ w
        · have eb : bestN C O fr w t (m + 1) = m + 1 := if_pos ⟨ho, h2⟩
          rw [eb, enc_pos (fr := fr) (m := m + 1) (by omega)] at ih'
          exact ev_pos h2 ih'
        · have eb : bestN C O fr w t (m + 1) = bestN C O fr w t m := if_neg (fun h => h2 h.2)
          rw [eb] at ih'
          exact ev_neg h2 ih'
    · have ec : cutN C fr w t (m + 1) = cutN C fr w t m := if_neg hc
      have eb : bestN C O fr w t (m + 1) = bestN C O fr w t m := if_neg (fun h => by omega)
      rw [ec, eb] at ih'
      exact ev_neg hc ih'
theorem rfirst_l0 {z : Nat} (hto : z ≤ C.length) : ∀ (d fr : Nat) (acc : List S63), z - fr ≤ d → fr ≤ z → acc.length ≤ fr →
    Ev (fun k => stanzaref13_First.l0 k (fr : Int) (z : Int) acc C O w t m3 h4 p5 lo) (acc ++ PL C O w t fr z) := by
  have hg := g.len
  intro d
  induction d with
  | zero =>
    intro fr acc hd hf _
    refine Ev.step (fun k => by unfold stanzaref13_First.l0; rfl) (ev_neg (by omega) (ev_ret ?_))
    rw [PL_ge _ _ _ _ (by omega), List.append_nil]
  | succ d ih =>
    intro fr acc hd hf hacc
    by_cases hlt : fr < z
    · have hb := lnN_bd C O fr w t (N := z - fr) (by omega)
      refine Ev.step (fun k => by unfold stanzaref13_First.l0; rfl) (ev_pos (by omega) ?_)
      rw [show wrap64 ((fr : Int) + 1) = ((fr + (0 + 1) : Nat) : Int) from by rw [w64 (by omega) (by omega)]; omega, PL_lt C O w t hlt]
      refine rfirst_l1 g hO ht m3 h4 p5 lo hlt hto acc (rfirst_end g hO ht m3 h4 p5 lo hlt hto acc hacc ?_) (z - fr) 0 (by omega)
      have := ih (fr + lnN C O fr w t (z - fr)) (acc ++ [mkln C fr (lnN C O fr w t (z - fr)) (lnE C O fr w t (z - fr)) t]) (by omega) (by omega) (by simp; omega)
      simpa [List.append_assoc] using this
    · refine Ev.step (fun k => by unfold stanzaref13_First.l0; rfl) (ev_neg (by omega) (ev_ret ?_))
      rw [PL_ge _ _ _ _ (by omega), List.append_nil]
theorem rfirst_ev {fr z : Nat} (hft : fr ≤ z) (hto : z ≤ C.length) : Ev (fun k => stanzaref13_First.f k C O (fr : Int) (z : Int) w t m3 h4 p5 lo) (PL C O w t fr z) := by
  have := rfirst_l0 g hO ht m3 h4 p5 lo (w := w) hto (z - fr) fr [] (Nat.le_refl _) hft (Nat.zero_le _)
  exact this
end

theorem rparts_l0 {C : List S41} {O : List Int} (hl : O.length ≤ 4001) : ∀ (d i : Nat), i + d = O.length →
    Ev (fun k => stanzaref10_Parts.l0 k (((List.range i).filter (fun i => op O i = 2)).map (fun i : Nat => (i : Int))) (i : Int) C O) ((PT O).map (fun i : Nat => (i : Int))) := by
  intro d
  induction d with
  | zero =>
    intro i hi
    refine Ev.step (fun k => by unfold stanzaref10_Parts.l0; rfl) (ev_neg (by omega) (ev_ret ?_))
    rw [show i = O.length from by omega]
    rfl
  | succ d ih =>
    intro i hi
    have ih' := ih (i + 1) (by omega)
    rw [List.range_succ, List.filter_append, List.map_append] at ih'
    refine Ev.step (fun k => by unfold stanzaref10_Parts.l0; rfl) (ev_pos (by omega) (ev_pos (by omega) ?_))
    rw [rd_op, show wrap64 ((i : Int) + 1) = ((i + 1 : Nat) : Int) from by rw [w64 (by omega) (by omega)]; rfl]
    by_cases h : op O i = 2
    · refine ev_pos h (ev_pos ?_ ?_)
      · have := List.length_filter_le (fun i => decide (op O i = 2)) (List.range i)
        rw [List.length_range] at this
        rw [List.length_map]
        omega
      · simpa [h] using ih'
    · refine ev_neg h ?_
      simpa [h] using ih'
theorem rparts_ev (C : List S41) {O : List Int} (hl : O.length ≤ 4001) : Ev (fun k => stanzaref10_Parts.f k C O) ((PT O).map (fun i : Nat => (i : Int))) :=
  rparts_l0 hl O.length 0 (by omega)
theorem rbreak_l0 {C : List S41} (g : Good C) {O : List Int} (hO : O.length = C.length + 1) {w t : Int} (ht : 1 ≤ t ∧ t ≤ 64) (h4 p5 : Int) (lo : Nat) (L : List Nat) (hL : L.length ≤ 4001) : ∀ (r : List Nat) (i fr : Nat) (acc : List S63), L.drop i = r →
    Rise C.length fr r → acc.length ≤ fr →
    Ev (fun k => stanzaref13_Break.l0 k acc false (fr : Int) (L.map (fun i : Nat => (i : Int))) (i : Int) C O w t 0 h4 p5 lo) (acc ++ BK C O w t fr r, false) := by
  have hg := g.len
  intro r
  induction r with
  | nil =>
    intro i fr acc hi _ _
    have : L.length ≤ i := List.drop_eq_nil_iff.1 hi
    refine Ev.step (fun k => by unfold stanzaref13_Break.l0; rfl) (ev_neg (by rw [List.length_map]; omega) (ev_ret ?_))
    simp [BK]
  | cons z r ih =>
    intro i fr acc hi hr hacc
    have hlt : i < L.length := by
      rcases Nat.lt_or_ge i L.length with h | h
      · exact h
      · rw [List.drop_of_length_le h] at hi; cases hi
    have hto : L[i] = z ∧ L.drop (i + 1) = r := by
      rw [List.drop_eq_getElem_cons hlt] at hi
      injection hi with h1 h2
      exact ⟨h1, h2⟩
    have e1 : rd (L.map (fun i : Nat => (i : Int))) (i : Int) = (z : Int) := by
      rw [rd_nat, List.getD_eq_getElem?_getD, List.getElem?_map, List.getElem?_eq_getElem hlt, hto.1]; rfl
    have h1 := Rise.le hr.2
    have h2 := FL_len C O w t z (z - fr) fr
    have h3 := hr.1
    have ep : Ev (fun k => stanzaref13_Part.f k C O (fr : Int) (z : Int) w t 0 h4 p5 lo) (PL C O w t fr z, false) := by
      unfold stanzaref13_Part.f
      exact ev_pos rfl (ev_bind (rfirst_ev g hO ht 0 h4 p5 lo h3 h1) (Ev.now _))
    refine Ev.step (fun k => by unfold stanzaref13_Break.l0; rfl) (ev_pos (by rw [List.length_map]; omega) (ev_pos (by omega) ?_))
    rw [e1]
    refine ev_bind ep ?_
    refine ev_pos (by show acc.length + (PL C O w t fr z).length < _; unfold PL; omega) (ev_let ?_)
    refine ev_neg (by decide) ?_
    rw [show wrap64 ((i : Int) + 1) = ((i + 1 : Nat) : Int) from by rw [w64 (by omega) (by omega)]; rfl]
    have := ih (i + 1) z (acc ++ PL C O w t fr z) hto.2 hr.2 (by rw [List.length_append]; unfold PL; omega)
    simpa [BK, List.append_assoc] using this
theorem rbreak_ev {C : List S41} (g : Good C) {O : List Int} (hO : O.length = C.length + 1) {w t : Int} (ht : 1 ≤ t ∧ t ≤ 64) (h4 p5 : Int) (lo : Nat) :
    Ev (fun k => stanzaref13_Break.f k C O w t 0 h4 p5 lo) (BK C O w t 0 (PT O), false) := by
  have hg := g.len
  unfold stanzaref13_Break.f
  refine ev_bind (rparts_ev C (by omega)) ?_
  have hL : (PT O).length ≤ 4001 := by
    have := List.length_filter_le (fun i => decide (op O i = 2)) (List.range O.length)
    rw [List.length_range] at this
    unfold PT
    omega
  have := rbreak_l0 g hO ht (w := w) h4 p5 lo (PT O) hL (PT O) 0 0 [] rfl (rise_PT hO) (Nat.zero_le _)
  exact this
end Go.Proofs.Ytbnoeeflpegcoaa.Pure
end
section
/- A way made of small numbers. -/
namespace Go.Proofs.Ytbnoeeflpegcoaa.Pure
open Go.RowKit Go.Proofs.YtbnoeeflpegcoaaW.PrintWords Go.Proofs.Ytbnoeeflpegcoaa.F
theorem config_eq {a b c d e : Int} (l : Nat) (ha : 0 ≤ a ∧ a ≤ 255) (hb : 0 ≤ b ∧ b ≤ 255) (hc : 0 ≤ c ∧ c ≤ 255) (hd : 0 ≤ d ∧ d ≤ 65535) (he : 0 ≤ e ∧ e ≤ 65535) :
    stanzahand03_Config.f a b c d e l = some (1 + a, 1 + b % 64, c % 2, d, e, l) := by
  unfold stanzahand03_Config.f
  rw [tmodp hb.1, tmodp hc.1, w64 (x := a) (by omega) (by omega), w64 (x := 1 + a) (by omega) (by omega), w64 (x := b % 64) (by omega) (by omega), w64 (x := 1 + b % 64) (by omega) (by omega), w64 (x := d) (by omega) (by omega), w64 (x := e) (by omega) (by omega)]
theorem way_of {a b c d e : Int} {l : Nat} (h : (Lit.int .u8 a).wf = true ∧ (Lit.int .u8 b).wf = true ∧ (Lit.int .u8 c).wf = true ∧ (Lit.int .u16 d).wf = true ∧ (Lit.int .u16 e).wf = true ∧ (Lit.float .f64 l).wf = true) :
    (0 ≤ a ∧ a ≤ 255) ∧ (0 ≤ b ∧ b ≤ 255) ∧ (0 ≤ c ∧ c ≤ 255) ∧ (0 ≤ d ∧ d ≤ 65535) ∧ (0 ≤ e ∧ e ≤ 65535) := by
  rw [wfu8, wfu8, wfu8, wfu16, wfu16] at h
  exact ⟨h.1, h.2.1, h.2.2.1, h.2.2.2.1, h.2.2.2.2.1⟩
end Go.Proofs.Ytbnoeeflpegcoaa.Pure
end
section
/- Layer 18's text and its lines. -/
namespace Go.Proofs.Ytbnoeeflpegcoaa.Pure
open Go.RowKit Go.Proofs.YtbnoeeflpegcoaaW.PrintWords Go.Proofs.Ytbnoeeflpegcoaa.F
theorem lined18 {l : List S50} (hs : ∀ b ∈ l, Small b) (hl : l.length ≤ 140737488355328) {a b c d e : Int} (lo : Nat) (ha : 0 ≤ a ∧ a ≤ 255) (hb : 0 ≤ b ∧ b ≤ 255) (hc : 0 ≤ c ∧ c ≤ 255) (hd : 0 ≤ d ∧ d ≤ 65535) (he : 0 ≤ e ∧ e ≤ 65535) :
    Ev (fun k => stanzalaw18_lined.f k l a b c d e lo) (CL (l.take 100), OP (l.take 100), BK (CL (l.take 100)) (OP (l.take 100)) (1 + a) (1 + b % 64) 0 (PT (OP (l.take 100))), 1 + a, 1 + b % 64, 0, d, e, lo) := by
  have hm : mn (l.length : Int) 100 = ((min l.length 100 : Nat) : Int) := by unfold mn; split <;> omega
  have ht : l.take (min l.length 100) = l.take 100 := by
    rcases Nat.le_total l.length 100 with h | h
    · rw [Nat.min_eq_left h, List.take_of_length_le (Nat.le_refl _), List.take_of_length_le h]
    · rw [Nat.min_eq_right h]
  have hlen : (l.take 100).length ≤ 100 := List.length_take_le _ _
  have g : Good (CL (l.take 100)) := good_CL (by omega)
  unfold stanzalaw18_lined.f
  rw [hm, Int.toNat_natCast, ht]
  refine ev_pos (by omega) (ev_pos (by omega) ?_)
  refine ev_bind (para_ev (l := l.take 100) (by omega) (fun b hb => hs b (List.mem_of_mem_take hb))) ?_
  refine ev_bind' (config_eq lo ha hb hc hd he) ?_
  dsimp only
  refine ev_bind (rbreak_ev g (by rw [OP_len, CL_len]) (by omega) d e lo) (Ev.now _)
end Go.Proofs.Ytbnoeeflpegcoaa.Pure
end
section
/- JustFills: a line that doesn't end by Must or Cut, with a space in it, and no wider than the width, fills it, with its hyphen; others are as wide as they are. -/
namespace Go.Proofs.Ytbnoeeflpegcoaa.Pure
open Go.RowKit Go.Proofs.YtbnoeeflpegcoaaW.PrintWords Go.Proofs.Ytbnoeeflpegcoaa.F
theorem getD_lineF {L : List S63} {i : Nat} (h : i < L.length) : rd_T63 L (i : Int) ∈ L := by
  show L.getD i z63 ∈ L
  rw [List.getD_eq_getElem?_getD, List.getElem?_eq_getElem h]
  exact List.getElem_mem h
section
variable {C : List S41} (g : Good C) (O : List Int) {w t : Int} (hw : 1 ≤ w ∧ w ≤ 1048576) (ht : 1 ≤ t ∧ t ≤ 64) (m3 h4 p5 : Int) (lo : Nat) (L : List S63) (a n : Nat) (han : a + n ≤ C.length) (e : Int)
include g hw ht han
/-- behind the sums -/
theorem fills_j2 (i : Nat) (hi : i < L.length) (hn : L.length ≤ 4001) (H : Ev (fun k => stanzalaw18_JustFills.l0 k L (L.length : Int) ((i + 1 : Nat) : Int) C O w t m3 h4 p5 lo) true) :
    Ev (fun k => stanzalaw18_JustFills.j2 k ((WD C a n e w t).sum + (if e = 3 then 1 else 0)) (gap C a n : Int) L (L.length : Int) (i : Int) C O w t m3 h4 p5 lo (a : Int) ((a + n : Nat) : Int) (cel C a n e t) e) true := by
  rw [wide_total g a n han e hw ht]
  have hn1 : wrap64 ((i : Int) + 1) = ((i + 1 : Nat) : Int) := by rw [w64 (by omega) (by omega)]; rfl
  have jf : ∀ s x, s = x → Ev (fun k => stanzalaw18_JustFills.j3 k s x L (L.length : Int) (i : Int) false C O w t m3 h4 p5 lo) true := by
    intro s x hx
    refine Ev.step (fun k => by unfold stanzalaw18_JustFills.j3; rfl) (ev_neg (by decide) (ev_pos hx ?_))
    rw [hn1]
    exact H
  have jt : ∀ s x, s = w → Ev (fun k => stanzalaw18_JustFills.j3 k s x L (L.length : Int) (i : Int) true C O w t m3 h4 p5 lo) true := by
    intro s x hx
    refine Ev.step (fun k => by unfold stanzalaw18_JustFills.j3; rfl) (ev_pos rfl (ev_pos hx ?_))
    rw [hn1]
    exact H
  refine Ev.step (fun k => by unfold stanzalaw18_JustFills.j2; rfl) ?_
  by_cases h2 : e = 2
  · refine ev_pos h2 (jf _ _ ?_)
    rw [if_neg (fun hh => hh.1 h2)]
  · refine ev_neg h2 ?_
    by_cases h4 : e = 4
    · refine ev_pos h4 (jf _ _ ?_)
      rw [if_neg (fun hh => hh.2.1 h4)]
    · refine ev_neg h4 ?_
      by_cases hgp : 0 < gap C a n
      · refine ev_pos (by omega) ?_
        by_cases hc : cel C a n e t ≤ w
        · rw [show decide (cel C a n e t ≤ w) = true from decide_eq_true hc]
          refine jt _ _ ?_
          rw [if_pos ⟨h2, h4, hgp, hc⟩]
        · rw [show decide (cel C a n e t ≤ w) = false from decide_eq_false hc]
          refine jf _ _ ?_
          rw [if_neg (fun hh => hc hh.2.2.2)]
      · refine ev_neg (by omega) (jf _ _ ?_)
        rw [if_neg (fun hh => hgp hh.2.2.1)]
theorem fills_l1 (i : Nat) (hi : i < L.length) (hn : L.length ≤ 4001) (H : Ev (fun k => stanzalaw18_JustFills.l0 k L (L.length : Int) ((i + 1 : Nat) : Int) C O w t m3 h4 p5 lo) true) : ∀ (d j : Nat), j + d = trm C a n →
    Ev (fun k => stanzalaw18_JustFills.l1 k ((List.range j).map (wid C a t (ext C a n e w t))).sum (spc C a j : Int) L (L.length : Int) (i : Int) (WD C a n e w t) (trm C a n : Int) (j : Int) C O w t m3 h4 p5 lo (a : Int) ((a + n : Nat) : Int) (cel C a n e t) e) true := by
  have hg := g.len
  have hT := trm_le C a n
  have hsum : ∀ j : Nat, 0 ≤ ((List.range j).map (wid C a t (ext C a n e w t))).sum ∧ ((List.range j).map (wid C a t (ext C a n e w t))).sum ≤ 1048641 * j := by
    intro j
    induction j with
    | zero => simp
    | succ j ih =>
      have := wid_bd g a n e w ht j
      rw [List.range_succ, List.map_append, List.sum_append]
      simp only [List.map_cons, List.map_nil, List.sum_cons, List.sum_nil]
      omega
  intro d
  induction d with
  | zero =>
    intro j hj
    have hs := hsum j
    have hj2 := fills_j2 g O hw ht m3 h4 p5 lo L a n han e i hi hn H
    refine Ev.step (fun k => by unfold stanzalaw18_JustFills.l1; rfl) (ev_neg (by omega) ?_)
    rw [show j = trm C a n from by omega] at hs ⊢
    have e1 : (List.range (trm C a n)).map (wid C a t (ext C a n e w t)) = WD C a n e w t := rfl
    have e2 : spc C a (trm C a n) = gap C a n := rfl
    rw [e1] at hs ⊢
    rw [e2]
    by_cases h3 : e = 3
    · rw [if_pos h3] at hj2
      refine ev_pos h3 ?_
      rw [w64 (by omega) (by omega)]
      exact hj2
    · rw [if_neg h3, Int.add_zero] at hj2
      exact ev_neg h3 hj2
  | succ d ih =>
    intro j hj
    have ih' := ih (j + 1) (by omega)
    have hs := hsum j
    have hs2 := hsum (j + 1)
    have hk := spc_le C a j
    have hb := bas_bd g a ht j
    have hwd := wid_bd g a n e w ht j
    have hex := ext_getD C a n e w t (spc C a j)
    have e3 : ((List.range (j + 1)).map (wid C a t (ext C a n e w t))).sum = ((List.range j).map (wid C a t (ext C a n e w t))).sum + wid C a t (ext C a n e w t) j := by
      rw [List.range_succ, List.map_append, List.sum_append]
      simp
    have er : rd (WD C a n e w t) (j : Int) = wid C a t (ext C a n e w t) j := by unfold WD; exact rd_map_range _ (by omega)
    rw [e3] at ih' hs2
    refine Ev.step (fun k => by unfold stanzalaw18_JustFills.l1; rfl) (ev_pos (by omega) (ev_pos (by omega) (ev_pos (by simp [WD]; omega) ?_)))
    rw [er, w64 (x := (a : Int) + (j : Int)) (by omega) (by omega), show (a : Int) + (j : Int) = ((a + j : Nat) : Int) from by omega, rd_cl, show wrap64 ((j : Int) + 1) = ((j + 1 : Nat) : Int) from by rw [w64 (by omega) (by omega)]; rfl,
      w64 (x := ((List.range j).map (wid C a t (ext C a n e w t))).sum + wid C a t (ext C a n e w t) j) (by omega) (by omega)]
    refine ev_pos (by omega) (ev_pos (by omega) ?_)
    by_cases h1 : (cl C (a + j)).f3 = 1
    · refine ev_pos h1 (ev_neg ?_ ?_)
      · have := bas_plain C a t (i := j) (by omega)
        unfold wid
        split <;> omega
      · rw [show wrap64 ((spc C a j : Int) + 1) = ((spc C a (j + 1) : Nat) : Int) from by rw [w64 (by omega) (by omega)]; simp [spc, h1]]
        exact ih'
    · rw [show spc C a (j + 1) = spc C a j from by simp [spc, h1]] at ih'
      refine ev_neg h1 ?_
      by_cases h0 : (cl C (a + j)).f3 = 0
      · refine ev_pos h0 (ev_pos ?_ ih')
        have := bas_plain C a t (i := j) (by omega)
        unfold wid
        rw [if_neg (fun hh => h1 hh.1)]
        omega
      · exact ev_neg h0 ih'
end
theorem fills_l0 {C : List S41} (g : Good C) (O : List Int) {w t : Int} (hw : 1 ≤ w ∧ w ≤ 1048576) (ht : 1 ≤ t ∧ t ≤ 64) (m3 h4 p5 : Int) (lo : Nat) (L : List S63) (hL : ∀ x ∈ L, LineIn C t 0 C.length x) (hn : L.length ≤ 4001) : ∀ (d i : Nat), i + d = L.length →
    Ev (fun k => stanzalaw18_JustFills.l0 k L (L.length : Int) (i : Int) C O w t m3 h4 p5 lo) true := by
  have hg := g.len
  intro d
  induction d with
  | zero =>
    intro i hi
    exact Ev.step (fun k => by unfold stanzalaw18_JustFills.l0; rfl) (ev_neg (by omega) (Ev.now _))
  | succ d ih =>
    intro i hi
    obtain ⟨a, n, e, he, _, _, han⟩ := hL _ (getD_lineF (show i < L.length from by omega))
    have hj := fills_l1 g O hw ht m3 h4 p5 lo L a n han e i (by omega) hn (ih (i + 1) (by omega)) (trm C a n) 0 (by omega)
    refine Ev.step (fun k => by unfold stanzalaw18_JustFills.l0; rfl) (ev_pos (by omega) (ev_pos (by omega) (ev_pos (by omega) ?_)))
    rw [he]
    refine ev_bind (jline_ev g O a n han e hw ht _ m3 h4 p5 lo) ?_
    rw [show ((WD C a n e w t).length : Int) = (trm C a n : Int) from by simp [WD]]
    exact hj
theorem JustFills : stanzalaw18_JustFills.Pure := by
  intro l a b c d e lo hl hw
  obtain ⟨ha, hb, hc, hd, he⟩ := way_of hw
  refine Ev.rounds ?_
  unfold stanzalaw18_JustFills.f
  refine ev_bind awake18 (ev_pos rfl ?_)
  refine ev_bind (lined18 (fun b hb => small_of (hl.2 b hb)) (by omega) lo ha hb hc hd he) ?_
  dsimp only
  have hlen : (l.take 100).length ≤ 100 := List.length_take_le _ _
  have g : Good (CL (l.take 100)) := good_CL (by omega)
  have hO : (OP (l.take 100)).length = (CL (l.take 100)).length + 1 := by rw [OP_len, CL_len]
  have hlen2 := BK_len (CL (l.take 100)) (OP (l.take 100)) (1 + a) (1 + b % 64) _ _ 0 (rise_PT hO)
  rw [CL_len] at hlen2
  exact fills_l0 g _ (by omega) (by omega) 0 d e lo _ (BK_in _ _ _ _ _ _ 0 (rise_PT hO)) (by omega) _ 0 (Nat.zero_add _)
end Go.Proofs.Ytbnoeeflpegcoaa.Pure
end
