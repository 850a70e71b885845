/- Plain proofs: what the printed functions compute. -/
import Derived.Test.YtfeidhmkmbgnoaaXDrawWords0
import Derived.WalkKit
import Derived.Test.YtfeidhmkmbgnoaaVDrawWords0
import Derived.Test.YtfeidhmkmbgnoaaVDrawWords2
import Derived.Test.YtfeidhmkmbgnoaaVDrawWords1
import Derived.Test.YtfeidhmkmbgnoaaVDrawWords3
section
/- Helpers of the plain proofs: eventual values (Ev), wrapped numbers, lists. -/
namespace Go.Proofs.Ytfeidhmkmbgnoaa.Pure
open Go.RowKit Go.Proofs.YtfeidhmkmbgnoaaW.PrintWords
theorem ev_pos {α : Type} {c : Prop} [Decidable c] {a b : Nat → Option α} {r : α} (h : c) (H : Ev a r) : Ev (fun k => if c then a k else b k) r := by simpa [h] using H
theorem ev_neg {α : Type} {c : Prop} [Decidable c] {a b : Nat → Option α} {r : α} (h : ¬ c) (H : Ev b r) : Ev (fun k => if c then a k else b k) r := by simpa [h] using H
theorem ev_ret {α : Type} {x r : α} (h : x = r) : Ev (fun _ => some x) r := by subst h; exact Ev.now _
theorem ev_bind {α β : Type} {g : Nat → Option α} {f : Nat → α → Option β} {a : α} {r : β} (h : Ev g a) (k : Ev (fun n => f n a) r) : Ev (fun n => (g n).bind (f n)) r := Ev.bind h k
theorem ev_bind' {α β : Type} {o : Option α} {f : Nat → α → Option β} {a : α} {r : β} (h : o = some a) (k : Ev (fun n => f n a) r) : Ev (fun n => o.bind (f n)) r := by subst h; exact k
theorem ev_let {α β : Type} {a : α} {f : Nat → α → Option β} {r : β} (k : Ev (fun n => f n a) r) : Ev (fun n => (some a).bind (f n)) r := k
theorem w64 {x : Int} (h1 : -9223372036854775808 ≤ x) (h2 : x ≤ 9223372036854775807) : wrap64 x = x := by unfold wrap64; omega
theorem tmodp {a b : Int} (h : 0 ≤ a) : Int.tmod a b = a % b := Int.tmod_eq_emod_of_nonneg h
theorem tdivp {a b : Int} (h : 0 ≤ a) : Int.tdiv a b = a / b := Int.tdiv_eq_ediv_of_nonneg h
theorem wfu8 {x : Int} : (Lit.int .u8 x).wf = true ↔ 0 ≤ x ∧ x ≤ 255 := by simp [Lit.wf, IntKind.min, IntKind.max, IntKind.signed, IntKind.bits]
theorem wfu16 {x : Int} : (Lit.int .u16 x).wf = true ↔ 0 ≤ x ∧ x ≤ 65535 := by simp [Lit.wf, IntKind.min, IntKind.max, IntKind.signed, IntKind.bits]
theorem rd_nat (xs : List Int) (n : Nat) : rd xs (n : Int) = xs.getD n 0 := rfl
theorem getD_map_range (g : Nat → Int) {n i : Nat} (h : i < n) : ((List.range n).map g).getD i 0 = g i := by
 rw [List.getD_eq_getElem?_getD, List.getElem?_map, List.getElem?_range h]; rfl
theorem rd_map_range (g : Nat → Int) {n i : Nat} (h : i < n) : rd ((List.range n).map g) (i : Int) = g i := getD_map_range g h
theorem map_range_snoc {α : Type} (g : Nat → α) (n : Nat) : (List.range n).map g ++ [g n] = (List.range (n + 1)).map g := by
 rw [List.range_succ, List.map_append]; rfl
theorem mod3 (x : Int) : 0 ≤ x % 3 ∧ x % 3 ≤ 2 := by omega
theorem mod4 (x : Int) : 0 ≤ x % 4 ∧ x % 4 ≤ 3 := by omega
end Go.Proofs.Ytfeidhmkmbgnoaa.Pure
end
section
/- Texts of clusters and widths, as plain functions: what Para makes, columns, what is empty at a line's end, gaps. -/
namespace Go.Proofs.Ytfeidhmkmbgnoaa.Pure
open Go.RowKit Go.Proofs.YtfeidhmkmbgnoaaW.PrintWords Go.Proofs.Ytfeidhmkmbgnoaa.F
def cl (C : List S61) (i : Nat) : S61 := C.getD i z61
theorem rd_cl (C : List S61) (i : Nat) : rd_T61 C (i : Int) = cl C i := rfl
def bit (l : List S49) (i : Nat) : S49 := l.getD i z49
theorem rd_bit (l : List S49) (i : Nat) : rd_T49 l (i : Int) = bit l i := rfl
def Small (b : S49) : Prop := (0 ≤ b.f0 ∧ b.f0 ≤ 255) ∧ (0 ≤ b.f1 ∧ b.f1 ≤ 255) ∧ (0 ≤ b.f2 ∧ b.f2 ≤ 255) ∧ (0 ≤ b.f3 ∧ b.f3 ≤ 255)
theorem small_of {b : S49} (h : (Lit.int .u8 b.f0).wf = true ∧ (Lit.int .u8 b.f1).wf = true ∧ (Lit.int .u8 b.f2).wf = true ∧ (Lit.int .u8 b.f3).wf = true) : Small b := by
 rw [wfu8, wfu8, wfu8, wfu8] at h
 exact h
theorem bit_mem {l : List S49} {i : Nat} (h : i < l.length) : bit l i ∈ l := by
 unfold bit
 rw [List.getD_eq_getElem?_getD, List.getElem?_eq_getElem h]
 exact List.getElem_mem h
def atl (l : List S49) : Nat → Int
 | 0 => 0
 | i + 1 => atl l i + (1 + (bit l i).f2 % 4)
def clus (l : List S49) (i : Nat) : S61 := ⟨atl l i, 1 + (bit l i).f2 % 4, (bit l i).f0 % 3, (bit l i).f1 % 3⟩
def opp (l : List S49) (i : Nat) : Int := if i = l.length then 2 else if i = 0 then 0 else (bit l (i - 1)).f3 % 4
def CL (l : List S49) : List S61 := (List.range l.length).map (clus l)
def OP (l : List S49) : List Int := (List.range (l.length + 1)).map (opp l)
theorem CL_len (l : List S49) : (CL l).length = l.length := by simp [CL]
theorem OP_len (l : List S49) : (OP l).length = l.length + 1 := by simp [OP]
theorem cl_CL {l : List S49} {i : Nat} (h : i < l.length) : cl (CL l) i = clus l i := by
 unfold cl CL
 rw [List.getD_eq_getElem?_getD, List.getElem?_map, List.getElem?_range h]; rfl
theorem atl_bd (l : List S49) (i : Nat) : (i : Int) ≤ atl l i ∧ atl l i ≤ 4 * i := by
 induction i with
 | zero => simp [atl]
 | succ i ih =>
  have := mod4 (bit l i).f2
  simp only [atl, Int.natCast_add, Int.natCast_one]
  omega
structure Good (C : List S61) : Prop where
 len : C.length ≤ 4000
 cells : ∀ i, 0 ≤ (cl C i).f2 ∧ (cl C i).f2 ≤ 2
 kind : ∀ i, 0 ≤ (cl C i).f3 ∧ (cl C i).f3 ≤ 2
theorem cl_out {C : List S61} {i : Nat} (h : C.length ≤ i) : cl C i = z61 := by
 unfold cl
 rw [List.getD_eq_getElem?_getD, List.getElem?_eq_none h]; rfl
theorem good_CL {l : List S49} (h : l.length ≤ 4000) : Good (CL l) := by
 refine ⟨by rw [CL_len]; exact h, fun i => ?_, fun i => ?_⟩
 ·by_cases hi : i < l.length
  ·rw [cl_CL hi]; exact mod3 _
  ·rw [cl_out (by rw [CL_len]; omega)]; exact ⟨Int.le_refl _, by decide⟩
 ·by_cases hi : i < l.length
  ·rw [cl_CL hi]; exact mod3 _
  ·rw [cl_out (by rw [CL_len]; omega)]; exact ⟨Int.le_refl _, by decide⟩
def nxt (c : S61) (x t : Int) : Int := if c.f3 = 2 then x + t - x % t else x + c.f2
def col (C : List S61) (fr : Nat) (t : Int) : Nat → Int
 | 0 => 0
 | n + 1 => nxt (cl C (fr + n)) (col C fr t n) t
def emp (c : S61) : Bool := c.f3 == 1 || (c.f3 == 0 && c.f2 == 0)
def trm (C : List S61) (fr : Nat) : Nat → Nat
 | 0 => 0
 | n + 1 => if emp (cl C (fr + n)) then trm C fr n else n + 1
def cel (C : List S61) (fr n : Nat) (e t : Int) : Int := col C fr t (trm C fr n) + if e = 3 then 1 else 0
def spc (C : List S61) (fr : Nat) : Nat → Nat
 | 0 => 0
 | n + 1 => spc C fr n + if (cl C (fr + n)).f3 = 1 then 1 else 0
def gap (C : List S61) (fr n : Nat) : Nat := spc C fr (trm C fr n)
theorem nxt_bd {c : S61} {x t : Int} (h0 : 0 ≤ c.f2 ∧ c.f2 ≤ 2) (_ : 0 ≤ x) (ht : 1 ≤ t ∧ t ≤ 64) : x ≤ nxt c x t ∧ nxt c x t ≤ x + 64 := by
 unfold nxt
 have h1 := Int.emod_nonneg x (by omega : t ≠ 0)
 have h2 := Int.emod_lt_of_pos x (by omega : 0 < t)
 split <;> omega
theorem col_bd {C : List S61} (g : Good C) (fr : Nat) {t : Int} (ht : 1 ≤ t ∧ t ≤ 64) (n : Nat) : 0 ≤ col C fr t n ∧ col C fr t n ≤ 64 * n := by
 induction n with
 | zero => simp [col]
 | succ n ih =>
  have := nxt_bd (g.cells (fr + n)) ih.1 ht
  simp only [col, Int.natCast_add, Int.natCast_one]
  omega
theorem trm_le (C : List S61) (fr n : Nat) : trm C fr n ≤ n := by
 induction n with
 | zero => exact Nat.le_refl _
 | succ n ih =>
  unfold trm
  split <;> omega
theorem spc_le (C : List S61) (fr n : Nat) : spc C fr n ≤ n := by
 induction n with
 | zero => exact Nat.le_refl _
 | succ n ih =>
  unfold spc
  split <;> omega
theorem cel_bd {C : List S61} (g : Good C) (fr n : Nat) (e : Int) {t : Int} (ht : 1 ≤ t ∧ t ≤ 64) : 0 ≤ cel C fr n e t ∧ cel C fr n e t ≤ 64 * n + 1 := by
 have h1 := col_bd g fr ht (trm C fr n)
 have h2 := trm_le C fr n
 unfold cel
 split <;> omega
end Go.Proofs.Ytfeidhmkmbgnoaa.Pure
end
section
/- What Spread, SameInts and layer 18's Awake come to, as plain lists. -/
namespace Go.Proofs.Ytfeidhmkmbgnoaa.Pure
open Go.RowKit Go.Proofs.YtfeidhmkmbgnoaaW.PrintWords Go.Proofs.Ytfeidhmkmbgnoaa.F
def shr1 (room g : Int) (i : Nat) : Int := room * (i + 1) / g - room * i / g
def spr (room g : Int) : List Int := if 0 ≤ room ∧ room ≤ 1048576 ∧ 1 ≤ g ∧ g ≤ 4096 then (List.range g.toNat).map (shr1 room g) else []
theorem share_bd {room g : Int} {i : Nat} (h : 0 ≤ room ∧ room ≤ 1048576 ∧ 1 ≤ g ∧ g ≤ 4096) (hi : (i : Int) ≤ 4096) : 0 ≤ room * i ∧ room * i ≤ 4294967296 ∧ 0 ≤ room * i / g ∧ room * i / g ≤ 4294967296 := by
 have h1 : 0 ≤ room * i := Int.mul_nonneg h.1 (by omega)
 have h2 : room * i ≤ 1048576 * 4096 := Int.mul_le_mul h.2.1 hi (by omega) (by omega)
 have h3 : 0 ≤ room * i / g := Int.ediv_nonneg h1 (by omega)
 have h4 : room * i / g ≤ room * i := Int.ediv_le_self _ h1
 omega
theorem share_val {room g : Int} {i : Nat} (h : 0 ≤ room ∧ room ≤ 1048576 ∧ 1 ≤ g ∧ g ≤ 4096) (hi : (i : Int) < g) :
  wrap64 ((wrap64 (Int.tdiv (wrap64 (room * (wrap64 ((i : Int) + 1)))) g)) - (wrap64 (Int.tdiv (wrap64 (room * (i : Int))) g))) = shr1 room g i := by
 have b1 := share_bd (i := i) h (by omega)
 have b2 := share_bd (i := i + 1) h (by omega)
 rw [Int.natCast_add, Int.natCast_one] at b2
 rw [w64 (x := (i : Int) + 1) (by omega) (by omega), w64 (x := room * ((i : Int) + 1)) (by omega) (by omega), w64 (x := room * (i : Int)) (by omega) (by omega), tdivp b1.1, tdivp b2.1, w64 (x := room * ((i : Int) + 1) / g) (by omega) (by omega), w64 (x := room * (i : Int) / g) (by omega) (by omega), w64 (x := room * ((i : Int) + 1) / g - room * (i : Int) / g) (by omega) (by omega)]
 rfl
theorem spread_loop {room g : Int} (h : 0 ≤ room ∧ room ≤ 1048576 ∧ 1 ≤ g ∧ g ≤ 4096) : ∀ (d i : Nat), ((i + d : Nat) : Int) = g →
  Ev (fun k => just_Spread.l0 k room g ((List.range i).map (shr1 room g) ++ List.replicate d 0) g (i : Int)) ((List.range (i + d)).map (shr1 room g)) := by
 intro d
 induction d with
 | zero =>
  intro i hi
  refine Ev.step (fun k => by unfold just_Spread.l0; rfl) (ev_neg (by omega) (ev_ret ?_))
  simp
 | succ d ih =>
  intro i hi
  refine Ev.step (fun k => by unfold just_Spread.l0; rfl) (ev_pos (by omega) (ev_neg (by omega) (ev_pos (by omega) (ev_pos ?_ ?_))))
  ·simp; omega
  ·rw [share_val h (by omega), show wrap64 ((i : Int) + 1) = ((i + 1 : Nat) : Int) from by rw [w64 (by omega) (by omega)]; rfl]
   have e : ((List.range i).map (shr1 room g) ++ List.replicate (d + 1) 0).set (i : Int).toNat (shr1 room g i) = (List.range (i + 1)).map (shr1 room g) ++ List.replicate d 0 := by
    rw [Int.toNat_natCast, List.set_append_right _ _ (by simp), ← map_range_snoc]
    simp [List.replicate_succ]
   rw [e]
   have := ih (i + 1) (by omega)
   rwa [show i + 1 + d = i + (d + 1) from by omega] at this
theorem spread_none (room g : Int) : Ev (fun k => just_Spread.j0 k room g true) ([] : List Int) :=
 Ev.step (fun k => by unfold just_Spread.j0; rfl) (ev_pos rfl (Ev.now _))
theorem spread_ev (room g : Int) : Ev (fun k => just_Spread.f k room g) (spr room g) := by
 unfold just_Spread.f spr
 by_cases h : 0 ≤ room ∧ room ≤ 1048576 ∧ 1 ≤ g ∧ g ≤ 4096
 ·rw [if_pos h]
  refine ev_neg (by omega) (ev_neg (by omega) (ev_neg (by omega) ?_))
  rw [show decide (g > 4096) = false from decide_eq_false (by omega)]
  refine Ev.step (fun k => by unfold just_Spread.j0; rfl) (ev_neg (by decide) (ev_pos (by omega) (ev_pos (by omega) (ev_let ?_))))
  have := spread_loop h g.toNat 0 (by omega)
  simp only [List.range_zero, List.map_nil, List.nil_append, Nat.zero_add] at this
  rwa [show ((List.replicate g.toNat (0 : Int)).length : Int) = g from by simp; omega]
 ·rw [if_neg h]
  by_cases h1 : room < 0
  ·exact ev_pos h1 (spread_none room g)
  ·refine ev_neg h1 ?_
   by_cases h2 : room > 1048576
   ·exact ev_pos h2 (spread_none room g)
   ·refine ev_neg h2 ?_
    by_cases h3 : g < 1
    ·exact ev_pos h3 (spread_none room g)
    ·refine ev_neg h3 ?_
     rw [show decide (g > 4096) = true from decide_eq_true (by omega)]
     exact spread_none room g
theorem spr_len (room g : Int) : ((spr room g).length : Int) ≤ 4096 := by
 unfold spr
 split <;> simp
 omega
theorem share_near {r g : Int} (_ : 0 ≤ r) (hg : 1 ≤ g) (i : Nat) : r / g ≤ shr1 r g i ∧ shr1 r g i ≤ r / g + 1 ∧ (r % g = 0 → shr1 r g i = r / g) := by
 unfold shr1
 have e1 := Int.mul_ediv_add_emod (r * (i + 1)) g
 have e2 := Int.mul_ediv_add_emod (r * i) g
 have e3 := Int.mul_ediv_add_emod r g
 have p1 := Int.emod_nonneg (r * (i + 1)) (by omega : g ≠ 0)
 have p2 := Int.emod_nonneg (r * i) (by omega : g ≠ 0)
 have p3 := Int.emod_nonneg r (by omega : g ≠ 0)
 have q1 := Int.emod_lt_of_pos (r * (i + 1)) (by omega : 0 < g)
 have q2 := Int.emod_lt_of_pos (r * i) (by omega : 0 < g)
 have q3 := Int.emod_lt_of_pos r (by omega : 0 < g)
 have e4 : r * ((i : Int) + 1) = r * i + r := by rw [Int.mul_add, Int.mul_one]
 rw [e4] at e1 p1 q1 ⊢
 generalize (r * i + r) / g = x at *
 generalize (r * (i : Int)) / g = y at *
 generalize r / g = z at *
 generalize (r * i + r) % g = u at *
 generalize (r * (i : Int)) % g = v at *
 generalize r % g = t at *
 generalize r * (i : Int) = s at *
 have key : g * (x - y - z) = v + t - u := by
  rw [Int.mul_sub, Int.mul_sub]; omega
 have lo : -1 < x - y - z := by
  refine Int.lt_of_mul_lt_mul_left (a := g) ?_ (by omega)
  rw [key]; omega
 have hi : x - y - z < 2 := by
  refine Int.lt_of_mul_lt_mul_left (a := g) ?_ (by omega)
  rw [key]; omega
 refine ⟨by omega, by omega, fun h0 => ?_⟩
 have hi' : x - y - z < 1 := by
  refine Int.lt_of_mul_lt_mul_left (a := g) ?_ (by omega)
  rw [key]; omega
 omega
end Go.Proofs.Ytfeidhmkmbgnoaa.Pure
end
section
/- How wide the clusters of a line are, with room spread over its spaces, as a plain function. -/
namespace Go.Proofs.Ytfeidhmkmbgnoaa.Pure
open Go.RowKit Go.Proofs.YtfeidhmkmbgnoaaW.PrintWords Go.Proofs.Ytfeidhmkmbgnoaa.F
def bas (C : List S61) (a : Nat) (t : Int) (i : Nat) : Int := col C a t (i + 1) - col C a t i
def ext (C : List S61) (a n : Nat) (e w t : Int) : List Int := if e = 2 ∨ e = 4 then [] else spr (w - cel C a n e t) (gap C a n : Int)
def wid (C : List S61) (a : Nat) (t : Int) (E : List Int) (i : Nat) : Int := bas C a t i + if (cl C (a + i)).f3 = 1 ∧ spc C a i < E.length then E.getD (spc C a i) 0 else 0
def WD (C : List S61) (a n : Nat) (e w t : Int) : List Int := (List.range (trm C a n)).map (wid C a t (ext C a n e w t))
theorem bas_bd {C : List S61} (g : Good C) (a : Nat) {t : Int} (ht : 1 ≤ t ∧ t ≤ 64) (i : Nat) : 0 ≤ bas C a t i ∧ bas C a t i ≤ 64 := by
 have h1 := col_bd g a ht i
 have h2 := nxt_bd (g.cells (a + i)) h1.1 ht
 unfold bas
 simp only [col]
 omega
theorem spr_elem {r g : Int} {x : Int} (h : x ∈ spr r g) : 0 ≤ x ∧ x ≤ 1048577 := by
 unfold spr at h
 split at h
 ·rename_i hr
  obtain ⟨i, _, rfl⟩ := List.mem_map.1 h
  have := share_near hr.1 hr.2.2.1 i
  have q0 : 0 ≤ r / g := Int.ediv_nonneg hr.1 (by omega)
  have q1 : r / g ≤ r := Int.ediv_le_self _ hr.1
  omega
 ·cases h
theorem spr_getD (r g : Int) (k : Nat) : 0 ≤ (spr r g).getD k 0 ∧ (spr r g).getD k 0 ≤ 1048577 := by
 rw [List.getD_eq_getElem?_getD]
 cases h : (spr r g)[k]? with
 | none => simp
 | some x => exact spr_elem (List.mem_of_getElem? h)
theorem ext_getD (C : List S61) (a n : Nat) (e w t : Int) (k : Nat) : 0 ≤ (ext C a n e w t).getD k 0 ∧ (ext C a n e w t).getD k 0 ≤ 1048577 := by
 unfold ext
 split
 ·simp
 ·exact spr_getD _ _ k
theorem ext_len (C : List S61) (a n : Nat) (e w t : Int) : (ext C a n e w t).length ≤ 4096 := by
 unfold ext
 split
 ·simp
 ·have := spr_len (w - cel C a n e t) (gap C a n : Int)
  omega
theorem wid_bd {C : List S61} (g : Good C) (a n : Nat) (e w : Int) {t : Int} (ht : 1 ≤ t ∧ t ≤ 64) (i : Nat) : 0 ≤ wid C a t (ext C a n e w t) i ∧ wid C a t (ext C a n e w t) i ≤ 1048641 := by
 have h1 := bas_bd g a ht i
 have h2 := ext_getD C a n e w t (spc C a i)
 unfold wid
 split <;> omega
end Go.Proofs.Ytfeidhmkmbgnoaa.Pure
end
section
/- Lines as long as may be, as plain functions. -/
namespace Go.Proofs.Ytfeidhmkmbgnoaa.Pure
open Go.RowKit Go.Proofs.YtfeidhmkmbgnoaaW.PrintWords Go.Proofs.Ytfeidhmkmbgnoaa.F
def op (O : List Int) (i : Nat) : Int := O.getD i 0
theorem rd_op (O : List Int) (i : Nat) : rd O (i : Int) = op O i := rfl
def cutN (C : List S61) (fr : Nat) (w t : Int) : Nat → Nat
 | 0 => 0
 | n + 1 => if cel C fr (n + 1) 0 t ≤ w then n + 1 else cutN C fr w t n
def bestN (C : List S61) (O : List Int) (fr : Nat) (w t : Int) : Nat → Nat
 | 0 => 0
 | n + 1 => if op O (fr + (n + 1)) ≠ 0 ∧ cel C fr (n + 1) (op O (fr + (n + 1))) t ≤ w then n + 1 else bestN C O fr w t n
def lnN (C : List S61) (O : List Int) (fr : Nat) (w t : Int) (N : Nat) : Nat :=
 if bestN C O fr w t N = 0 then (if cutN C fr w t N = 0 then 1 else cutN C fr w t N) else bestN C O fr w t N
def lnE (C : List S61) (O : List Int) (fr : Nat) (w t : Int) (N : Nat) : Int :=
 if bestN C O fr w t N = 0 then (if op O (fr + lnN C O fr w t N) = 2 ∨ op O (fr + lnN C O fr w t N) = 1 then op O (fr + lnN C O fr w t N) else 4) else op O (fr + lnN C O fr w t N)
def mkln (C : List S61) (fr n : Nat) (e t : Int) : S45 := ⟨(fr : Int), ((fr + n : Nat) : Int), cel C fr n e t, e⟩
def FL (C : List S61) (O : List Int) (w t : Int) : Nat → Nat → Nat → List S45
 | 0, _, _ => []
 | d + 1, fr, z => if fr < z then mkln C fr (lnN C O fr w t (z - fr)) (lnE C O fr w t (z - fr)) t :: FL C O w t d (fr + lnN C O fr w t (z - fr)) z else []
theorem cutN_le (C : List S61) (fr : Nat) (w t : Int) (n : Nat) : cutN C fr w t n ≤ n := by
 induction n with
 | zero => exact Nat.le_refl _
 | succ n ih => unfold cutN; split <;> omega
theorem bestN_le (C : List S61) (O : List Int) (fr : Nat) (w t : Int) (n : Nat) : bestN C O fr w t n ≤ n := by
 induction n with
 | zero => exact Nat.le_refl _
 | succ n ih => unfold bestN; split <;> omega
theorem lnN_bd (C : List S61) (O : List Int) (fr : Nat) (w t : Int) {N : Nat} (h : 1 ≤ N) : 1 ≤ lnN C O fr w t N ∧ lnN C O fr w t N ≤ N := by
 have h1 := cutN_le C fr w t N
 have h2 := bestN_le C O fr w t N
 unfold lnN
 split
 ·split <;> omega
 ·omega
theorem cel_zero_le (C : List S61) (fr n : Nat) (e t : Int) : cel C fr n 0 t ≤ cel C fr n e t := by
 unfold cel
 rw [if_neg (by decide)]
 split <;> omega
def LineIn (C : List S61) (t : Int) (lo hi : Nat) (x : S45) : Prop := ∃ a n : Nat, ∃ e : Int, x = mkln C a n e t ∧ lo ≤ a ∧ 1 ≤ n ∧ a + n ≤ hi
theorem FL_in (C : List S61) (O : List Int) (w t : Int) (z : Nat) : ∀ (d fr : Nat), ∀ x ∈ FL C O w t d fr z, LineIn C t fr z x := by
 intro d
 induction d with
 | zero => intro fr x hx; cases hx
 | succ d ih =>
  intro fr x hx
  unfold FL at hx
  split at hx
  ·rename_i h
   have hb := lnN_bd C O fr w t (N := z - fr) (by omega)
   rcases List.mem_cons.1 hx with rfl | hx
   ·exact ⟨fr, _, _, rfl, Nat.le_refl _, hb.1, by omega⟩
   ·obtain ⟨a, n, e, h1, h2, h3, h4⟩ := ih _ x hx
    exact ⟨a, n, e, h1, by omega, h3, h4⟩
  ·cases hx
theorem FL_len (C : List S61) (O : List Int) (w t : Int) (z : Nat) : ∀ (d fr : Nat), (FL C O w t d fr z).length ≤ z - fr := by
 intro d
 induction d with
 | zero => intro fr; exact Nat.zero_le _
 | succ d ih =>
  intro fr
  unfold FL
  split
  ·rename_i h
   have hb := lnN_bd C O fr w t (N := z - fr) (by omega)
   have := ih (fr + lnN C O fr w t (z - fr))
   simp only [List.length_cons]
   omega
  ·exact Nat.zero_le _
theorem FL_more (C : List S61) (O : List Int) (w t : Int) (z : Nat) : ∀ (d d' fr : Nat), z - fr ≤ d → z - fr ≤ d' → FL C O w t d fr z = FL C O w t d' fr z := by
 intro d
 induction d with
 | zero =>
  intro d' fr h h'
  cases d' with
  | zero => rfl
  | succ d' => unfold FL; rw [if_neg (by omega)]
 | succ d ih =>
  intro d' fr h h'
  cases d' with
  | zero => unfold FL; rw [if_neg (by omega)]
  | succ d' =>
   unfold FL
   split
   ·rename_i hlt
    have hb := lnN_bd C O fr w t (N := z - fr) (by omega)
    rw [ih d' _ (by omega) (by omega)]
   ·rfl
def PL (C : List S61) (O : List Int) (w t : Int) (fr z : Nat) : List S45 := FL C O w t (z - fr) fr z
theorem PL_lt (C : List S61) (O : List Int) (w t : Int) {fr z : Nat} (h : fr < z) :
  PL C O w t fr z = mkln C fr (lnN C O fr w t (z - fr)) (lnE C O fr w t (z - fr)) t :: PL C O w t (fr + lnN C O fr w t (z - fr)) z := by
 have hb := lnN_bd C O fr w t (N := z - fr) (by omega)
 obtain ⟨d, hd⟩ : ∃ d, z - fr = d + 1 := ⟨z - fr - 1, by omega⟩
 unfold PL
 rw [show FL C O w t (z - fr) fr z = FL C O w t (d + 1) fr z from by rw [hd]]
 rw [show FL C O w t (d + 1) fr z = mkln C fr (lnN C O fr w t (z - fr)) (lnE C O fr w t (z - fr)) t :: FL C O w t d (fr + lnN C O fr w t (z - fr)) z from if_pos h]
 rw [FL_more C O w t z d (z - (fr + lnN C O fr w t (z - fr))) _ (by omega) (by omega)]
theorem PL_ge (C : List S61) (O : List Int) (w t : Int) {fr z : Nat} (h : z ≤ fr) : PL C O w t fr z = [] := by
 unfold PL
 rw [show z - fr = 0 from by omega]; rfl
def PT (O : List Int) : List Nat := (List.range O.length).filter (fun i => op O i = 2)
def BK (C : List S61) (O : List Int) (w t : Int) : Nat → List Nat → List S45
 | _, [] => []
 | fr, z :: r => PL C O w t fr z ++ BK C O w t z r
def Rise (n : Nat) : Nat → List Nat → Prop
 | fr, [] => fr ≤ n
 | fr, z :: r => fr ≤ z ∧ Rise n z r
theorem Rise.le {n fr : Nat} {l : List Nat} (h : Rise n fr l) : fr ≤ n := by
 induction l generalizing fr with
 | nil => exact h
 | cons z r ih => have := ih h.2; have := h.1; omega
theorem rise_filter (O : List Int) (n : Nat) : ∀ (m s fr : Nat), fr ≤ s → s + m ≤ n + 1 → fr ≤ n → Rise n fr ((List.range' s m).filter (fun i => op O i = 2)) := by
 intro m
 induction m with
 | zero => intro s fr _ _ h; exact h
 | succ m ih =>
  intro s fr h1 h2 h3
  rw [List.range'_succ, List.filter_cons]
  split
  ·exact ⟨h1, ih (s + 1) s (by omega) (by omega) (by omega)⟩
  ·exact ih (s + 1) fr (by omega) (by omega) h3
theorem rise_PT {O : List Int} {n : Nat} (h : O.length = n + 1) : Rise n 0 (PT O) := by
 unfold PT
 rw [List.range_eq_range', h]
 exact rise_filter O n (n + 1) 0 0 (by omega) (by omega) (by omega)
theorem BK_in (C : List S61) (O : List Int) (w t : Int) (n : Nat) : ∀ (l : List Nat) (fr : Nat), Rise n fr l → ∀ x ∈ BK C O w t fr l, LineIn C t fr n x := by
 intro l
 induction l with
 | nil => intro fr _ x hx; cases hx
 | cons z r ih =>
  intro fr h x hx
  have hle := Rise.le h.2
  rcases List.mem_append.1 hx with hx | hx
  ·obtain ⟨a, m, e, h1, h2, h3, h4⟩ := FL_in C O w t z _ fr x hx
   exact ⟨a, m, e, h1, h2, h3, by omega⟩
  ·obtain ⟨a, m, e, h1, h2, h3, h4⟩ := ih z h.2 x hx
   have := h.1
   exact ⟨a, m, e, h1, by omega, h3, h4⟩
theorem BK_len (C : List S61) (O : List Int) (w t : Int) (n : Nat) : ∀ (l : List Nat) (fr : Nat), Rise n fr l → (BK C O w t fr l).length ≤ n - fr := by
 intro l
 induction l with
 | nil => intro fr _; exact Nat.zero_le _
 | cons z r ih =>
  intro fr h
  have h1 := ih z h.2
  have h2 := FL_len C O w t z (z - fr) fr
  have h3 := h.1
  have h4 := Rise.le h.2
  show (PL C O w t fr z ++ BK C O w t z r).length ≤ _
  rw [List.length_append]
  unfold PL
  omega
end Go.Proofs.Ytfeidhmkmbgnoaa.Pure
end
section
/- A row as it is seen, as a plain function. -/
namespace Go.Proofs.Ytfeidhmkmbgnoaa.Pure
open Go.RowKit Go.Proofs.YtfeidhmkmbgnoaaW.PrintWords Go.Proofs.Ytfeidhmkmbgnoaa.F
theorem wsub {a i : Nat} (h : a + i ≤ 100000) : wrap64 (((a + i : Nat) : Int) - (a : Int)) = (i : Int) := by
 rw [w64 (by omega) (by omega)]; omega
theorem wnat {n : Nat} (h : n ≤ 100000) : wrap64 ((n : Int) + 1) = ((n + 1 : Nat) : Int) := by
 rw [w64 (by omega) (by omega)]; rfl
structure Byt (C : List S61) (B : List Int) : Prop where
 len : B.length ≤ 100000
 at0 : ∀ i, i < C.length → 0 ≤ (cl C i).f0
 one : ∀ i, i < C.length → 1 ≤ (cl C i).f1
 fit : ∀ i, i < C.length → (cl C i).f0 + (cl C i).f1 ≤ (B.length : Int)
def seg (B : List Int) (c : S61) : List Int := (B.take (c.f0 + c.f1).toNat).drop c.f0.toNat
def wd (C : List S61) (a : Nat) (t : Int) (E : List Int) (fl : Bool) (i : Nat) : Int := if fl = true then wid C a t E i else bas C a t i
def pc (B : List Int) (C : List S61) (a : Nat) (t : Int) (E : List Int) (fl : Bool) (i : Nat) : List Int :=
 if (cl C (a + i)).f3 = 0 then seg B (cl C (a + i)) else List.replicate (wd C a t E fl i).toNat 32
def pcs (B : List Int) (C : List S61) (a : Nat) (t : Int) (E : List Int) (fl : Bool) : Nat → List Int
 | 0 => []
 | i + 1 => pcs B C a t E fl i ++ pc B C a t E fl i
def tail3 (e : Int) : List Int := if e = 3 then [45] else []
def RW (B : List Int) (C : List S61) (a n : Nat) (e w t : Int) (fl : Bool) : List Int := pcs B C a t (ext C a n e w t) fl (trm C a n) ++ tail3 e
theorem wd_bd {C : List S61} (g : Good C) (a n : Nat) (e w : Int) {t : Int} (ht : 1 ≤ t ∧ t ≤ 64) (fl : Bool) (i : Nat) : 0 ≤ wd C a t (ext C a n e w t) fl i ∧ wd C a t (ext C a n e w t) fl i ≤ 1048641 := by
 have h1 := wid_bd g a n e w ht i
 have h2 := bas_bd g a ht i
 unfold wd
 split <;> omega
theorem seg_len {C : List S61} {B : List Int} (b : Byt C B) {i : Nat} (h : i < C.length) : ((seg B (cl C i)).length : Int) = (cl C i).f1 := by
 have h0 := b.at0 i h
 have h1 := b.one i h
 have h2 := b.fit i h
 unfold seg
 rw [List.length_drop, List.length_take]
 omega
theorem pc_len {C : List S61} (g : Good C) {B : List Int} (b : Byt C B) (a n : Nat) (e w : Int) {t : Int} (ht : 1 ≤ t ∧ t ≤ 64) (fl : Bool) {i : Nat} (h : a + i < C.length) : (pc B C a t (ext C a n e w t) fl i).length ≤ 1100000 := by
 unfold pc
 split
 ·have := seg_len b h
  have := b.len
  have := b.fit _ h
  have := b.at0 _ h
  omega
 ·have := wd_bd g a n e w ht fl i
  rw [List.length_replicate]
  omega
theorem pcs_len {C : List S61} (g : Good C) {B : List Int} (b : Byt C B) (a n : Nat) (e w : Int) {t : Int} (ht : 1 ≤ t ∧ t ≤ 64) (fl : Bool) : ∀ i, a + i ≤ C.length → (pcs B C a t (ext C a n e w t) fl i).length ≤ 1100000 * i := by
 intro i
 induction i with
 | zero => intro _; exact Nat.zero_le _
 | succ i ih =>
  intro h
  have h1 := ih (by omega)
  have h2 := pc_len g b a n e w ht fl (i := i) (by omega)
  show (_ ++ _ : List Int).length ≤ _
  rw [List.length_append]
  omega
theorem pcs_plain (B : List Int) (C : List S61) (a : Nat) (t : Int) (E : List Int) (fl : Bool) (i : Nat) (hk : (cl C (a + i)).f3 = 0) : pcs B C a t E fl i ++ (B.take ((cl C (a + i)).f0 + (cl C (a + i)).f1).toNat).drop (cl C (a + i)).f0.toNat = pcs B C a t E fl (i + 1) := by
 show _ = pcs B C a t E fl i ++ pc B C a t E fl i
 unfold pc
 rw [if_pos hk]; rfl
theorem pcs_space (B : List Int) (C : List S61) (a : Nat) (t : Int) (E : List Int) (fl : Bool) (i : Nat) (hk : ¬ (cl C (a + i)).f3 = 0) : pcs B C a t E fl i ++ List.replicate (wd C a t E fl i).toNat 32 = pcs B C a t E fl (i + 1) := by
 show _ = pcs B C a t E fl i ++ pc B C a t E fl i
 unfold pc
 rw [if_neg hk]
end Go.Proofs.Ytfeidhmkmbgnoaa.Pure
end
section
/- The printed functions of Para, span and the document's span come to the plain functions. -/
namespace Go.Proofs.Ytfeidhmkmbgnoaa.Pure
open Go.RowKit Go.Proofs.YtfeidhmkmbgnoaaW.PrintWords Go.Proofs.Ytfeidhmkmbgnoaa.F
theorem para_l1 {l : List S49} (hl : l.length ≤ 1000) (hs : ∀ b ∈ l, Small b) : ∀ (d i : Nat), i + d = l.length →
  Ev (fun k => h3_Para.l1 k l (i : Int) (CL l) ((List.range i).map (opp l))) (CL l, OP l) := by
 intro d
 induction d with
 | zero =>
  intro i hi
  refine Ev.step (fun k => by unfold h3_Para.l1; rfl) (ev_neg (by rw [CL_len]; omega) (ev_pos (by simp; omega) (ev_ret ?_)))
  have : opp l i = 2 := by unfold opp; rw [if_pos (by omega)]
  rw [← this, map_range_snoc, show i + 1 = l.length + 1 from by omega]
  rfl
 | succ d ih =>
  intro i hi
  refine Ev.step (fun k => by unfold h3_Para.l1; rfl) (ev_pos (by rw [CL_len]; omega) ?_)
  have hn : wrap64 ((i : Int) + 1) = ((i + 1 : Nat) : Int) := by rw [w64 (by omega) (by omega)]; rfl
  have hlen : ((List.range i).map (opp l)).length < 140737488355328 := by simp; omega
  by_cases h0 : i = 0
  ·subst h0
   refine ev_neg (by omega) (ev_pos hlen ?_)
   rw [hn, show (0 : Int) = opp l 0 from by unfold opp; rw [if_neg (by omega)]; rfl, map_range_snoc]
   exact ih 1 (by omega)
  ·obtain ⟨j, rfl⟩ : ∃ j, i = j + 1 := ⟨i - 1, by omega⟩
   refine ev_pos (by omega) ?_
   rw [show wrap64 (((j + 1 : Nat) : Int) - 1) = (j : Int) from by rw [w64 (by omega) (by omega)]; omega]
   refine ev_pos (by omega) (ev_pos (by omega) (ev_pos hlen ?_))
   have hb := hs _ (bit_mem (show j < l.length from by omega))
   rw [hn, rd_bit, tmodp hb.2.2.2.1, show (bit l j).f3 % 4 = opp l (j + 1) from by unfold opp; rw [if_neg (by omega), if_neg (by omega)]; rfl, map_range_snoc]
   exact ih (j + 1 + 1) (by omega)
theorem para_j1 {l : List S49} (hl : l.length ≤ 1000) (hs : ∀ b ∈ l, Small b) : Ev (fun k => h3_Para.j1 k l (CL l)) (CL l, OP l) :=
 Ev.step (fun k => by unfold h3_Para.j1; rfl) (para_l1 hl hs l.length 0 (by omega))
theorem para_l0 {l : List S49} (hl : l.length ≤ 1000) (hs : ∀ b ∈ l, Small b) : ∀ (d i : Nat), i + d = l.length →
  Ev (fun k => h3_Para.l0 k l (atl l i) (i : Int) ((List.range i).map (clus l))) (CL l, OP l) := by
 intro d
 induction d with
 | zero =>
  intro i hi
  refine Ev.step (fun k => by unfold h3_Para.l0; rfl) (ev_neg (by omega) ?_)
  rw [show i = l.length from by omega]
  exact para_j1 hl hs
 | succ d ih =>
  intro i hi
  have ha := atl_bd l i
  have hb := hs _ (bit_mem (show i < l.length from by omega))
  have m4 := mod4 (bit l i).f2
  have m3 := mod3 (bit l i).f0
  refine Ev.step (fun k => by unfold h3_Para.l0; rfl) (ev_pos (by omega) (ev_pos (by omega) (ev_pos (by omega) (ev_pos (by simp; omega) ?_))))
  rw [rd_bit, tmodp hb.2.2.1.1, tmodp hb.1.1, tmodp hb.2.1.1, w64 (x := (bit l i).f2 % 4) (by omega) (by omega), w64 (x := 1 + (bit l i).f2 % 4) (by omega) (by omega), w64 (x := (bit l i).f0 % 3) (by omega) (by omega),
   w64 (x := (i : Int) + 1) (by omega) (by omega), w64 (x := atl l i + (1 + (bit l i).f2 % 4)) (by omega) (by omega)]
  rw [show (⟨atl l i, 1 + (bit l i).f2 % 4, (bit l i).f0 % 3, (bit l i).f1 % 3⟩ : S61) = clus l i from rfl, map_range_snoc]
  exact ih (i + 1) (by omega)
theorem para_ev {l : List S49} (hl : l.length ≤ 1000) (hs : ∀ b ∈ l, Small b) : Ev (fun k => h3_Para.f k l) (CL l, OP l) :=
 para_l0 hl hs l.length 0 (by omega)
theorem next_eq {c : S61} {x t : Int} (h0 : 0 ≤ c.f2 ∧ c.f2 ≤ 2) (hx : 0 ≤ x ∧ x ≤ 1000000) (ht : 1 ≤ t ∧ t ≤ 64) : span_Next.f c.f0 c.f1 c.f2 c.f3 x t = some (nxt c x t) := by
 unfold span_Next.f nxt
 have h1 := Int.emod_nonneg x (by omega : t ≠ 0)
 have h2 := Int.emod_lt_of_pos x (by omega : 0 < t)
 by_cases h : c.f3 = 2
 ·rw [if_pos h, if_pos h, if_neg (by omega), tmodp hx.1, w64 (x := x + t) (by omega) (by omega), w64 (by omega) (by omega)]
 ·rw [if_neg h, if_neg h, w64 (by omega) (by omega)]
theorem columns_l0 {C : List S61} (g : Good C) (O : List Int) (fr n : Nat) {t : Int} (ht : 1 ≤ t ∧ t ≤ 64) (h : fr + n ≤ C.length) : ∀ (d i : Nat), i + d = n →
  Ev (fun k => span_Columns.l0 k ((fr + n : Nat) : Int) t ((List.range (i + 1)).map (col C fr t)) ((fr + i : Nat) : Int) C O) ((List.range (n + 1)).map (col C fr t)) := by
 have hg := g.len
 intro d
 induction d with
 | zero =>
  intro i hi
  refine Ev.step (fun k => by unfold span_Columns.l0; rfl) (ev_neg (by omega) (ev_ret ?_))
  rw [show i = n from by omega]
 | succ d ih =>
  intro i hi
  have hc := col_bd g fr ht i
  refine Ev.step (fun k => by unfold span_Columns.l0; rfl) (ev_pos (by omega) (ev_pos (by omega) (ev_pos (by omega) ?_)))
  rw [List.length_map, List.length_range, show wrap64 (((i + 1 : Nat) : Int) - 1) = (i : Int) from by rw [w64 (by omega) (by omega)]; omega, rd_map_range _ (by omega), rd_cl]
  refine ev_pos (by omega) (ev_pos (by omega) (ev_bind' (next_eq (g.cells _) (by omega) ht) (ev_pos (by omega) ?_)))
  rw [show wrap64 (((fr + i : Nat) : Int) + 1) = ((fr + (i + 1) : Nat) : Int) from by rw [w64 (by omega) (by omega)]; omega, show nxt (cl C (fr + i)) (col C fr t i) t = col C fr t (i + 1) from rfl, map_range_snoc]
  exact ih (i + 1) (by omega)
theorem columns_ev {C : List S61} (g : Good C) (O : List Int) (fr n : Nat) {t : Int} (ht : 1 ≤ t ∧ t ≤ 64) (h : fr + n ≤ C.length) :
  Ev (fun k => span_Columns.f k C O (fr : Int) ((fr + n : Nat) : Int) t) ((List.range (n + 1)).map (col C fr t)) :=
 columns_l0 g O fr n ht h n 0 (by omega)
theorem empty_eq {c : S61} : span_empty.f c.f0 c.f1 c.f2 c.f3 = some (emp c) := by
 unfold span_empty.f emp
 by_cases h1 : c.f3 = 1
 ·rw [if_pos h1, h1]; rfl
 ·rw [if_neg h1]
  by_cases h0 : c.f3 = 0
  ·rw [if_pos h0, h0]; rfl
  ·rw [if_neg h0]
   simp [h1, h0]
theorem trim_ev {C : List S61} (g : Good C) (O : List Int) (fr : Nat) : ∀ n : Nat, fr + n ≤ C.length →
  Ev (fun k => span_Trim.f k C O (fr : Int) ((fr + n : Nat) : Int)) ((fr + trm C fr n : Nat) : Int) := by
 have hg := g.len
 intro n
 induction n with
 | zero =>
  intro h
  exact Ev.step (fun k => by unfold span_Trim.f span_Trim.l0; rfl) (ev_neg (by omega) (Ev.now _))
 | succ n ih =>
  intro h
  refine Ev.step (fun k => by unfold span_Trim.f span_Trim.l0; rfl) (ev_pos (by omega) ?_)
  rw [show wrap64 (((fr + (n + 1) : Nat) : Int) - 1) = ((fr + n : Nat) : Int) from by rw [w64 (by omega) (by omega)]; omega]
  refine ev_pos (by omega) (ev_pos (by omega) (ev_bind' empty_eq ?_))
  rw [rd_cl]
  by_cases he : emp (cl C (fr + n)) = true
  ·rw [show trm C fr (n + 1) = trm C fr n from if_pos he]
   exact ev_pos he (ih (by omega))
  ·rw [show trm C fr (n + 1) = n + 1 from if_neg he]
   exact ev_neg he (Ev.now _)
theorem cells_ev {C : List S61} (g : Good C) (O : List Int) (fr n : Nat) (e : Int) {t : Int} (ht : 1 ≤ t ∧ t ≤ 64) (h : fr + n ≤ C.length) :
  Ev (fun k => span_Cells.f k C O (fr : Int) ((fr + n : Nat) : Int) e t) (cel C fr n e t) := by
 have hg := g.len
 have ht' := trm_le C fr n
 have hc := col_bd g fr ht (trm C fr n)
 unfold span_Cells.f
 refine ev_bind (trim_ev g O fr n h) (ev_bind (columns_ev g O fr (trm C fr n) ht (by omega)) ?_)
 rw [List.length_map, List.length_range, show wrap64 (((trm C fr n + 1 : Nat) : Int) - 1) = (trm C fr n : Int) from by rw [w64 (by omega) (by omega)]; omega, rd_map_range _ (by omega)]
 refine ev_pos (by omega) (ev_pos (by omega) ?_)
 unfold cel
 by_cases he : e = 3
 ·refine ev_pos he (ev_ret ?_)
  rw [if_pos he, w64 (by omega) (by omega)]
 ·refine ev_neg he (ev_ret ?_)
  rw [if_neg he]
  omega
end Go.Proofs.Ytfeidhmkmbgnoaa.Pure
end
section
/- The code's Gaps comes to the plain number of spaces. -/
namespace Go.Proofs.Ytfeidhmkmbgnoaa.Pure
open Go.RowKit Go.Proofs.YtfeidhmkmbgnoaaW.PrintWords Go.Proofs.Ytfeidhmkmbgnoaa.F
theorem gaps_l0 {C : List S61} (g : Good C) (fr n : Nat) (h : fr + n ≤ C.length) : ∀ (d i : Nat), i + d = n →
  Ev (fun k => span_Gaps.l0 k (spc C fr i : Int) ((C.take (fr + n)).drop fr) (n : Int) (i : Int)) (spc C fr n : Int) := by
 have hg := g.len
 intro d
 induction d with
 | zero =>
  intro i hi
  refine Ev.step (fun k => by unfold span_Gaps.l0; rfl) (ev_neg (by omega) (ev_ret ?_))
  rw [show i = n from by omega]
 | succ d ih =>
  intro i hi
  have hs := spc_le C fr i
  refine Ev.step (fun k => by unfold span_Gaps.l0; rfl) (ev_pos (by omega) (ev_pos (by omega) (ev_pos (by simp; omega) ?_)))
  have hr : rd_T61 ((C.take (fr + n)).drop fr) (i : Int) = cl C (fr + i) := by
   rw [rd_cl]
   unfold cl
   rw [List.getD_eq_getElem?_getD, List.getD_eq_getElem?_getD, List.getElem?_drop, List.getElem?_take_of_lt (by omega)]
  rw [hr, show wrap64 ((i : Int) + 1) = ((i + 1 : Nat) : Int) from by rw [w64 (by omega) (by omega)]; rfl]
  by_cases hk : (cl C (fr + i)).f3 = 1
  ·refine ev_pos hk ?_
   rw [show wrap64 ((spc C fr i : Int) + 1) = ((spc C fr (i + 1) : Nat) : Int) from by rw [w64 (by omega) (by omega)]; simp [spc, hk]]
   exact ih (i + 1) (by omega)
  ·refine ev_neg hk ?_
   rw [show spc C fr i = spc C fr (i + 1) from by simp [spc, hk]]
   exact ih (i + 1) (by omega)
theorem gaps_ev {C : List S61} (g : Good C) (O : List Int) (fr n : Nat) (h : fr + n ≤ C.length) :
  Ev (fun k => span_Gaps.f k C O (fr : Int) ((fr + n : Nat) : Int)) (gap C fr n : Int) := by
 have ht := trm_le C fr n
 unfold span_Gaps.f
 refine ev_bind (trim_ev g O fr n h) (ev_pos (by omega) (ev_pos (by omega) (ev_pos (by omega) (ev_let ?_))))
 rw [Int.toNat_natCast, Int.toNat_natCast, show (((C.take (fr + trm C fr n)).drop fr).length : Int) = (trm C fr n : Int) from by simp; omega]
 exact gaps_l0 g fr (trm C fr n) (by omega) (trm C fr n) 0 (by omega)
end Go.Proofs.Ytfeidhmkmbgnoaa.Pure
end
section
/- just.Line comes to the plain function. -/
namespace Go.Proofs.Ytfeidhmkmbgnoaa.Pure
open Go.RowKit Go.Proofs.YtfeidhmkmbgnoaaW.PrintWords Go.Proofs.Ytfeidhmkmbgnoaa.F
section
variable {C : List S61} (g : Good C) (O : List Int) (a n : Nat) (h : a + n ≤ C.length) (e : Int) {w t : Int} (hw : 1 ≤ w ∧ w ≤ 1048576) (ht : 1 ≤ t ∧ t ≤ 64) (ce m3 h4 p5 : Int) (lo : Nat)
def mix (C : List S61) (a m : Nat) (t : Int) (E : List Int) (i : Nat) : List Int := (List.range m).map (fun j => if j < i then wid C a t E j else bas C a t j)
theorem mix_zero (C : List S61) (a m : Nat) (t : Int) (E : List Int) : mix C a m t E 0 = (List.range m).map (bas C a t) := by
 unfold mix
 refine List.map_congr_left (fun j _ => ?_)
 rw [if_neg (by omega)]
theorem mix_all (C : List S61) (a m : Nat) (t : Int) (E : List Int) : mix C a m t E m = (List.range m).map (wid C a t E) := by
 unfold mix
 refine List.map_congr_left (fun j hj => ?_)
 rw [if_pos (List.mem_range.1 hj)]
theorem mix_keep (C : List S61) (a m : Nat) (t : Int) (E : List Int) (i : Nat) (hk : ¬ ((cl C (a + i)).f3 = 1 ∧ spc C a i < E.length)) : mix C a m t E (i + 1) = mix C a m t E i := by
 unfold mix
 refine List.map_congr_left (fun j _ => ?_)
 rcases Nat.lt_trichotomy j i with h | h | h
 ·rw [if_pos (by omega), if_pos h]
 ·subst h
  rw [if_pos (by omega), if_neg (by omega)]
  unfold wid
  rw [if_neg hk]
  omega
 ·rw [if_neg (by omega), if_neg (by omega)]
theorem mix_set (C : List S61) (a m : Nat) (t : Int) (E : List Int) (i : Nat) : (mix C a m t E i).set i (wid C a t E i) = mix C a m t E (i + 1) := by
 refine List.ext_getElem (by simp [mix]) (fun j h1 h2 => ?_)
 rw [List.getElem_set]
 simp only [mix, List.getElem_map, List.getElem_range]
 rcases Nat.lt_trichotomy j i with h | h | h
 ·rw [if_neg (by omega), if_pos h, if_pos (by omega)]
 ·subst h
  rw [if_pos rfl, if_pos (by omega)]
 ·rw [if_neg (by omega), if_neg (by omega), if_neg (by omega)]
include g h hw ht
omit hw in
theorem jline_l1 : ∀ (d i : Nat), i + d = trm C a n →
  Ev (fun k => just_Line.l1 k (mix C a (trm C a n) t (ext C a n e w t) i) (ext C a n e w t) ((min (spc C a i) (ext C a n e w t).length : Nat) : Int) (trm C a n : Int) (i : Int) C O (a : Int) ((a + n : Nat) : Int) ce e) (WD C a n e w t) := by
 have hg := g.len
 have hT := trm_le C a n
 intro d
 induction d with
 | zero =>
  intro i hi
  refine Ev.step (fun k => by unfold just_Line.l1; rfl) (ev_neg (by omega) (ev_ret ?_))
  rw [show i = trm C a n from by omega, mix_all]
  rfl
 | succ d ih =>
  intro i hi
  have ih' := ih (i + 1) (by omega)
  have hs := spc_le C a i
  have hE := ext_len C a n e w t
  refine Ev.step (fun k => by unfold just_Line.l1; rfl) (ev_pos (by omega) ?_)
  rw [w64 (x := (a : Int) + (i : Int)) (by omega) (by omega), show (a : Int) + (i : Int) = ((a + i : Nat) : Int) from by omega, rd_cl, show wrap64 ((i : Int) + 1) = ((i + 1 : Nat) : Int) from by rw [w64 (by omega) (by omega)]; rfl]
  refine ev_pos (by omega) (ev_pos (by omega) ?_)
  by_cases hk : (cl C (a + i)).f3 = 1
  ·refine ev_pos hk ?_
   have es : spc C a (i + 1) = spc C a i + 1 := by simp [spc, hk]
   by_cases hl : spc C a i < (ext C a n e w t).length
   ·have em : min (spc C a i) (ext C a n e w t).length = spc C a i := by omega
    rw [em]
    refine ev_pos (by omega) (ev_pos (by omega) (ev_pos (by simp [mix]; omega) (ev_pos (by omega) ?_)))
    have er : rd (mix C a (trm C a n) t (ext C a n e w t) i) (i : Int) = bas C a t i := by
     unfold mix
     rw [rd_map_range (fun j => if j < i then wid C a t (ext C a n e w t) j else bas C a t j) (by omega), if_neg (by omega)]
    have ew : bas C a t i + rd (ext C a n e w t) (spc C a i : Int) = wid C a t (ext C a n e w t) i := by
     unfold wid
     rw [if_pos ⟨hk, hl⟩]
     rfl
    have hb := wid_bd g a n e w ht i
    rw [er, ew, w64 (x := wid C a t (ext C a n e w t) i) (by omega) (by omega), Int.toNat_natCast, mix_set, w64 (x := (spc C a i : Int) + 1) (by omega) (by omega), show (spc C a i : Int) + 1 = ((min (spc C a (i + 1)) (ext C a n e w t).length : Nat) : Int) from by omega]
    exact ih'
   ·refine ev_neg (by omega) ?_
    rw [show min (spc C a i) (ext C a n e w t).length = min (spc C a (i + 1)) (ext C a n e w t).length from by omega, ← mix_keep C a (trm C a n) t (ext C a n e w t) i (fun hh => hl hh.2)]
    exact ih'
  ·refine ev_neg hk ?_
   have es : spc C a (i + 1) = spc C a i := by simp [spc, hk]
   rw [← es, ← mix_keep C a (trm C a n) t (ext C a n e w t) i (fun hh => hk hh.1)]
   exact ih'
theorem jline_j1 : Ev (fun k => just_Line.j1 k ((List.range (trm C a n)).map (bas C a t)) (e == 2 || e == 4) C O (a : Int) ((a + n : Nat) : Int) ce e w t m3 h4 p5 lo) (WD C a n e w t) := by
 have hg := g.len
 have hT := trm_le C a n
 refine Ev.step (fun k => by unfold just_Line.j1; rfl) ?_
 by_cases hE : e = 2 ∨ e = 4
 ·have hx : ext C a n e w t = [] := if_pos hE
  refine ev_pos (by simpa using hE) (ev_ret ?_)
  unfold WD
  rw [hx]
  refine List.map_congr_left (fun j _ => ?_)
  simp [wid]
 ·have hx : ext C a n e w t = spr (w - cel C a n e t) (gap C a n : Int) := if_neg hE
  have hc := cel_bd g a n e ht
  refine ev_neg (by simpa using hE) (ev_bind (cells_ev g O a n e ht h) ?_)
  refine ev_bind (gaps_ev g O a n h) ?_
  rw [w64 (x := w - cel C a n e t) (by omega) (by omega)]
  refine ev_bind (spread_ev _ _) ?_
  rw [← hx, List.length_map, List.length_range, ← mix_zero C a (trm C a n) t (ext C a n e w t)]
  have := jline_l1 g O a n h e (w := w) ht ce (trm C a n) 0 (by omega)
  simpa [spc] using this
theorem jline_l0 : ∀ (d i : Nat), i + d = trm C a n →
  Ev (fun k => just_Line.l0 k ((a + trm C a n : Nat) : Int) ((List.range (trm C a n + 1)).map (col C a t)) ((List.range i).map (bas C a t)) ((a + i : Nat) : Int) C O (a : Int) ((a + n : Nat) : Int) ce e w t m3 h4 p5 lo) (WD C a n e w t) := by
 have hg := g.len
 have hT := trm_le C a n
 intro d
 induction d with
 | zero =>
  intro i hi
  have hj := jline_j1 g O a n h e hw ht ce m3 h4 p5 lo
  refine Ev.step (fun k => by unfold just_Line.l0; rfl) (ev_neg (by omega) ?_)
  rw [show i = trm C a n from by omega]
  by_cases h2 : e = 2
  ·refine ev_pos h2 ?_
   rwa [show (e == 2 || e == 4) = true from by simp [h2]] at hj
  ·refine ev_neg h2 ?_
   rwa [show (e == 2 || e == 4) = (e == 4) from by simp [h2]] at hj
 | succ d ih =>
  intro i hi
  have hb := bas_bd g a ht i
  refine Ev.step (fun k => by unfold just_Line.l0; rfl) (ev_pos (by omega) ?_)
  rw [w64 (x := ((a + i : Nat) : Int) - (a : Int)) (by omega) (by omega), show ((a + i : Nat) : Int) - (a : Int) = (i : Int) from by omega, show wrap64 ((i : Int) + 1) = ((i + 1 : Nat) : Int) from by rw [w64 (by omega) (by omega)]; rfl,
   rd_map_range _ (by omega), rd_map_range _ (by omega), show col C a t (i + 1) - col C a t i = bas C a t i from rfl, w64 (x := bas C a t i) (by omega) (by omega), map_range_snoc, show wrap64 (((a + i : Nat) : Int) + 1) = ((a + (i + 1) : Nat) : Int) from by rw [w64 (by omega) (by omega)]; omega]
  exact ev_pos (by omega) (ev_pos (by simp; omega) (ev_pos (by omega) (ev_pos (by simp; omega) (ev_pos (by simp; omega) (ih (i + 1) (by omega))))))
theorem jline_ev : Ev (fun k => just_Line.f k C O (a : Int) ((a + n : Nat) : Int) ce e w t m3 h4 p5 lo) (WD C a n e w t) := by
 have hT := trm_le C a n
 unfold just_Line.f
 refine ev_bind (trim_ev g O a n h) ?_
 refine ev_bind (columns_ev g O a (trm C a n) ht (by omega)) ?_
 exact jline_l0 g O a n h e hw ht ce m3 h4 p5 lo (trm C a n) 0 (by omega)
end
end Go.Proofs.Ytfeidhmkmbgnoaa.Pure
end
section
/- draw.Row comes to the plain row. -/
namespace Go.Proofs.Ytfeidhmkmbgnoaa.Pure
open Go.RowKit Go.Proofs.YtfeidhmkmbgnoaaW.PrintWords Go.Proofs.Ytfeidhmkmbgnoaa.F
theorem rep_eq {x : Int} (h0 : 0 ≤ x) (h1 : x ≤ 2000000) : slices_Repeat_byte_byte.f [32] x = some (List.replicate x.toNat 32) := by
 unfold slices_Repeat_byte_byte.f
 rw [if_pos ⟨rfl, h0, h1⟩]; rfl
section
variable {C : List S61} (g : Good C) {B : List Int} (b : Byt C B) (O : List Int) (a n : Nat) (h : a + n ≤ C.length) (e : Int) {w t : Int} (hw : 1 ≤ w ∧ w ≤ 1048576) (ht : 1 ≤ t ∧ t ≤ 64) (ce m3 h4 p5 : Int) (lo : Nat) (fl : Bool)
include g b h ht
theorem drow_l0 : ∀ (d i : Nat), i + d = trm C a n →
  Ev (fun k => draw_Row.l0 k B fl ((a + trm C a n : Nat) : Int) ((List.range (trm C a n + 1)).map (col C a t)) (WD C a n e w t) (pcs B C a t (ext C a n e w t) fl i) ((a + i : Nat) : Int) C O (a : Int) ((a + n : Nat) : Int) ce e) (RW B C a n e w t fl) := by
 have hg := g.len
 have hT := trm_le C a n
 intro d
 induction d with
 | zero =>
  intro i hi
  have hp := pcs_len g b a n e w ht fl (trm C a n) (by omega)
  refine Ev.step (fun k => by unfold draw_Row.l0; rfl) (ev_neg (by omega) ?_)
  rw [show i = trm C a n from by omega]
  by_cases h3 : e = 3
  ·refine ev_pos h3 (ev_pos (by omega) (ev_ret ?_))
   unfold RW tail3
   rw [if_pos h3]
  ·refine ev_neg h3 (ev_ret ?_)
   unfold RW tail3
   rw [if_neg h3, List.append_nil]
 | succ d ih =>
  intro i hi
  have ih' := ih (i + 1) (by omega)
  have hp := pcs_len g b a n e w ht fl (i + 1) (by omega)
  have hb := bas_bd g a ht i
  have hwd := wid_bd g a n e w ht i
  have hai : a + i < C.length := by omega
  have f0 := b.at0 _ hai
  have f1 := b.one _ hai
  have f2 := b.fit _ hai
  have f3 := b.len
  have hW : rd (WD C a n e w t) (i : Int) = wid C a t (ext C a n e w t) i := rd_map_range _ (by omega)
  have hWl : (WD C a n e w t).length = trm C a n := by simp [WD]
  refine Ev.step (fun k => by unfold draw_Row.l0; rfl) ?_
  rw [wsub (by omega), wnat (show i ≤ 100000 by omega), wnat (show a + i ≤ 100000 by omega), rd_cl, rd_map_range _ (by omega), rd_map_range _ (by omega), show col C a t (i + 1) - col C a t i = bas C a t i from rfl,
   w64 (x := bas C a t i) (by omega) (by omega), w64 (x := (cl C (a + i)).f0 + (cl C (a + i)).f1) (by omega) (by omega), hW, hWl]
  refine ev_pos (by omega) (ev_pos (by omega) (ev_pos (by omega) (ev_pos (by omega) (ev_pos (by simp; omega) (ev_pos (by omega) (ev_pos (by simp; omega) ?_))))))
  cases fl with
  | true =>
   refine ev_pos rfl (ev_pos (by omega) ?_)
   by_cases hk : (cl C (a + i)).f3 = 0
   ·have hq := pcs_plain B C a t (ext C a n e w t) true i hk
    refine ev_pos hk (ev_pos (by omega) (ev_pos (by omega) (ev_pos (by omega) (ev_pos ?_ ?_))))
    ·rw [← List.length_append, hq]; omega
    ·rw [hq]; exact ih'
   ·have hq := pcs_space B C a t (ext C a n e w t) true i hk
    rw [show wd C a t (ext C a n e w t) true i = wid C a t (ext C a n e w t) i from rfl] at hq
    refine ev_neg hk (ev_bind' (rep_eq (by omega) (by omega)) (ev_pos ?_ ?_))
    ·rw [← List.length_append, hq]; omega
    ·rw [hq]; exact ih'
  | false =>
   refine ev_neg (by decide) ?_
   by_cases hk : (cl C (a + i)).f3 = 0
   ·have hq := pcs_plain B C a t (ext C a n e w t) false i hk
    refine ev_pos hk (ev_pos (by omega) (ev_pos (by omega) (ev_pos (by omega) (ev_pos ?_ ?_))))
    ·rw [← List.length_append, hq]; omega
    ·rw [hq]; exact ih'
   ·have hq := pcs_space B C a t (ext C a n e w t) false i hk
    rw [show wd C a t (ext C a n e w t) false i = bas C a t i from rfl] at hq
    refine ev_neg hk (ev_bind' (rep_eq (by omega) (by omega)) (ev_pos ?_ ?_))
    ·rw [← List.length_append, hq]; omega
    ·rw [hq]; exact ih'
include hw
theorem drow_ev : Ev (fun k => draw_Row.f k B C O (a : Int) ((a + n : Nat) : Int) ce e w t m3 h4 p5 lo fl) (RW B C a n e w t fl) := by
 have hT := trm_le C a n
 unfold draw_Row.f
 refine ev_bind (trim_ev g O a n h) ?_
 refine ev_bind (columns_ev g O a (trm C a n) ht (by omega)) ?_
 refine ev_bind (jline_ev g O a n h e hw ht ce m3 h4 p5 lo) ?_
 exact drow_l0 g b O a n h e ht ce fl (trm C a n) 0 (by omega)
end
def RWL (B : List Int) (C : List S61) (w t : Int) (fl : Bool) (x : S45) : List Int := RW B C x.f0.toNat (x.f1 - x.f0).toNat x.f3 w t fl
theorem rwl_mk (B : List Int) (C : List S61) (a n : Nat) (e w t : Int) (fl : Bool) : RWL B C w t fl (mkln C a n e t) = RW B C a n e w t fl := by
 unfold RWL mkln
 show RW B C (Int.toNat (a : Int)) (((a + n : Nat) : Int) - (a : Int)).toNat e w t fl = _
 rw [show (((a + n : Nat) : Int) - (a : Int)).toNat = n from by omega, Int.toNat_natCast]
section
variable {C : List S61} (g : Good C) {B : List Int} (b : Byt C B) (O : List Int) {w t : Int} (hw : 1 ≤ w ∧ w ≤ 1048576) (ht : 1 ≤ t ∧ t ≤ 64) (m3 h4 p5 : Int) (lo : Nat) (fl : Bool)
include g b hw ht
theorem dall_l0 {M : List S45} (hM : ∀ x ∈ M, LineIn C t 0 C.length x) (hl : M.length ≤ 4000) : ∀ (d i : Nat), i + d = M.length →
  Ev (fun k => draw_All.l0 k B fl ((M.take i).map (RWL B C w t fl)) M (M.length : Int) (i : Int) C O w t m3 h4 p5 lo) (M.map (RWL B C w t fl)) := by
 intro d
 induction d with
 | zero =>
  intro i hi
  refine Ev.step (fun k => by unfold draw_All.l0; rfl) (ev_neg (by omega) (ev_ret ?_))
  rw [List.take_of_length_le (by omega)]
 | succ d ih =>
  intro i hi
  have ih' := ih (i + 1) (by omega)
  have hlt : i < M.length := by omega
  obtain ⟨a, n, e, hx, _, _, hn⟩ := hM M[i] (List.getElem_mem hlt)
  have hrd : rd_T45 M (i : Int) = mkln C a n e t := by
   show M.getD i z45 = _
   rw [List.getD_eq_getElem?_getD, List.getElem?_eq_getElem hlt]; exact hx
  rw [List.take_add_one, List.getElem?_eq_getElem hlt, hx, List.map_append] at ih'
  refine Ev.step (fun k => by unfold draw_All.l0; rfl) (ev_pos (by omega) (ev_pos (by omega) (ev_pos (by omega) ?_)))
  rw [hrd, wnat (by omega)]
  refine ev_bind (drow_ev g b O a n hn e hw ht (cel C a n e t) m3 h4 p5 lo fl) (ev_pos (by rw [List.length_map, List.length_take]; omega) ?_)
  rw [← rwl_mk B C a n e w t fl]
  exact ih'
theorem dall_ev {M : List S45} (hM : ∀ x ∈ M, LineIn C t 0 C.length x) (hl : M.length ≤ 4000) :
  Ev (fun k => draw_All.f k B C O M w t m3 h4 p5 lo fl) (M.map (RWL B C w t fl)) :=
 dall_l0 g b O hw ht m3 h4 p5 lo fl hM hl M.length 0 (by omega)
end
end Go.Proofs.Ytfeidhmkmbgnoaa.Pure
end
section
/- Layer 22's Awake is true. -/
namespace Go.Proofs.Ytfeidhmkmbgnoaa.Pure
open Go.RowKit Go.Proofs.YtfeidhmkmbgnoaaW.PrintWords Go.Proofs.Ytfeidhmkmbgnoaa.F
def awl : List S49 := [⟨1, 0, 0, 0⟩, ⟨0, 2, 0, 0⟩, ⟨1, 0, 0, 0⟩, ⟨1, 1, 0, 0⟩]
theorem awl_byt : Byt (CL awl) [97, 9, 98, 32] := by
 refine ⟨by decide, fun i hi => ?_, fun i hi => ?_, fun i hi => ?_⟩ <;>
 ·have h4 : i < 4 := hi
  rcases i with _ | _ | _ | _ | i
  ·decide
  ·decide
  ·decide
  ·decide
  ·omega
theorem awake22 : Ev (fun k => stanzalaw22_Awake.f k) true := by
 unfold stanzalaw22_Awake.f
 refine ev_bind (para_ev (l := awl) (by decide) (by unfold awl Small; decide)) ?_
 refine ev_bind (drow_ev (good_CL (l := awl) (by decide)) awl_byt (OP awl) 0 4 (by decide) 2 (w := 9) (t := 4) (by decide) (by decide) 5 0 0 0 0 true) ?_
 exact ev_ret (by decide +kernel)
end Go.Proofs.Ytfeidhmkmbgnoaa.Pure
end
section
/- Parts of a text, and what the lines of a part keep: plain. -/
namespace Go.Proofs.Ytfeidhmkmbgnoaa.Pure
open Go.RowKit Go.Proofs.YtfeidhmkmbgnoaaW.PrintWords Go.Proofs.Ytfeidhmkmbgnoaa.F
def enc (fr m : Nat) : Int := if m = 0 then -1 else ((fr + m : Nat) : Int)
theorem enc_zero (fr : Nat) : enc fr 0 = -1 := rfl
theorem enc_pos {fr m : Nat} (h : m ≠ 0) : enc fr m = ((fr + m : Nat) : Int) := if_neg h
section
variable {C : List S61} (g : Good C) (O : List Int) (fr : Nat) {w t : Int} (ht : 1 ≤ t ∧ t ≤ 64)
include g ht
end
end Go.Proofs.Ytfeidhmkmbgnoaa.Pure
end
section
/- The document's functions of layer 13 come to the same plain functions. -/
namespace Go.Proofs.Ytfeidhmkmbgnoaa.Pure
open Go.RowKit Go.Proofs.YtfeidhmkmbgnoaaW.PrintWords Go.Proofs.Ytfeidhmkmbgnoaa.F
theorem rnext_l0 {x t : Int} (hx : 0 ≤ x ∧ x ≤ 1000000) (ht : 1 ≤ t ∧ t ≤ 64) : ∀ (d : Nat) (y : Int), x < y → y + d = x + t - x % t →
  Ev (fun k => r3_Next.l0 k t y) (x + t - x % t) := by
 have h1 := Int.emod_nonneg x (by omega : t ≠ 0)
 have h2 := Int.emod_lt_of_pos x (by omega : 0 < t)
 have h3 := Int.mul_ediv_add_emod x t
 intro d
 induction d with
 | zero =>
  intro y hy hd
  refine Ev.step (fun k => by unfold r3_Next.l0; rfl) (ev_neg (by omega) (ev_pos ?_ (ev_ret (by omega))))
  rw [tmodp (by omega), show y = t * (x / t + 1) from by rw [Int.mul_add, Int.mul_one]; omega]
  exact Int.mul_emod_right _ _
 | succ d ih =>
  intro y hy hd
  refine Ev.step (fun k => by unfold r3_Next.l0; rfl) (ev_neg (by omega) (ev_neg ?_ ?_))
  ·rw [tmodp (by omega), show y = (y - t * (x / t)) + t * (x / t) from by omega, Int.add_mul_emod_self_left, Int.emod_eq_of_lt (by omega) (by omega)]
   omega
  ·rw [w64 (by omega) (by omega)]
   exact ih (y + 1) (by omega) (by omega)
theorem rnext_ev {c : S61} {x t : Int} (h0 : 0 ≤ c.f2 ∧ c.f2 ≤ 2) (hx : 0 ≤ x ∧ x ≤ 1000000) (ht : 1 ≤ t ∧ t ≤ 64) : Ev (fun k => r3_Next.f k c.f0 c.f1 c.f2 c.f3 x t) (nxt c x t) := by
 unfold r3_Next.f nxt
 have h1 := Int.emod_nonneg x (by omega : t ≠ 0)
 have h2 := Int.emod_lt_of_pos x (by omega : 0 < t)
 by_cases h : c.f3 = 2
 ·rw [if_pos h]
  refine ev_pos h ?_
  rw [w64 (by omega) (by omega)]
  exact rnext_l0 hx ht (t - x % t - 1).toNat (x + 1) (by omega) (by omega)
 ·rw [if_neg h]
  refine ev_neg h (ev_ret ?_)
  rw [w64 (by omega) (by omega)]
theorem rcolumns_l0 {C : List S61} (g : Good C) (O : List Int) (fr n : Nat) {t : Int} (ht : 1 ≤ t ∧ t ≤ 64) (h : fr + n ≤ C.length) : ∀ (d i : Nat), i + d = n →
  Ev (fun k => r3_Columns.l0 k ((fr + n : Nat) : Int) t (col C fr t i) ((List.range (i + 1)).map (col C fr t)) ((fr + i : Nat) : Int) C O) ((List.range (n + 1)).map (col C fr t)) := by
 have hg := g.len
 intro d
 induction d with
 | zero =>
  intro i hi
  refine Ev.step (fun k => by unfold r3_Columns.l0; rfl) (ev_neg (by omega) (ev_ret ?_))
  rw [show i = n from by omega]
 | succ d ih =>
  intro i hi
  have hc := col_bd g fr ht i
  refine Ev.step (fun k => by unfold r3_Columns.l0; rfl) (ev_pos (by omega) (ev_pos (by omega) (ev_pos (by omega) ?_)))
  rw [rd_cl]
  refine ev_bind (rnext_ev (g.cells (fr + i)) (by omega) ht) ?_
  refine ev_pos (by rw [List.length_map, List.length_range]; omega) ?_
  rw [show wrap64 (((fr + i : Nat) : Int) + 1) = ((fr + (i + 1) : Nat) : Int) from by rw [w64 (by omega) (by omega)]; omega, show nxt (cl C (fr + i)) (col C fr t i) t = col C fr t (i + 1) from rfl, map_range_snoc]
  exact ih (i + 1) (by omega)
theorem rcolumns_ev {C : List S61} (g : Good C) (O : List Int) (fr n : Nat) {t : Int} (ht : 1 ≤ t ∧ t ≤ 64) (h : fr + n ≤ C.length) :
  Ev (fun k => r3_Columns.f k C O (fr : Int) ((fr + n : Nat) : Int) t) ((List.range (n + 1)).map (col C fr t)) :=
 rcolumns_l0 g O fr n ht h n 0 (by omega)
theorem rempty_eq {c : S61} : r3_Empty.f c.f0 c.f1 c.f2 c.f3 = some (emp c) := by
 unfold r3_Empty.f emp
 by_cases h1 : c.f3 = 1
 ·rw [if_pos h1, h1]; rfl
 ·rw [if_neg h1]
  by_cases h0 : c.f3 = 0
  ·rw [if_pos h0, h0]; rfl
  ·rw [if_neg h0]
   simp [h1, h0]
theorem rtrim_l0 {C : List S61} (g : Good C) (O : List Int) (fr n : Nat) (h : fr + n ≤ C.length) : ∀ (d i : Nat), i + d = n →
  Ev (fun k => r3_Trim.l0 k ((fr + n : Nat) : Int) ((fr + trm C fr i : Nat) : Int) ((fr + i : Nat) : Int) C O) ((fr + trm C fr n : Nat) : Int) := by
 have hg := g.len
 intro d
 induction d with
 | zero =>
  intro i hi
  refine Ev.step (fun k => by unfold r3_Trim.l0; rfl) (ev_neg (by omega) (ev_ret ?_))
  rw [show i = n from by omega]
 | succ d ih =>
  intro i hi
  refine Ev.step (fun k => by unfold r3_Trim.l0; rfl) (ev_pos (by omega) (ev_pos (by omega) (ev_pos (by omega) (ev_bind' rempty_eq ?_))))
  rw [rd_cl, show wrap64 (((fr + i : Nat) : Int) + 1) = ((fr + (i + 1) : Nat) : Int) from by rw [w64 (by omega) (by omega)]; omega]
  by_cases he : emp (cl C (fr + i)) = true
  ·refine ev_pos he ?_
   rw [show trm C fr i = trm C fr (i + 1) from (if_pos he).symm]
   exact ih (i + 1) (by omega)
  ·refine ev_neg he ?_
   have := ih (i + 1) (by omega)
   rwa [show trm C fr (i + 1) = i + 1 from if_neg he] at this
theorem rtrim_ev {C : List S61} (g : Good C) (O : List Int) (fr n : Nat) (h : fr + n ≤ C.length) :
  Ev (fun k => r3_Trim.f k C O (fr : Int) ((fr + n : Nat) : Int)) ((fr + trm C fr n : Nat) : Int) := by
 unfold r3_Trim.f
 exact rtrim_l0 g O fr n h n 0 (by omega)
theorem rcells_ev {C : List S61} (g : Good C) (O : List Int) (fr n : Nat) (e : Int) {t : Int} (ht : 1 ≤ t ∧ t ≤ 64) (h : fr + n ≤ C.length) :
  Ev (fun k => r3_Cells.f k C O (fr : Int) ((fr + n : Nat) : Int) e t) (cel C fr n e t) := by
 have hg := g.len
 have ht' := trm_le C fr n
 have hc := col_bd g fr ht (trm C fr n)
 unfold r3_Cells.f
 refine ev_bind (rtrim_ev g O fr n h) (ev_bind (rcolumns_ev g O fr (trm C fr n) ht (by omega)) ?_)
 rw [List.length_map, List.length_range, show wrap64 (((trm C fr n + 1 : Nat) : Int) - 1) = (trm C fr n : Int) from by rw [w64 (by omega) (by omega)]; omega, rd_map_range _ (by omega)]
 refine ev_pos (by omega) (ev_pos (by omega) ?_)
 unfold cel
 by_cases he : e = 3
 ·refine ev_pos he (ev_ret ?_)
  rw [if_pos he, w64 (by omega) (by omega)]
 ·refine ev_neg he (ev_ret ?_)
  rw [if_neg he]
  omega
theorem rline_ev {C : List S61} (g : Good C) (O : List Int) (fr n : Nat) (e : Int) {t : Int} (ht : 1 ≤ t ∧ t ≤ 64) (h : fr + n ≤ C.length) :
  Ev (fun k => r3_Line.f k C O (fr : Int) ((fr + n : Nat) : Int) e t) ((fr : Int), ((fr + n : Nat) : Int), cel C fr n e t, e) := by
 unfold r3_Line.f
 exact ev_bind (rcells_ev g O fr n e ht h) (Ev.now _)
end Go.Proofs.Ytfeidhmkmbgnoaa.Pure
end
section
/- The document's First comes to the plain lines. -/
namespace Go.Proofs.Ytfeidhmkmbgnoaa.Pure
open Go.RowKit Go.Proofs.YtfeidhmkmbgnoaaW.PrintWords Go.Proofs.Ytfeidhmkmbgnoaa.F
section
variable {C : List S61} (g : Good C) {O : List Int} (hO : O.length = C.length + 1) {w t : Int} (ht : 1 ≤ t ∧ t ≤ 64) (m3 h4 p5 : Int) (lo : Nat)
include g hO ht
theorem rfirst_end {fr z : Nat} (hft : fr < z) (hto : z ≤ C.length) (acc : List S45) (hacc : acc.length ≤ fr) {R : List S45}
  (H : Ev (fun k => r3_First.l0 k ((fr + lnN C O fr w t (z - fr) : Nat) : Int) (z : Int) (acc ++ [mkln C fr (lnN C O fr w t (z - fr)) (lnE C O fr w t (z - fr)) t]) C O w t m3 h4 p5 lo) R) :
  Ev (fun k => r3_First.l1 k (fr : Int) (z : Int) acc (enc fr (bestN C O fr w t (z - fr))) (enc fr (cutN C fr w t (z - fr))) ((z : Int) + 1) C O w t m3 h4 p5 lo) R := by
 have hg := g.len
 have hb := lnN_bd C O fr w t (N := z - fr) (by omega)
 have hcl := cutN_le C fr w t (z - fr)
 have hbl := bestN_le C O fr w t (z - fr)
 refine Ev.step (fun k => by unfold r3_First.l1; rfl) (ev_neg (by omega) ?_)
 by_cases h0 : bestN C O fr w t (z - fr) = 0
 ·have eN : lnN C O fr w t (z - fr) = if cutN C fr w t (z - fr) = 0 then 1 else cutN C fr w t (z - fr) := if_pos h0
  have eE : lnE C O fr w t (z - fr) = if op O (fr + lnN C O fr w t (z - fr)) = 2 ∨ op O (fr + lnN C O fr w t (z - fr)) = 1 then op O (fr + lnN C O fr w t (z - fr)) else 4 := if_pos h0
  rw [h0, enc_zero]
  refine ev_neg (by omega) ?_
  by_cases hc : cutN C fr w t (z - fr) = 0
  ·have e1 : lnN C O fr w t (z - fr) = 1 := by rw [eN, if_pos hc]
   rw [e1] at H eE
   rw [hc, enc_zero]
   refine ev_pos (by omega) ?_
   rw [w64 (x := (fr : Int) + 1) (by omega) (by omega), show (fr : Int) + 1 = ((fr + 1 : Nat) : Int) from by omega, rd_op]
   refine ev_pos (by omega) (ev_pos (by omega) ?_)
   by_cases o2 : op O (fr + 1) = 2
   ·rw [if_pos (.inl o2)] at eE
    rw [eE] at H
    refine ev_pos o2 (ev_bind (rline_ev g O fr 1 _ ht (by omega)) ?_)
    exact ev_pos (by omega) H
   ·refine ev_neg o2 ?_
    by_cases o1 : op O (fr + 1) = 1
    ·rw [if_pos (.inr o1)] at eE
     rw [eE] at H
     refine ev_pos o1 (ev_bind (rline_ev g O fr 1 _ ht (by omega)) ?_)
     exact ev_pos (by omega) H
    ·rw [if_neg (by omega)] at eE
     rw [eE] at H
     refine ev_neg o1 (ev_bind (rline_ev g O fr 1 _ ht (by omega)) ?_)
     exact ev_pos (by omega) H
  ·have e1 : lnN C O fr w t (z - fr) = cutN C fr w t (z - fr) := by rw [eN, if_neg hc]
   rw [e1] at H eE hb
   rw [enc_pos hc]
   generalize cutN C fr w t (z - fr) = n at *
   refine ev_neg (by omega) ?_
   rw [rd_op]
   refine ev_pos (by omega) (ev_pos (by omega) ?_)
   by_cases o2 : op O (fr + n) = 2
   ·rw [if_pos (.inl o2)] at eE
    rw [eE] at H
    refine ev_pos o2 (ev_bind (rline_ev g O fr n _ ht (by omega)) ?_)
    exact ev_pos (by omega) H
   ·refine ev_neg o2 ?_
    by_cases o1 : op O (fr + n) = 1
    ·rw [if_pos (.inr o1)] at eE
     rw [eE] at H
     refine ev_pos o1 (ev_bind (rline_ev g O fr n _ ht (by omega)) ?_)
     exact ev_pos (by omega) H
    ·rw [if_neg (by omega)] at eE
     rw [eE] at H
     refine ev_neg o1 (ev_bind (rline_ev g O fr n _ ht (by omega)) ?_)
     exact ev_pos (by omega) H
 ·have e1 : lnN C O fr w t (z - fr) = bestN C O fr w t (z - fr) := if_neg h0
  have eE : lnE C O fr w t (z - fr) = op O (fr + lnN C O fr w t (z - fr)) := if_neg h0
  rw [eE, e1] at H
  rw [e1] at hb
  rw [enc_pos h0]
  generalize bestN C O fr w t (z - fr) = n at *
  refine ev_pos (by omega) (ev_pos (by omega) (ev_pos (by omega) ?_))
  rw [rd_op]
  refine ev_bind (rline_ev g O fr n _ ht (by omega)) ?_
  exact ev_pos (by omega) H
theorem rfirst_l1 {fr z : Nat} (hft : fr < z) (hto : z ≤ C.length) (acc : List S45) {R : List S45}
  (H : Ev (fun k => r3_First.l1 k (fr : Int) (z : Int) acc (enc fr (bestN C O fr w t (z - fr))) (enc fr (cutN C fr w t (z - fr))) ((z : Int) + 1) C O w t m3 h4 p5 lo) R) : ∀ (d m : Nat), m + d = z - fr →
  Ev (fun k => r3_First.l1 k (fr : Int) (z : Int) acc (enc fr (bestN C O fr w t m)) (enc fr (cutN C fr w t m)) ((fr + (m + 1) : Nat) : Int) C O w t m3 h4 p5 lo) R := by
 have hg := g.len
 intro d
 induction d with
 | zero =>
  intro m hm
  rw [show m = z - fr from by omega, show ((fr + (z - fr + 1) : Nat) : Int) = (z : Int) + 1 from by omega]
  exact H
 | succ d ih =>
  intro m hm
  have ih' := ih (m + 1) (by omega)
  refine Ev.step (fun k => by unfold r3_First.l1; rfl) (ev_pos (by omega) (ev_bind (rcells_ev g O fr (m + 1) 0 ht (by omega)) ?_))
  rw [show wrap64 (((fr + (m + 1) : Nat) : Int) + 1) = ((fr + (m + 1 + 1) : Nat) : Int) from by rw [w64 (by omega) (by omega)]; omega, rd_op]
  have hle := cel_zero_le C fr (m + 1) (op O (fr + (m + 1))) t
  by_cases hc : cel C fr (m + 1) 0 t ≤ w
  ·have ec : cutN C fr w t (m + 1) = m + 1 := if_pos hc
   rw [ec, enc_pos (fr := fr) (m := m + 1) (by omega)] at ih'
   refine ev_pos hc (ev_pos (by omega) (ev_pos (by omega) ?_))
   by_cases ho : op O (fr + (m + 1)) = 0
   ·have eb : bestN C O fr w t (m + 1) = bestN C O fr w t m := if_neg (fun h => h.1 ho)
    rw [eb] at ih'
    exact ev_pos ho ih'
   ·refine ev_neg ho (ev_bind (rcells_ev g O fr (m + 1) _ ht (by omega)) ?_)
    by_cases h2 : cel C fr (m + 1) (op O (fr + (m + 1))) t ≤ w
    ·have eb : bestN C O fr w t (m + 1) = m + 1 := if_pos ⟨ho, h2⟩
     rw [eb, enc_pos (fr := fr) (m := m + 1) (by omega)] at ih'
     exact ev_pos h2 ih'
    ·have eb : bestN C O fr w t (m + 1) = bestN C O fr w t m := if_neg (fun h => h2 h.2)
     rw [eb] at ih'
     exact ev_neg h2 ih'
  ·have ec : cutN C fr w t (m + 1) = cutN C fr w t m := if_neg hc
   have eb : bestN C O fr w t (m + 1) = bestN C O fr w t m := if_neg (fun h => by omega)
   rw [ec, eb] at ih'
   exact ev_neg hc ih'
theorem rfirst_l0 {z : Nat} (hto : z ≤ C.length) : ∀ (d fr : Nat) (acc : List S45), z - fr ≤ d → fr ≤ z → acc.length ≤ fr →
  Ev (fun k => r3_First.l0 k (fr : Int) (z : Int) acc C O w t m3 h4 p5 lo) (acc ++ PL C O w t fr z) := by
 have hg := g.len
 intro d
 induction d with
 | zero =>
  intro fr acc hd hf _
  refine Ev.step (fun k => by unfold r3_First.l0; rfl) (ev_neg (by omega) (ev_ret ?_))
  rw [PL_ge _ _ _ _ (by omega), List.append_nil]
 | succ d ih =>
  intro fr acc hd hf hacc
  by_cases hlt : fr < z
  ·have hb := lnN_bd C O fr w t (N := z - fr) (by omega)
   refine Ev.step (fun k => by unfold r3_First.l0; rfl) (ev_pos (by omega) ?_)
   rw [show wrap64 ((fr : Int) + 1) = ((fr + (0 + 1) : Nat) : Int) from by rw [w64 (by omega) (by omega)]; omega, PL_lt C O w t hlt]
   refine rfirst_l1 g hO ht m3 h4 p5 lo hlt hto acc (rfirst_end g hO ht m3 h4 p5 lo hlt hto acc hacc ?_) (z - fr) 0 (by omega)
   have := ih (fr + lnN C O fr w t (z - fr)) (acc ++ [mkln C fr (lnN C O fr w t (z - fr)) (lnE C O fr w t (z - fr)) t]) (by omega) (by omega) (by simp; omega)
   simpa [List.append_assoc] using this
  ·refine Ev.step (fun k => by unfold r3_First.l0; rfl) (ev_neg (by omega) (ev_ret ?_))
   rw [PL_ge _ _ _ _ (by omega), List.append_nil]
theorem rfirst_ev {fr z : Nat} (hft : fr ≤ z) (hto : z ≤ C.length) : Ev (fun k => r3_First.f k C O (fr : Int) (z : Int) w t m3 h4 p5 lo) (PL C O w t fr z) := by
 have := rfirst_l0 g hO ht m3 h4 p5 lo (w := w) hto (z - fr) fr [] (Nat.le_refl _) hft (Nat.zero_le _)
 exact this
end
end Go.Proofs.Ytfeidhmkmbgnoaa.Pure
end
section
/- The document's Parts comes to the plain parts. -/
namespace Go.Proofs.Ytfeidhmkmbgnoaa.Pure
open Go.RowKit Go.Proofs.YtfeidhmkmbgnoaaW.PrintWords Go.Proofs.Ytfeidhmkmbgnoaa.F
theorem rparts_l0 {C : List S61} {O : List Int} (hl : O.length ≤ 4001) : ∀ (d i : Nat), i + d = O.length →
  Ev (fun k => r0_Parts.l0 k (((List.range i).filter (fun i => op O i = 2)).map (fun i : Nat => (i : Int))) (i : Int) C O) ((PT O).map (fun i : Nat => (i : Int))) := by
 intro d
 induction d with
 | zero =>
  intro i hi
  refine Ev.step (fun k => by unfold r0_Parts.l0; rfl) (ev_neg (by omega) (ev_ret ?_))
  rw [show i = O.length from by omega]
  rfl
 | succ d ih =>
  intro i hi
  have ih' := ih (i + 1) (by omega)
  rw [List.range_succ, List.filter_append, List.map_append] at ih'
  refine Ev.step (fun k => by unfold r0_Parts.l0; rfl) (ev_pos (by omega) (ev_pos (by omega) ?_))
  rw [rd_op, show wrap64 ((i : Int) + 1) = ((i + 1 : Nat) : Int) from by rw [w64 (by omega) (by omega)]; rfl]
  by_cases h : op O i = 2
  ·refine ev_pos h (ev_pos ?_ ?_)
   ·have := List.length_filter_le (fun i => decide (op O i = 2)) (List.range i)
    rw [List.length_range] at this
    rw [List.length_map]
    omega
   ·simpa [h] using ih'
  ·refine ev_neg h ?_
   simpa [h] using ih'
theorem rparts_ev (C : List S61) {O : List Int} (hl : O.length ≤ 4001) : Ev (fun k => r0_Parts.f k C O) ((PT O).map (fun i : Nat => (i : Int))) :=
 rparts_l0 hl O.length 0 (by omega)
end Go.Proofs.Ytfeidhmkmbgnoaa.Pure
end
section
/- The document's Break (in mode First) comes to the plain lines of all parts. -/
namespace Go.Proofs.Ytfeidhmkmbgnoaa.Pure
open Go.RowKit Go.Proofs.YtfeidhmkmbgnoaaW.PrintWords Go.Proofs.Ytfeidhmkmbgnoaa.F
theorem rbreak_l0 {C : List S61} (g : Good C) {O : List Int} (hO : O.length = C.length + 1) {w t : Int} (ht : 1 ≤ t ∧ t ≤ 64) (h4 p5 : Int) (lo : Nat) (L : List Nat) (hL : L.length ≤ 4001) : ∀ (r : List Nat) (i fr : Nat) (acc : List S45), L.drop i = r →
  Rise C.length fr r → acc.length ≤ fr →
  Ev (fun k => r3_Break.l0 k acc false (fr : Int) (L.map (fun i : Nat => (i : Int))) (i : Int) C O w t 0 h4 p5 lo) (acc ++ BK C O w t fr r, false) := by
 have hg := g.len
 intro r
 induction r with
 | nil =>
  intro i fr acc hi _ _
  have : L.length ≤ i := List.drop_eq_nil_iff.1 hi
  refine Ev.step (fun k => by unfold r3_Break.l0; rfl) (ev_neg (by rw [List.length_map]; omega) (ev_ret ?_))
  simp [BK]
 | cons z r ih =>
  intro i fr acc hi hr hacc
  have hlt : i < L.length := by
   rcases Nat.lt_or_ge i L.length with h | h
   ·exact h
   ·rw [List.drop_of_length_le h] at hi; cases hi
  have hto : L[i] = z ∧ L.drop (i + 1) = r := by
   rw [List.drop_eq_getElem_cons hlt] at hi
   injection hi with h1 h2
   exact ⟨h1, h2⟩
  have e1 : rd (L.map (fun i : Nat => (i : Int))) (i : Int) = (z : Int) := by
   rw [rd_nat, List.getD_eq_getElem?_getD, List.getElem?_map, List.getElem?_eq_getElem hlt, hto.1]; rfl
  have h1 := Rise.le hr.2
  have h2 := FL_len C O w t z (z - fr) fr
  have h3 := hr.1
  have ep : Ev (fun k => r3_Part.f k C O (fr : Int) (z : Int) w t 0 h4 p5 lo) (PL C O w t fr z, false) := by
   unfold r3_Part.f
   exact ev_pos rfl (ev_bind (rfirst_ev g hO ht 0 h4 p5 lo h3 h1) (Ev.now _))
  refine Ev.step (fun k => by unfold r3_Break.l0; rfl) (ev_pos (by rw [List.length_map]; omega) (ev_pos (by omega) ?_))
  rw [e1]
  refine ev_bind ep ?_
  refine ev_pos (by show acc.length + (PL C O w t fr z).length < _; unfold PL; omega) (ev_let ?_)
  refine ev_neg (by decide) ?_
  rw [show wrap64 ((i : Int) + 1) = ((i + 1 : Nat) : Int) from by rw [w64 (by omega) (by omega)]; rfl]
  have := ih (i + 1) z (acc ++ PL C O w t fr z) hto.2 hr.2 (by rw [List.length_append]; unfold PL; omega)
  simpa [BK, List.append_assoc] using this
theorem rbreak_ev {C : List S61} (g : Good C) {O : List Int} (hO : O.length = C.length + 1) {w t : Int} (ht : 1 ≤ t ∧ t ≤ 64) (h4 p5 : Int) (lo : Nat) :
  Ev (fun k => r3_Break.f k C O w t 0 h4 p5 lo) (BK C O w t 0 (PT O), false) := by
 have hg := g.len
 unfold r3_Break.f
 refine ev_bind (rparts_ev C (by omega)) ?_
 have hL : (PT O).length ≤ 4001 := by
  have := List.length_filter_le (fun i => decide (op O i = 2)) (List.range O.length)
  rw [List.length_range] at this
  unfold PT
  omega
 have := rbreak_l0 g hO ht (w := w) h4 p5 lo (PT O) hL (PT O) 0 0 [] rfl (rise_PT hO) (Nat.zero_le _)
 exact this
end Go.Proofs.Ytfeidhmkmbgnoaa.Pure
end
section
/- A way made of small numbers. -/
namespace Go.Proofs.Ytfeidhmkmbgnoaa.Pure
open Go.RowKit Go.Proofs.YtfeidhmkmbgnoaaW.PrintWords Go.Proofs.Ytfeidhmkmbgnoaa.F
theorem config_eq {a b c d e : Int} (l : Nat) (ha : 0 ≤ a ∧ a ≤ 255) (hb : 0 ≤ b ∧ b ≤ 255) (hc : 0 ≤ c ∧ c ≤ 255) (hd : 0 ≤ d ∧ d ≤ 65535) (he : 0 ≤ e ∧ e ≤ 65535) :
  h3_Config.f a b c d e l = some (1 + a, 1 + b % 64, c % 2, d, e, l) := by
 unfold h3_Config.f
 rw [tmodp hb.1, tmodp hc.1, w64 (x := a) (by omega) (by omega), w64 (x := 1 + a) (by omega) (by omega), w64 (x := b % 64) (by omega) (by omega), w64 (x := 1 + b % 64) (by omega) (by omega), w64 (x := d) (by omega) (by omega), w64 (x := e) (by omega) (by omega)]
theorem way_of {a b c d e : Int} {l : Nat} (h : (Lit.int .u8 a).wf = true ∧ (Lit.int .u8 b).wf = true ∧ (Lit.int .u8 c).wf = true ∧ (Lit.int .u16 d).wf = true ∧ (Lit.int .u16 e).wf = true ∧ (Lit.float .f64 l).wf = true) :
  (0 ≤ a ∧ a ≤ 255) ∧ (0 ≤ b ∧ b ≤ 255) ∧ (0 ≤ c ∧ c ≤ 255) ∧ (0 ≤ d ∧ d ≤ 65535) ∧ (0 ≤ e ∧ e ≤ 65535) := by
 rw [wfu8, wfu8, wfu8, wfu16, wfu16] at h
 exact ⟨h.1, h.2.1, h.2.2.1, h.2.2.2.1, h.2.2.2.2.1⟩
end Go.Proofs.Ytfeidhmkmbgnoaa.Pure
end
section
/- Layer 22's text, its lines and its bytes. -/
namespace Go.Proofs.Ytfeidhmkmbgnoaa.Pure
open Go.RowKit Go.Proofs.YtfeidhmkmbgnoaaW.PrintWords Go.Proofs.Ytfeidhmkmbgnoaa.F
def bv (m : Nat) : Int := 97 + (m : Int) % 26
def bl (l : List S49) (i : Nat) : Nat := (1 + (bit l i).f2 % 4).toNat
def BY (l : List S49) : Nat → List Int
 | 0 => []
 | i + 1 => BY l i ++ (List.range (bl l i)).map (fun j => bv (i + j))
theorem bl_bd (l : List S49) (i : Nat) : 1 ≤ bl l i ∧ bl l i ≤ 4 ∧ (bl l i : Int) = 1 + (bit l i).f2 % 4 := by
 have := mod4 (bit l i).f2
 unfold bl; omega
theorem BY_len (l : List S49) (i : Nat) : ((BY l i).length : Int) = atl l i := by
 induction i with
 | zero => rfl
 | succ i ih =>
  have := bl_bd l i
  show ((_ ++ _ : List Int).length : Int) = atl l i + (1 + (bit l i).f2 % 4)
  rw [List.length_append, List.length_map, List.length_range]
  omega
theorem atl_le (l : List S49) {i j : Nat} (h : i ≤ j) : atl l i ≤ atl l j := by
 induction j with
 | zero => rw [show i = 0 from by omega]; exact Int.le_refl _
 | succ j ih =>
  have m4 := mod4 (bit l j).f2
  rcases Nat.eq_or_lt_of_le h with h1 | h1
  ·rw [h1]; exact Int.le_refl _
  ·have := ih (by omega)
   show _ ≤ atl l j + (1 + (bit l j).f2 % 4)
   omega
theorem byt_CL {l : List S49} (h : l.length ≤ 4000) : Byt (CL l) (BY l l.length) := by
 have hb := atl_bd l l.length
 have hl := BY_len l l.length
 refine ⟨by omega, fun i hi => ?_, fun i hi => ?_, fun i hi => ?_⟩
 ·rw [CL_len] at hi
  rw [cl_CL hi]
  have := atl_bd l i
  show 0 ≤ atl l i
  omega
 ·rw [CL_len] at hi
  rw [cl_CL hi]
  have := mod4 (bit l i).f2
  show 1 ≤ 1 + (bit l i).f2 % 4
  omega
 ·rw [CL_len] at hi
  rw [cl_CL hi, hl]
  exact atl_le l (i := i + 1) (j := l.length) (by omega)
theorem bv_eq {i j : Nat} (h : i + j ≤ 100000) : (wrap64 (97 + (Int.tmod (wrap64 ((i : Int) + (j : Int))) 26))) % 256 = bv (i + j) := by
 rw [w64 (x := (i : Int) + (j : Int)) (by omega) (by omega), tmodp (by omega)]
 unfold bv
 rw [w64 (by omega) (by omega)]
 omega
section
variable {l : List S49} (hl : l.length ≤ 4000) (M : List S45) (O : List Int) (w t md h p : Int) (lo : Nat)
include hl
theorem byl_l1 {i : Nat} (hi : i < l.length) {R : (List S61) × List Int × (List S45) × Int × Int × Int × Int × Int × Nat × List Int}
  (hn : Ev (fun k => stanzalaw22_lined.l0 k M (BY l (i + 1)) (CL l) ((CL l).length : Int) ((i + 1 : Nat) : Int) (CL l) O w t md h p lo) R) : ∀ (d j : Nat), j + d = bl l i →
  Ev (fun k => stanzalaw22_lined.l1 k M (BY l i ++ (List.range j).map (fun j => bv (i + j))) (i : Int) (CL l) ((CL l).length : Int) (i : Int) ((bl l i : Nat) : Int) (j : Int) (CL l) O w t md h p lo) R := by
 have hb := bl_bd l i
 have ha := atl_bd l i
 have hy := BY_len l i
 intro d
 induction d with
 | zero =>
  intro j hj
  refine Ev.step (fun k => by unfold stanzalaw22_lined.l1; rfl) (ev_neg (by omega) ?_)
  rw [wnat (by omega), show j = bl l i from by omega]
  exact hn
 | succ d ih =>
  intro j hj
  have ih' := ih (j + 1) (by omega)
  rw [← map_range_snoc, ← List.append_assoc] at ih'
  refine Ev.step (fun k => by unfold stanzalaw22_lined.l1; rfl) (ev_pos (by omega) (ev_pos (by rw [List.length_append, List.length_map, List.length_range]; omega) ?_))
  rw [bv_eq (by omega), wnat (by omega)]
  exact ih'
theorem byl_l0 : ∀ (d i : Nat), i + d = l.length →
  Ev (fun k => stanzalaw22_lined.l0 k M (BY l i) (CL l) ((CL l).length : Int) (i : Int) (CL l) O w t md h p lo) (CL l, O, M, w, t, md, h, p, lo, BY l l.length) := by
 have hc := CL_len l
 intro d
 induction d with
 | zero =>
  intro i hi
  refine Ev.step (fun k => by unfold stanzalaw22_lined.l0; rfl) (ev_neg (by omega) (ev_ret ?_))
  rw [show i = l.length from by omega]
 | succ d ih =>
  intro i hi
  have hb := bl_bd l i
  refine Ev.step (fun k => by unfold stanzalaw22_lined.l0; rfl) (ev_pos (by omega) (ev_pos (by omega) (ev_pos (by omega) ?_)))
  rw [rd_cl, cl_CL (by omega), show (clus l i).f1 = ((bl l i : Nat) : Int) from hb.2.2.symm]
  have := byl_l1 hl M O w t md h p lo (show i < l.length by omega) (ih (i + 1) (by omega)) (bl l i) 0 (by omega)
  rw [List.range_zero, List.map_nil, List.append_nil] at this
  exact this
end
theorem lined22 {l : List S49} (hs : ∀ b ∈ l, Small b) (hl : l.length ≤ 140737488355328) {a b c d e : Int} (lo : Nat) (ha : 0 ≤ a ∧ a ≤ 255) (hb : 0 ≤ b ∧ b ≤ 255) (hc : 0 ≤ c ∧ c ≤ 255) (hd : 0 ≤ d ∧ d ≤ 65535) (he : 0 ≤ e ∧ e ≤ 65535) :
  Ev (fun k => stanzalaw22_lined.f k l a b c d e lo) (CL (l.take 100), OP (l.take 100), BK (CL (l.take 100)) (OP (l.take 100)) (1 + a) (1 + b % 64) 0 (PT (OP (l.take 100))), 1 + a, 1 + b % 64, 0, d, e, lo, BY (l.take 100) (l.take 100).length) := by
 have hm : mn (l.length : Int) 100 = ((min l.length 100 : Nat) : Int) := by unfold mn; split <;> omega
 have ht : l.take (min l.length 100) = l.take 100 := by
  rcases Nat.le_total l.length 100 with h | h
  ·rw [Nat.min_eq_left h, List.take_of_length_le (Nat.le_refl _), List.take_of_length_le h]
  ·rw [Nat.min_eq_right h]
 have hlen : (l.take 100).length ≤ 100 := List.length_take_le _ _
 have g : Good (CL (l.take 100)) := good_CL (by omega)
 unfold stanzalaw22_lined.f
 rw [hm, Int.toNat_natCast, ht]
 refine ev_pos (by omega) (ev_pos (by omega) ?_)
 refine ev_bind (para_ev (l := l.take 100) (by omega) (fun b hb => hs b (List.mem_of_mem_take hb))) ?_
 refine ev_bind' (config_eq lo ha hb hc hd he) ?_
 dsimp only
 refine ev_bind (rbreak_ev g (by rw [OP_len, CL_len]) (by omega) d e lo) ?_
 exact byl_l0 (l := l.take 100) (by omega) _ (OP (l.take 100)) (1 + a) (1 + b % 64) 0 d e lo (l.take 100).length 0 (by omega)
end Go.Proofs.Ytfeidhmkmbgnoaa.Pure
end
section
/- DrawWords: without spaces, tabs and hyphens rows are the text's clusters that are Plain, up to what is empty at a row's end. -/
namespace Go.Proofs.Ytfeidhmkmbgnoaa.Pure
open Go.RowKit Go.Proofs.YtfeidhmkmbgnoaaW.PrintWords Go.Proofs.Ytfeidhmkmbgnoaa.F
def inkB (y : Int) : Bool := !(y == 32) && !(y == 45)
def wnt (B : List Int) (C : List S61) (a : Nat) : Nat → List Int
 | 0 => []
 | i + 1 => wnt B C a i ++ (if (cl C (a + i)).f3 = 0 then seg B (cl C (a + i)) else [])
theorem seg_ink {B : List Int} (hB : ∀ y ∈ B, inkB y = true) (c : S61) : (seg B c).filter inkB = seg B c :=
 List.filter_eq_self.2 (fun y hy => hB y (List.mem_of_mem_take (List.mem_of_mem_drop hy)))
theorem sp_ink (n : Nat) : (List.replicate n (32 : Int)).filter inkB = [] := by
 rw [List.filter_eq_nil_iff]
 intro y hy
 rw [List.eq_of_mem_replicate hy]; decide
theorem pcs_ink {B : List Int} (hB : ∀ y ∈ B, inkB y = true) (C : List S61) (a : Nat) (t : Int) (E : List Int) (fl : Bool) (m : Nat) : (pcs B C a t E fl m).filter inkB = wnt B C a m := by
 induction m with
 | zero => rfl
 | succ m ih =>
  show (pcs B C a t E fl m ++ pc B C a t E fl m).filter inkB = wnt B C a m ++ _
  rw [List.filter_append, ih]
  congr 1
  unfold pc
  split
  ·exact seg_ink hB _
  ·exact sp_ink _
theorem RW_ink {B : List Int} (hB : ∀ y ∈ B, inkB y = true) (C : List S61) (a n : Nat) (e w t : Int) (fl : Bool) : (RW B C a n e w t fl).filter inkB = wnt B C a (trm C a n) := by
 unfold RW
 rw [List.filter_append, pcs_ink hB]
 have h : (tail3 e).filter inkB = [] := by unfold tail3; split <;> rfl
 rw [h, List.append_nil]
theorem BY_ink (l : List S49) (i : Nat) : ∀ y ∈ BY l i, inkB y = true := by
 induction i with
 | zero => intro y hy; cases hy
 | succ i ih =>
  intro y hy
  rcases List.mem_append.1 hy with h | h
  ·exact ih y h
  ·obtain ⟨j, _, rfl⟩ := List.mem_map.1 h
   unfold inkB bv
   have h1 : ((97 + ((i + j : Nat) : Int) % 26 == 32) : Bool) = false := beq_eq_false_iff_ne.2 (by omega)
   have h2 : ((97 + ((i + j : Nat) : Int) % 26 == 45) : Bool) = false := beq_eq_false_iff_ne.2 (by omega)
   rw [h1, h2]; rfl
section
variable {C : List S61} (g : Good C) {B : List Int} (b : Byt C B) (O : List Int) {M : List S45} {X : List (List Int)} {L i' : Int} (a n : Nat) (h : a + n ≤ C.length) (ce e : Int)
theorem dw_l2 {row want : List Int} (hr : row.length ≤ 5000000000) (hw : row.filter inkB = want) (he : e = 3 → ∃ r0, row = r0 ++ [45])
  (hn : Ev (fun k => stanzalaw22_DrawWords.l0 k M B X L (wrap64 (i' + 1)) C O) true) : ∀ (d j : Nat), j + d = row.length →
  Ev (fun k => stanzalaw22_DrawWords.l2 k M B row want ((row.take j).filter inkB) X L i' row (row.length : Int) (j : Int) C O (a : Int) ((a + n : Nat) : Int) ce e) true := by
 intro d
 induction d with
 | zero =>
  intro j hj
  refine Ev.step (fun k => by unfold stanzalaw22_DrawWords.l2; rfl) (ev_neg (by omega) ?_)
  rw [List.take_of_length_le (by omega), hw]
  refine ev_pos rfl ?_
  by_cases h3 : e = 3
  ·obtain ⟨r0, h0⟩ := he h3
   have hl : row.length = r0.length + 1 := by rw [h0, List.length_append]; rfl
   have e1 : wrap64 ((row.length : Int) - 1) = (r0.length : Int) := by rw [w64 (by omega) (by omega)]; omega
   have e2 : rd row (r0.length : Int) = 45 := by
    rw [rd_nat, h0, List.getD_eq_getElem?_getD, List.getElem?_append_right (Nat.le_refl _), Nat.sub_self]; rfl
   refine ev_pos h3 (ev_neg (by omega) ?_)
   rw [e1]
   exact ev_pos (by omega) (ev_pos (by omega) (ev_pos e2 hn))
  ·exact ev_neg h3 hn
 | succ d ih =>
  intro j hj
  have hlt : j < row.length := by omega
  have ih' := ih (j + 1) (by omega)
  rw [List.take_succ_eq_append_getElem hlt, List.filter_append] at ih'
  have e1 : rd row (j : Int) = row[j] := by rw [rd_nat, List.getD_eq_getElem?_getD, List.getElem?_eq_getElem hlt]; rfl
  have e2 : wrap64 ((j : Int) + 1) = ((j + 1 : Nat) : Int) := by rw [w64 (by omega) (by omega)]; rfl
  refine Ev.step (fun k => by unfold stanzalaw22_DrawWords.l2; rfl) (ev_pos (by omega) (ev_pos (by omega) (ev_pos (by omega) ?_)))
  rw [e1, e2]
  clear e1 e2
  generalize row[j] = y at *
  by_cases h1 : y = 32
  ·subst h1
   rw [show [(32 : Int)].filter inkB = [] from rfl, List.append_nil] at ih'
   exact ev_pos rfl ih'
  by_cases h2 : y = 45
  ·subst h2
   rw [show [(45 : Int)].filter inkB = [] from rfl, List.append_nil] at ih'
   exact ev_neg h1 (ev_pos rfl ih')
  ·have hy : inkB y = true := by unfold inkB; rw [beq_eq_false_iff_ne.2 h1, beq_eq_false_iff_ne.2 h2]; rfl
   rw [show [y].filter inkB = [y] from by simp [hy]] at ih'
   have hf : ((row.take j).filter inkB).length ≤ j := Nat.le_trans (List.length_filter_le _ _) (List.length_take_le _ _)
   exact ev_neg h1 (ev_neg h2 (ev_pos (by omega) ih'))
include g b h
omit g h in
theorem wnt_len : ∀ i, a + i ≤ C.length → (wnt B C a i).length ≤ 100000 * i := by
 intro i
 induction i with
 | zero => intro _; exact Nat.zero_le _
 | succ i ih =>
  intro hi
  have h1 := ih (by omega)
  have h2 : (if (cl C (a + i)).f3 = 0 then seg B (cl C (a + i)) else []).length ≤ 100000 := by
   split
   ·have := seg_len b (i := a + i) (by omega)
    have := b.fit (a + i) (by omega)
    have := b.at0 (a + i) (by omega)
    have := b.len
    omega
   ·exact Nat.zero_le _
  show (wnt B C a i ++ _ : List Int).length ≤ _
  rw [List.length_append]; omega
theorem dw_l1 {row : List Int} (hr : row.length ≤ 5000000000) (hw : row.filter inkB = wnt B C a (trm C a n)) (he : e = 3 → ∃ r0, row = r0 ++ [45])
  (hn : Ev (fun k => stanzalaw22_DrawWords.l0 k M B X L (wrap64 (i' + 1)) C O) true) : ∀ (d j : Nat), j + d = trm C a n →
  Ev (fun k => stanzalaw22_DrawWords.l1 k M B row (wnt B C a j) X L i' ((C.take (a + trm C a n)).drop a) (((C.take (a + trm C a n)).drop a).length : Int) (j : Int) C O (a : Int) ((a + n : Nat) : Int) ce e) true := by
 have hg := g.len
 have hT := trm_le C a n
 have hY : ((C.take (a + trm C a n)).drop a).length = trm C a n := by rw [List.length_drop, List.length_take]; omega
 intro d
 induction d with
 | zero =>
  intro j hj
  refine Ev.step (fun k => by unfold stanzalaw22_DrawWords.l1; rfl) (ev_neg (by omega) ?_)
  rw [show j = trm C a n from by omega]
  exact dw_l2 O a n ce e hr hw he hn row.length 0 (Nat.zero_add _)
 | succ d ih =>
  intro j hj
  have ih' := ih (j + 1) (by omega)
  have hwl := wnt_len b a (j + 1) (by omega)
  have hai : a + j < C.length := by omega
  have f0 := b.at0 _ hai
  have f1 := b.one _ hai
  have f2 := b.fit _ hai
  have f3 := b.len
  have hrd : rd_T61 ((C.take (a + trm C a n)).drop a) (j : Int) = cl C (a + j) := by
   show ((C.take (a + trm C a n)).drop a).getD j z61 = C.getD (a + j) z61
   rw [List.getD_eq_getElem?_getD, List.getD_eq_getElem?_getD, List.getElem?_drop, List.getElem?_take_of_lt (by omega)]
  refine Ev.step (fun k => by unfold stanzalaw22_DrawWords.l1; rfl) (ev_pos (by omega) (ev_pos (by omega) (ev_pos (by omega) ?_)))
  rw [hrd, wnat (show j ≤ 100000 by omega), w64 (x := (cl C (a + j)).f0 + (cl C (a + j)).f1) (by omega) (by omega)]
  by_cases hk : (cl C (a + j)).f3 = 0
  ·have hq : wnt B C a j ++ (B.take ((cl C (a + j)).f0 + (cl C (a + j)).f1).toNat).drop (cl C (a + j)).f0.toNat = wnt B C a (j + 1) := by
    show _ = wnt B C a j ++ _
    rw [if_pos hk]; rfl
   refine ev_pos hk (ev_pos (by omega) (ev_pos (by omega) (ev_pos (by omega) (ev_let (ev_pos ?_ ?_)))))
   ·rw [← List.length_append, hq]; omega
   ·rw [hq]; exact ih'
  ·have hq : wnt B C a j = wnt B C a (j + 1) := by
    show _ = wnt B C a j ++ _
    rw [if_neg hk, List.append_nil]
   rw [hq]
   exact ev_neg hk ih'
end
section
variable {C : List S61} (g : Good C) {B : List Int} (b : Byt C B) (hB : ∀ y ∈ B, inkB y = true) (O : List Int) {w t : Int} (ht : 1 ≤ t ∧ t ≤ 64) (fl : Bool)
include g b hB ht
theorem dw_l0 {M : List S45} (hM : ∀ x ∈ M, LineIn C t 0 C.length x) (hl : M.length ≤ 4000) : ∀ (d i : Nat), i + d = M.length →
  Ev (fun k => stanzalaw22_DrawWords.l0 k M B (M.map (RWL B C w t fl)) ((M.map (RWL B C w t fl)).length : Int) (i : Int) C O) true := by
 have hg := g.len
 have hml : (M.map (RWL B C w t fl)).length = M.length := List.length_map _
 intro d
 induction d with
 | zero =>
  intro i hi
  exact Ev.step (fun k => by unfold stanzalaw22_DrawWords.l0; rfl) (ev_neg (by omega) (Ev.now _))
 | succ d ih =>
  intro i hi
  have ih' := ih (i + 1) (by omega)
  rw [← wnat (show i ≤ 100000 by omega)] at ih'
  have hlt : i < M.length := by omega
  obtain ⟨a, n, e, hx, _, _, hn⟩ := hM M[i] (List.getElem_mem hlt)
  have hT := trm_le C a n
  have hrd : rd_T45 M (i : Int) = mkln C a n e t := by
   show M.getD i z45 = _
   rw [List.getD_eq_getElem?_getD, List.getElem?_eq_getElem hlt]; exact hx
  have hr : rd_L5 (M.map (RWL B C w t fl)) (i : Int) = RW B C a n e w t fl := by
   show (M.map (RWL B C w t fl)).getD i [] = _
   rw [List.getD_eq_getElem?_getD, List.getElem?_map, List.getElem?_eq_getElem hlt, hx]
   exact rwl_mk B C a n e w t fl
  have hlen : (RW B C a n e w t fl).length ≤ 5000000000 := by
   have hp := pcs_len g b a n e w ht fl (trm C a n) (by omega)
   have h1 : (tail3 e).length ≤ 1 := by unfold tail3; split <;> decide
   unfold RW
   rw [List.length_append]; omega
  have he : e = 3 → ∃ r0, RW B C a n e w t fl = r0 ++ [45] := fun h3 => ⟨pcs B C a t (ext C a n e w t) fl (trm C a n), by unfold RW tail3; rw [if_pos h3]⟩
  refine Ev.step (fun k => by unfold stanzalaw22_DrawWords.l0; rfl) (ev_pos (by omega) (ev_pos (by omega) (ev_pos (by omega) (ev_pos (by omega) ?_))))
  rw [hrd, hr]
  refine ev_bind (rtrim_ev g O a n hn) ?_
  refine ev_pos (by show 0 ≤ (a : Int); omega) (ev_pos (by show (a : Int) ≤ ((a + trm C a n : Nat) : Int); omega) (ev_pos (by omega) (ev_let ?_)))
  have h1 := dw_l1 g b O (M := M) (X := M.map (RWL B C w t fl)) (L := ((M.map (RWL B C w t fl)).length : Int)) (i' := (i : Int)) a n hn (cel C a n e t) e hlen (RW_ink hB C a n e w t fl) he ih' (trm C a n) 0 (Nat.zero_add _)
  exact h1
end
theorem DrawWords : stanzalaw22_DrawWords.Pure := by
 intro l a b c d e lo fl hl hw
 obtain ⟨ha, hb, hc, hd, he⟩ := way_of hw
 refine Ev.rounds ?_
 unfold stanzalaw22_DrawWords.f
 refine ev_bind awake22 (ev_pos rfl ?_)
 have hlen : (l.take 100).length ≤ 100 := List.length_take_le _ _
 have g : Good (CL (l.take 100)) := good_CL (by omega)
 have hO : (OP (l.take 100)).length = (CL (l.take 100)).length + 1 := by rw [OP_len, CL_len]
 have hM := BK_in (CL (l.take 100)) (OP (l.take 100)) (1 + a) (1 + b % 64) _ _ 0 (rise_PT hO)
 have hML := BK_len (CL (l.take 100)) (OP (l.take 100)) (1 + a) (1 + b % 64) _ _ 0 (rise_PT hO)
 rw [CL_len] at hML
 have hB := byt_CL (l := l.take 100) (by omega)
 refine ev_bind (lined22 (fun b hb => small_of (hl.2 b hb)) (by omega) lo ha hb hc hd he) ?_
 dsimp only
 refine ev_bind (dall_ev g hB _ (by omega) (by omega) 0 d e lo fl hM (by omega)) ?_
 exact dw_l0 g hB (BY_ink _ _) _ (by omega) fl hM (by omega) _ 0 (Nat.zero_add _)
end Go.Proofs.Ytfeidhmkmbgnoaa.Pure
end
