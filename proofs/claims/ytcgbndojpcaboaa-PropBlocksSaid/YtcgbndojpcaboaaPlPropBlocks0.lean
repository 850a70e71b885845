/- Plain proofs: what the printed functions compute. -/
import Derived.Test.YtcgbndojpcaboaaXPropBlocks0
import Derived.WalkKit
import Derived.Test.YtcgbndojpcaboaaVPropBlocks0
section
/- Helpers of the plain proofs: eventual values (Ev), wrapped numbers, lists. -/
namespace Go.Proofs.Ytcgbndojpcaboaa.Pure
open Go.RowKit Go.Proofs.YtcgbndojpcaboaaW.PrintWords
theorem ev_pos {α : Type} {c : Prop} [Decidable c] {a b : Nat → Option α} {r : α} (h : c) (H : Ev a r) : Ev (fun k => if c then a k else b k) r := by simpa [h] using H
theorem ev_neg {α : Type} {c : Prop} [Decidable c] {a b : Nat → Option α} {r : α} (h : ¬ c) (H : Ev b r) : Ev (fun k => if c then a k else b k) r := by simpa [h] using H
theorem ev_ret {α : Type} {x r : α} (h : x = r) : Ev (fun _ => some x) r := by subst h; exact Ev.now _
theorem ev_bind {α β : Type} {g : Nat → Option α} {f : Nat → α → Option β} {a : α} {r : β} (h : Ev g a) (k : Ev (fun n => f n a) r) : Ev (fun n => (g n).bind (f n)) r := Ev.bind h k
theorem ev_bind' {α β : Type} {o : Option α} {f : Nat → α → Option β} {a : α} {r : β} (h : o = some a) (k : Ev (fun n => f n a) r) : Ev (fun n => o.bind (f n)) r := by subst h; exact k
theorem w64 {x : Int} (h1 : -9223372036854775808 ≤ x) (h2 : x ≤ 9223372036854775807) : wrap64 x = x := by unfold wrap64; omega
theorem tmodp {a b : Int} (h : 0 ≤ a) : Int.tmod a b = a % b := Int.tmod_eq_emod_of_nonneg h
theorem u64mod {x n : Int} (h1 : 0 < n) (h2 : n ≤ 9223372036854775807) : wrap64 (Int.tmod (IntKind.u64.wrap x) (IntKind.u64.wrap n)) = (x % 18446744073709551616) % n := by
 have hw : ∀ y, IntKind.u64.wrap y = y % 18446744073709551616 := fun y => by simp [IntKind.wrap, IntKind.signed, IntKind.bits]
 rw [hw, hw, Int.emod_eq_of_lt (by omega) (by omega : n < 18446744073709551616), tmodp (by omega)]
 have h3 := Int.emod_nonneg (x % 18446744073709551616) (by omega : n ≠ 0)
 have h4 := Int.emod_lt_of_pos (x % 18446744073709551616) h1
 exact w64 (by omega) (by omega)
theorem getD_map_range (g : Nat → Int) {n i : Nat} (h : i < n) : ((List.range n).map g).getD i 0 = g i := by
 rw [List.getD_eq_getElem?_getD, List.getElem?_map, List.getElem?_range h]; rfl
end Go.Proofs.Ytcgbndojpcaboaa.Pure
end
section
/- What tables of ranges hold: the document's answer (Of), when a list is right; no condition but that lengths fit. -/
namespace Go.Proofs.Ytcgbndojpcaboaa.Pure
open Go.RowKit Go.Proofs.YtcgbndojpcaboaaW.PrintWords Go.Proofs.Ytcgbndojpcaboaa.F
theorem rd_range (xs : List S33) (i : Nat) (h : i < xs.length) : rd_T33 xs (i : Int) = xs[i] := by
 unfold rd_T33
 rw [List.getD_eq_getElem?_getD, Int.toNat_natCast, List.getElem?_eq_getElem h]
 rfl
def endOf (l : List (Int × Int × Int)) : Int := match l.getLast? with
 | none => -1
 | some y => y.2.1
theorem chkGo_snoc {most : Int} : ∀ (l : List (Int × Int × Int)) (last : Int) (x : Int × Int × Int), chkGo most last l = true → (match l.getLast? with | none => last | some y => y.2.1) < x.1 → x.1 ≤ x.2.1 → x.2.1 ≤ 1114111 → 0 ≤ x.2.2 → x.2.2 < most → x.2.2 ≤ 255 → chkGo most last (l ++ [x]) = true
 | [], last, x, _, h1, h2, h3, h4, h5, h6 => by
  simp only [List.getLast?_nil] at h1
  show (if x.1 ≤ last ∨ x.2.1 < x.1 ∨ x.2.1 > 1114111 ∨ x.2.2 < 0 ∨ x.2.2 ≥ most ∨ x.2.2 > 255 then false else chkGo most x.2.1 []) = true
  rw [if_neg (by omega)]
  rfl
 | y :: l, last, x, h, h1, h2, h3, h4, h5, h6 => by
  have h' := h
  unfold chkGo at h
  split at h
  ·cases h
  ·rename_i hy
   rw [List.cons_append]
   unfold chkGo
   rw [if_neg hy]
   refine chkGo_snoc l y.2.1 x h ?_ h2 h3 h4 h5 h6
   cases l with
   | nil => simpa using h1
   | cons z l => rw [List.getLast?_cons_cons] at h1; cases hq : (z :: l).getLast? with
    | none => simp at hq
    | some q => rw [hq] at h1; exact h1
theorem make_y {l : List S33} {m : Int} (h : prop_Make.c l m = true) : prop_MakeY.f l m = some (some (l.map prop_Make.t)) := by unfold prop_MakeY.f; rw [if_pos h]
end Go.Proofs.Ytcgbndojpcaboaa.Pure
end
section
/- The chapter's own example is right: Awake answers true. -/
namespace Go.Proofs.Ytcgbndojpcaboaa.Pure
open Go.RowKit Go.Proofs.YtcgbndojpcaboaaW.PrintWords Go.Proofs.Ytcgbndojpcaboaa.F
theorem map_zero (g : Nat → Int) (n : Nat) (h : ∀ j, j < n → g j = 0) : (List.range n).map g = List.replicate n 0 := by
 refine List.eq_replicate_iff.2 ⟨by rw [List.length_map, List.length_range], fun b hb => ?_⟩
 obtain ⟨j, hj, rfl⟩ := List.mem_map.1 hb
 exact h j (List.mem_range.1 hj)
theorem row_zero {l : List (Int × Int × Int)} {i : Nat} (h : ∀ j : Nat, j < 256 → ofR l ((i : Int) * 256 + (j : Int)) = 0) : rowR l i = zerosR := map_zero _ 256 h
theorem row_get {l : List (Int × Int × Int)} {i : Nat} (h : rowR l i = zerosR) (j : Nat) (hj : j < 256) : ofR l ((i : Int) * 256 + (j : Int)) = 0 := by
 have h1 : (rowR l i).getD j 0 = zerosR.getD j 0 := by rw [h]
 unfold rowR zerosR at h1
 rw [getD_map_range (fun (j : Nat) => ofR l ((i : Int) * 256 + (j : Int))) hj, List.getD_eq_getElem?_getD, List.getElem?_replicate, if_pos hj] at h1
 exact h1
theorem zero_mem (l : List (Int × Int × Int)) : ∀ i, zerosR ∈ blR l i
 | 0 => by simp [blR]
 | i + 1 => by
  unfold blR
  split
  ·exact zero_mem l i
  ·exact List.mem_append_left _ (zero_mem l i)
theorem blR_stay {l : List (Int × Int × Int)} (n : Nat) (h : ∀ i, n ≤ i → rowR l i = zerosR) : ∀ d, blR l (n + d) = blR l n
 | 0 => rfl
 | d + 1 => by
  show (if rowR l (n + d) ∈ blR l (n + d) then blR l (n + d) else blR l (n + d) ++ [rowR l (n + d)]) = _
  rw [h (n + d) (by omega), if_pos (zero_mem l _), blR_stay n h d]
theorem tabBl_stay {l : List (Int × Int × Int)} {n : Nat} (hn : n ≤ 4352) (h : ∀ i, n ≤ i → rowR l i = zerosR) : tabBl (some l) = ((blR l n).length : Int) := by
 have h1 := blR_stay n h (4352 - n)
 rw [Nat.add_sub_cancel' hn] at h1
 unfold tabBl
 show ((blR l 4352).length : Int) = _
 rw [h1]
theorem awk_z1 : ∀ i, 1 ≤ i → rowR [(48, 57, 1), (65, 90, 2)] i = zerosR := fun i hi => row_zero fun j hj => ofR_none _ (fun y hy => by
  rcases List.mem_cons.1 hy with rfl | hy
  ·show ¬ (48 ≤ (i : Int) * 256 + (j : Int) ∧ (i : Int) * 256 + (j : Int) ≤ 57); omega
  ·obtain rfl := List.mem_singleton.1 hy
   show ¬ (65 ≤ (i : Int) * 256 + (j : Int) ∧ (i : Int) * 256 + (j : Int) ≤ 90); omega)
theorem blR_one {l : List (Int × Int × Int)} (h : rowR l 0 ≠ zerosR) : (blR l 1).length = 2 := by
 have hn : ¬ rowR l 0 ∈ blR l 0 := fun h2 => h (List.mem_singleton.1 h2)
 have e1 : blR l 1 = blR l 0 ++ [rowR l 0] := if_neg hn
 rw [e1, List.length_append]
 rfl
theorem awk_hn : rowR [(48, 57, 1), (65, 90, 2)] 0 ≠ zerosR := by
 intro h
 have := row_get h 53 (by omega)
 exact absurd this (by decide)
theorem awk_b1 : tabBl (some [(48, 57, 1), (65, 90, 2)]) = 2 := by
 rw [tabBl_stay (n := 1) (by omega) awk_z1, blR_one awk_hn]
 rfl
theorem awk_b2 : tabBl (some []) = 1 := by
 rw [tabBl_stay (n := 0) (by omega) (fun i _ => row_zero fun j _ => rfl)]
 rfl
theorem awk_c1 : prop_Make.c [(⟨48, 57, 1⟩ : S33), (⟨65, 90, 2⟩ : S33)] 3 = true := by decide
theorem awk_c2 : prop_Make.c ([] : List S33) 1 = true := by decide
theorem awk_m1 : prop_MakeY.f [(⟨48, 57, 1⟩ : S33), (⟨65, 90, 2⟩ : S33)] 3 = some (some [(48, 57, 1), (65, 90, 2)]) := make_y awk_c1
theorem awk_m2 : prop_MakeY.f ([] : List S33) 1 = some (some []) := make_y awk_c2
theorem awk_e1 : prop_Table_Of.f (some [(48, 57, 1), (65, 90, 2)]) 53 = some 1 := rfl
theorem awk_e2 : prop_Table_Of.f (some [(48, 57, 1), (65, 90, 2)]) 64 = some 0 := rfl
theorem awk_e3 : prop_Table_Of.f (some [(48, 57, 1), (65, 90, 2)]) 65 = some 2 := rfl
theorem awk_e4 : prop_Table_Blocks.f (some [(48, 57, 1), (65, 90, 2)]) = some 2 := congrArg some awk_b1
theorem awk_e5 : prop_Table_Blocks.f (some []) = some 1 := congrArg some awk_b2
theorem awake02 : stanzalaw02_Awake.f = some true := by
 unfold stanzalaw02_Awake.f
 rw [Option.bind_some, if_pos awk_c1, awk_m1, Option.bind_some, if_pos awk_c2, awk_m2, Option.bind_some, awk_e1, Option.bind_some, if_pos rfl, awk_e2, Option.bind_some, if_pos rfl, awk_e3, Option.bind_some, if_pos rfl, awk_e4, Option.bind_some, if_pos rfl, awk_e5, Option.bind_some]
 rfl
end Go.Proofs.Ytcgbndojpcaboaa.Pure
end
section
/- Ranges made right (Right): a list that the check lets through. -/
namespace Go.Proofs.Ytcgbndojpcaboaa.Pure
open Go.RowKit Go.Proofs.YtcgbndojpcaboaaW.PrintWords Go.Proofs.Ytcgbndojpcaboaa.F
theorem right_lo {e : Int} (h1 : -1 ≤ e) (h2 : e ≤ 1114111) (a : Int) : wrap64 (wrap64 (e + 1) + a % 4294967296 % 3000) = e + 1 + a % 4294967296 % 3000 := by
 have : 0 ≤ a % 4294967296 % 3000 ∧ a % 4294967296 % 3000 < 3000 := by omega
 generalize a % 4294967296 % 3000 = q at this
 rw [w64 (x := e + 1) (by omega) (by omega), w64 (by omega) (by omega)]
theorem right_hi {e : Int} (h1 : -1 ≤ e) (h2 : e ≤ 1200000) (a : Int) : wrap64 (e + a % 4294967296 % 600) = e + a % 4294967296 % 600 := by
 have : 0 ≤ a % 4294967296 % 600 ∧ a % 4294967296 % 600 < 600 := by omega
 generalize a % 4294967296 % 600 = q at this
 exact w64 (by omega) (by omega)
theorem w32s {e : Int} (h1 : 0 ≤ e) (h2 : e ≤ 1200000) : wrap32 e = e := by unfold wrap32; omega
theorem right_step (l : List S33) {most : Int} (h1 : 1 ≤ most) (h2 : most ≤ 255) {i : Nat} (hlt : i < l.length) (hx : i < 200) (m : List S33) (hm : m.length ≤ 200) {e : Int} (he1 : -1 ≤ e) (he2 : e ≤ 1114111) {p q t : Int}
  (hp : p = e + 1 + (l[i]).f0 % 4294967296 % 3000) (hq : q = p + (l[i]).f1 % 4294967296 % 600) (ht : t = ((l[i]).f2 % 18446744073709551616) % most) {r : List S33}
  (H : if q > 1114111 then r = m else Ev (fun k => stanzalaw02_Right.l0 k l most (m ++ [(⟨p, q, t⟩ : S33)]) q ((i + 1 : Nat) : Int)) r) :
  Ev (fun k => stanzalaw02_Right.l0 k l most m e (i : Int)) r := by
 have hp1 : -1 ≤ p ∧ p ≤ 1120000 := by omega
 have hq1 : 0 ≤ q ∧ q ≤ 1200000 := by omega
 have hp2 : 0 ≤ p := by omega
 have hne : IntKind.u64.wrap most ≠ 0 := by
  have hw : IntKind.u64.wrap most = most % 18446744073709551616 := by simp [IntKind.wrap, IntKind.signed, IntKind.bits]
  rw [hw]; omega
 have b1 : decide ((i : Int) < 200) = true := decide_eq_true (by omega)
 refine Ev.step (fun k => by unfold stanzalaw02_Right.l0; rfl) (ev_pos (by omega) ?_)
 rw [b1]
 refine Ev.step (fun k => by unfold stanzalaw02_Right.j1; rfl) (ev_pos rfl (ev_pos (by omega) (ev_pos (by omega) ?_)))
 rw [rd_range l i hlt, right_lo he1 he2, ← hp, right_hi (by omega) (by omega), ← hq, w32s hp2 (by omega), w32s hq1.1 hq1.2, u64mod (by omega) (by omega), ← ht]
 rw [w64 (x := (i : Int) + 1) (by omega) (by omega)]
 by_cases hb : q > 1114111
 ·rw [if_pos hb] at H
  subst H
  exact ev_pos hb (Ev.now _)
 ·rw [if_neg hb] at H
  exact ev_neg hb (ev_neg hne (ev_pos (by omega) H))
theorem right_loop (l : List S33) (hl : (l.length : Int) * 16 ≤ 140737488351232) (most : Int) (h1 : 1 ≤ most) (h2 : most ≤ 255) : ∀ (d i : Nat) (m : List S33) (e : Int), i + d = l.length → m.length ≤ i → m.length ≤ 200 → (i ≤ 200) → chkGo most (-1) (m.map prop_Make.t) = true → e = endOf (m.map prop_Make.t) → -1 ≤ e → e ≤ 1114111 →
  ∃ r, Ev (fun k => stanzalaw02_Right.l0 k l most m e (i : Int)) r ∧ chkGo most (-1) (r.map prop_Make.t) = true ∧ r.length ≤ 200 := by
 intro d
 induction d with
 | zero =>
  intro i m e hi hm1 hm2 hi2 hc he he1 he2
  refine ⟨m, Ev.step (fun k => by unfold stanzalaw02_Right.l0; rfl) (ev_neg (by omega) (Ev.step (fun k => by unfold stanzalaw02_Right.j1; rfl) (ev_neg (by decide) (Ev.now _)))), hc, hm2⟩
 | succ d ih =>
  intro i m e hi hm1 hm2 hi2 hc he he1 he2
  have hlt : i < l.length := by omega
  by_cases hx : i < 200
  ·obtain ⟨p, hp⟩ : ∃ p, p = e + 1 + (l[i]).f0 % 4294967296 % 3000 := ⟨_, rfl⟩
   obtain ⟨q, hq⟩ : ∃ q, q = p + (l[i]).f1 % 4294967296 % 600 := ⟨_, rfl⟩
   obtain ⟨t, ht⟩ : ∃ t, t = ((l[i]).f2 % 18446744073709551616) % most := ⟨_, rfl⟩
   have hp1 : e < p := by omega
   have hq1 : p ≤ q := by omega
   have ht1 : 0 ≤ t := by rw [ht]; exact Int.emod_nonneg _ (by omega)
   have ht2 : t < most := by rw [ht]; exact Int.emod_lt_of_pos _ (by omega)
   have step := fun {r} => right_step l h1 h2 hlt hx m hm2 he1 he2 hp hq ht (r := r)
   clear hp hq ht
   by_cases hb : q > 1114111
   ·exact ⟨m, step (by rw [if_pos hb]), hc, hm2⟩
   ·obtain ⟨r, hr, hrc, hrl⟩ := ih (i + 1) (m ++ [(⟨p, q, t⟩ : S33)]) q (by omega)
     (by rw [List.length_append]; exact Nat.succ_le_succ hm1) (by rw [List.length_append, List.length_singleton]; omega) (by omega)
     (by rw [List.map_append]; exact chkGo_snoc _ _ _ hc (show endOf (m.map prop_Make.t) < _ by rw [← he]; exact hp1) hq1 (show q ≤ 1114111 by omega) ht1 ht2 (show t ≤ 255 by omega))
     (by unfold endOf; rw [List.map_append, List.map_singleton, List.getLast?_concat]; rfl) (by omega) (by omega)
    exact ⟨r, step (by rw [if_neg hb]; exact hr), hrc, hrl⟩
  ·have b1 : decide ((i : Int) < 200) = false := decide_eq_false (by omega)
   refine ⟨m, Ev.step (fun k => by unfold stanzalaw02_Right.l0; rfl) (ev_pos (by omega) ?_), hc, hm2⟩
   rw [b1]
   exact Ev.step (fun k => by unfold stanzalaw02_Right.j1; rfl) (ev_neg (by decide) (Ev.now _))
theorem right_ok (l : List S33) (hl : (l.length : Int) * 16 ≤ 140737488351232) (most : Int) (h1 : 1 ≤ most) (h2 : most ≤ 255) : ∃ r, Ev (fun k => stanzalaw02_Right.f k l most) r ∧ chkGo most (-1) (r.map prop_Make.t) = true ∧ r.length ≤ 200 ∧ prop_Make.c r most = true := by
 obtain ⟨r, hr, hc, hn⟩ := right_loop l hl most h1 h2 l.length 0 [] (-1) (by omega) (by simp) (by simp) (by omega) rfl rfl (by omega) (by omega)
 refine ⟨r, ?_, hc, hn, ?_⟩
 ·unfold stanzalaw02_Right.f
  exact hr
 ·unfold prop_Make.c chkR
  rw [List.length_map, if_neg (by omega)]
  exact hc
end Go.Proofs.Ytcgbndojpcaboaa.Pure
end
section
/- PropBlocks, plain: the law's ranges are right, so a table is made of them. -/
namespace Go.Proofs.Ytcgbndojpcaboaa.Pure
open Go.RowKit Go.Proofs.YtcgbndojpcaboaaW.PrintWords Go.Proofs.Ytcgbndojpcaboaa.F
theorem PropBlocks : stanzalaw02_PropBlocks.Pure := by
 intro l0 h0
 obtain ⟨r, hr, hc, hn, hm⟩ := right_ok l0 (by have := h0.1; omega) 3 (by decide) (by decide)
 have : Ev (fun k => stanzalaw02_PropBlocks.f k l0) true := by
  unfold stanzalaw02_PropBlocks.f
  exact ev_bind' awake02 (ev_pos rfl (ev_bind hr (ev_pos hm (ev_ret rfl))))
 obtain ⟨k, hk⟩ := this
 exact ⟨k, hk k (Nat.le_refl k)⟩
end Go.Proofs.Ytcgbndojpcaboaa.Pure
end
