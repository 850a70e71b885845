/- Plain proofs: what the printed functions compute. -/
import Derived.Test.YtcgbndojpcaboaaXPropSplits0
import Derived.WalkKit
import Derived.Test.YtcgbndojpcaboaaVPropSplits0
section
/- Helpers of the plain proofs: eventual values (Ev), wrapped numbers, lists. -/
namespace Go.Proofs.Ytcgbndojpcaboaa.Pure
open Go.RowKit Go.Proofs.YtcgbndojpcaboaaW.PrintWords

theorem ev_pos {α : Type} {c : Prop} [Decidable c] {a b : Nat → Option α} {r : α} (h : c) (H : Ev a r) : Ev (fun k => if c then a k else b k) r := by simpa [h] using H
theorem ev_neg {α : Type} {c : Prop} [Decidable c] {a b : Nat → Option α} {r : α} (h : ¬ c) (H : Ev b r) : Ev (fun k => if c then a k else b k) r := by simpa [h] using H
theorem ev_eq {α : Type} {o : Option α} {r : α} (h : o = some r) : Ev (fun _ => o) r := by subst h; exact Ev.now _
theorem ev_ret {α : Type} {x r : α} (h : x = r) : Ev (fun _ => some x) r := by subst h; exact Ev.now _
theorem ev_bind {α β : Type} {g : Nat → Option α} {f : Nat → α → Option β} {a : α} {r : β} (h : Ev g a) (k : Ev (fun n => f n a) r) : Ev (fun n => (g n).bind (f n)) r := Ev.bind h k
theorem ev_bind' {α β : Type} {o : Option α} {f : Nat → α → Option β} {a : α} {r : β} (h : o = some a) (k : Ev (fun n => f n a) r) : Ev (fun n => o.bind (f n)) r := by subst h; exact k
theorem ev_let {α β : Type} {a : α} {f : Nat → α → Option β} {r : β} (k : Ev (fun n => f n a) r) : Ev (fun n => (some a).bind (f n)) r := k
theorem ev_uniq {α : Type} {g : Nat → Option α} {a b : α} (h : Ev g a) (k : Ev g b) : a = b := by
 obtain ⟨m, hm⟩ := h
 obtain ⟨n, hn⟩ := k
 have h1 := hm (max m n) (Nat.le_max_left _ _)
 have h2 := hn (max m n) (Nat.le_max_right _ _)
 exact Option.some.inj (h1.symm.trans h2)

theorem w64 {x : Int} (h1 : -9223372036854775808 ≤ x) (h2 : x ≤ 9223372036854775807) : wrap64 x = x := by unfold wrap64; omega
theorem tmodp {a b : Int} (h : 0 ≤ a) : Int.tmod a b = a % b := Int.tmod_eq_emod_of_nonneg h
theorem tdivp {a b : Int} (h : 0 ≤ a) : Int.tdiv a b = a / b := Int.tdiv_eq_ediv_of_nonneg h
theorem wfu8 {x : Int} : (Lit.int .u8 x).wf = true ↔ 0 ≤ x ∧ x ≤ 255 := by simp [Lit.wf, IntKind.min, IntKind.max, IntKind.signed, IntKind.bits]
theorem wfu16 {x : Int} : (Lit.int .u16 x).wf = true ↔ 0 ≤ x ∧ x ≤ 65535 := by simp [Lit.wf, IntKind.min, IntKind.max, IntKind.signed, IntKind.bits]
theorem wfu32 {x : Int} : (Lit.int .u32 x).wf = true ↔ 0 ≤ x ∧ x ≤ 4294967295 := by simp [Lit.wf, IntKind.min, IntKind.max, IntKind.signed, IntKind.bits]
theorem wfi64 {x : Int} : (Lit.int .i64 x).wf = true ↔ -9223372036854775808 ≤ x ∧ x ≤ 9223372036854775807 := by simp [Lit.wf, IntKind.min, IntKind.max, IntKind.signed, IntKind.bits]
theorem wfi32 {x : Int} : (Lit.int .i32 x).wf = true ↔ -2147483648 ≤ x ∧ x ≤ 2147483647 := by simp [Lit.wf, IntKind.min, IntKind.max, IntKind.signed, IntKind.bits]
theorem u64mod {x n : Int} (h1 : 0 < n) (h2 : n ≤ 9223372036854775807) : wrap64 (Int.tmod (IntKind.u64.wrap x) (IntKind.u64.wrap n)) = (x % 18446744073709551616) % n := by
 have hw : ∀ y, IntKind.u64.wrap y = y % 18446744073709551616 := fun y => by simp [IntKind.wrap, IntKind.signed, IntKind.bits]
 rw [hw, hw, Int.emod_eq_of_lt (by omega) (by omega : n < 18446744073709551616), tmodp (by omega)]
 have h3 := Int.emod_nonneg (x % 18446744073709551616) (by omega : n ≠ 0)
 have h4 := Int.emod_lt_of_pos (x % 18446744073709551616) h1
 exact w64 (by omega) (by omega)

theorem rd_nat (xs : List Int) (n : Nat) : rd xs (n : Int) = xs.getD n 0 := rfl
theorem getD_map_range (g : Nat → Int) {n i : Nat} (h : i < n) : ((List.range n).map g).getD i 0 = g i := by
 rw [List.getD_eq_getElem?_getD, List.getElem?_map, List.getElem?_range h]; rfl
theorem rd_map_range (g : Nat → Int) {n i : Nat} (h : i < n) : rd ((List.range n).map g) (i : Int) = g i := getD_map_range g h
theorem map_range_snoc {α : Type} (g : Nat → α) (n : Nat) : (List.range n).map g ++ [g n] = (List.range (n + 1)).map g := by
 rw [List.range_succ, List.map_append]; rfl
theorem mod3 (x : Int) : 0 ≤ x % 3 ∧ x % 3 ≤ 2 := by omega
theorem mod4 (x : Int) : 0 ≤ x % 4 ∧ x % 4 ≤ 3 := by omega
end Go.Proofs.Ytcgbndojpcaboaa.Pure
end
section
/- What tables of ranges hold: the document's answer (Of), when a list is right; no condition but that lengths fit. -/
namespace Go.Proofs.Ytcgbndojpcaboaa.Pure
open Go.RowKit Go.Proofs.YtcgbndojpcaboaaW.PrintWords Go.Proofs.Ytcgbndojpcaboaa.F

theorem rd_range (xs : List S33) (i : Nat) (h : i < xs.length) : rd_T33 xs (i : Int) = xs[i] := by
 unfold rd_T33
 rw [List.getD_eq_getElem?_getD, Int.toNat_natCast, List.getElem?_eq_getElem h]
 rfl
theorem ofR_stay (l : List (Int × Int × Int)) (r a : Int) (h : ∀ y ∈ l, ¬ (y.1 ≤ r ∧ r ≤ y.2.1)) : l.foldl (fun a y => if y.1 ≤ r ∧ r ≤ y.2.1 then y.2.2 else a) a = a := by
 induction l with
 | nil => rfl
 | cons x l ih => rw [List.foldl_cons, if_neg (h x (by simp)), ih (fun y hy => h y (by simp [hy]))]
theorem ofR_cons {most last : Int} {x : Int × Int × Int} {l : List (Int × Int × Int)} (h : chkGo most last (x :: l) = true) (r : Int) : ofR (x :: l) r = if x.1 ≤ r ∧ r ≤ x.2.1 then x.2.2 else ofR l r := by
 have h2 : chkGo most x.2.1 l = true := by
  unfold chkGo at h
  split at h
  ·cases h
  ·exact h
 show List.foldl _ _ _ = _
 rw [List.foldl_cons]
 by_cases hc : x.1 ≤ r ∧ r ≤ x.2.1
 ·rw [if_pos hc, if_pos hc]
  refine ofR_stay l r _ (fun y hy => ?_)
  obtain ⟨m, hm⟩ := List.mem_iff_getElem?.1 hy
  have := chkGo_get h2 m y hm
  omega
 ·rw [if_neg hc, if_neg hc]
  rfl
theorem chkGo_tail {most last : Int} {x : Int × Int × Int} {l : List (Int × Int × Int)} (h : chkGo most last (x :: l) = true) : chkGo most x.2.1 l = true := by
 unfold chkGo at h
 split at h
 ·cases h
 ·exact h
theorem of_loop (l : List S33) (hn : l.length ≤ 100000) (r most : Int) : ∀ (d i : Nat) (last : Int), i + d = l.length → chkGo most last ((l.drop i).map prop_Make.t) = true →
  Ev (fun k => stanzaref01_Of.l0 k l r (i : Int)) (ofR ((l.drop i).map prop_Make.t) r) := by
 intro d
 induction d with
 | zero =>
  intro i last hi hc
  refine Ev.step (fun k => by unfold stanzaref01_Of.l0; rfl) (ev_neg (by omega) (ev_ret ?_))
  rw [List.drop_eq_nil_of_le (by omega)]
  rfl
 | succ d ih =>
  intro i last hi hc
  have hlt : i < l.length := by omega
  rw [List.drop_eq_getElem_cons hlt, List.map_cons] at hc ⊢
  rw [ofR_cons hc]
  have hi2 := ih (i + 1) _ (by omega) (chkGo_tail hc)
  have hw : wrap64 ((i : Int) + 1) = ((i + 1 : Nat) : Int) := by rw [w64 (by omega) (by omega)]; rfl
  refine Ev.step (fun k => by unfold stanzaref01_Of.l0; rfl) (ev_pos (by omega) (ev_pos (by omega) ?_))
  rw [rd_range l i hlt, hw]
  show Ev _ (if (l[i]).f0 ≤ r ∧ r ≤ (l[i]).f1 then (l[i]).f2 else _)
  by_cases h1 : (l[i]).f0 ≤ r
  ·refine ev_pos h1 ?_
   by_cases h2 : r ≤ (l[i]).f1
   ·rw [if_pos ⟨h1, h2⟩]; exact ev_pos h2 (Ev.now _)
   ·rw [if_neg (fun h => h2 h.2)]; exact ev_neg h2 hi2
  ·rw [if_neg (fun h => h1 h.1)]; exact ev_neg h1 hi2
theorem of_ref (l : List S33) (hn : l.length ≤ 100000) {most last : Int} (hc : chkGo most last (l.map prop_Make.t) = true) (r : Int) : Ev (fun k => stanzaref01_Of.f k l r) (ofR (l.map prop_Make.t) r) := by
 unfold stanzaref01_Of.f
 have := of_loop l hn r most l.length 0 last (by omega) (by simpa using hc)
 simpa using this
theorem tabOf_eq {l : List (Int × Int × Int)} {most : Int} (hc : chkGo most (-1) l = true) (r : Int) : tabOf (some l) r = ofR l r := by
 show (if r < 0 ∨ r > 1114111 then 0 else ofR l r) = _
 by_cases h : r < 0 ∨ r > 1114111
 ·rw [if_pos h]
  refine (ofR_none r (fun y hy => ?_)).symm
  obtain ⟨m, hm⟩ := List.mem_iff_getElem?.1 hy
  have := chkGo_get hc m y hm
  omega
 ·rw [if_neg h]

/-! ### ranges made right -/
/-- Where a right list ends. -/
def endOf (l : List (Int × Int × Int)) : Int := match l.getLast? with
 | none => -1
 | some y => y.2.1
theorem chkGo_snoc {most : Int} : ∀ (l : List (Int × Int × Int)) (last : Int) (x : Int × Int × Int), chkGo most last l = true → (match l.getLast? with | none => last | some y => y.2.1) < x.1 → x.1 ≤ x.2.1 → x.2.1 ≤ 1114111 → 0 ≤ x.2.2 → x.2.2 < most → x.2.2 ≤ 255 → chkGo most last (l ++ [x]) = true
 | [], last, x, _, h1, h2, h3, h4, h5, h6 => by
  simp only [List.getLast?_nil] at h1
  show (if x.1 ≤ last ∨ x.2.1 < x.1 ∨ x.2.1 > 1114111 ∨ x.2.2 < 0 ∨ x.2.2 ≥ most ∨ x.2.2 > 255 then false else chkGo most x.2.1 []) = true
  rw [if_neg (by omega)]
  rfl
 | y :: l, last, x, h, h1, h2, h3, h4, h5, h6 => by
  have h' := h
  unfold chkGo at h
  split at h
  ·cases h
  ·rename_i hy
   rw [List.cons_append]
   unfold chkGo
   rw [if_neg hy]
   refine chkGo_snoc l y.2.1 x h ?_ h2 h3 h4 h5 h6
   cases l with
   | nil => simpa using h1
   | cons z l => rw [List.getLast?_cons_cons] at h1; cases hq : (z :: l).getLast? with
    | none => simp at hq
    | some q => rw [hq] at h1; exact h1
theorem make_y {l : List S33} {m : Int} (h : prop_Make.c l m = true) : prop_MakeY.f l m = some (some (l.map prop_Make.t)) := by unfold prop_MakeY.f; rw [if_pos h]
theorem make_n {l : List S33} {m : Int} (h : prop_Make.c l m = false) : prop_MakeN.f l m = some () := by unfold prop_MakeN.f; rw [h]; rfl
end Go.Proofs.Ytcgbndojpcaboaa.Pure
end
section
/- The chapter's own example is right: Awake answers true. -/
namespace Go.Proofs.Ytcgbndojpcaboaa.Pure
open Go.RowKit Go.Proofs.YtcgbndojpcaboaaW.PrintWords Go.Proofs.Ytcgbndojpcaboaa.F

theorem map_zero (g : Nat → Int) (n : Nat) (h : ∀ j, j < n → g j = 0) : (List.range n).map g = List.replicate n 0 := by
 refine List.eq_replicate_iff.2 ⟨by rw [List.length_map, List.length_range], fun b hb => ?_⟩
 obtain ⟨j, hj, rfl⟩ := List.mem_map.1 hb
 exact h j (List.mem_range.1 hj)
theorem row_zero {l : List (Int × Int × Int)} {i : Nat} (h : ∀ j : Nat, j < 256 → ofR l ((i : Int) * 256 + (j : Int)) = 0) : rowR l i = zerosR := map_zero _ 256 h
theorem row_get {l : List (Int × Int × Int)} {i : Nat} (h : rowR l i = zerosR) (j : Nat) (hj : j < 256) : ofR l ((i : Int) * 256 + (j : Int)) = 0 := by
 have h1 : (rowR l i).getD j 0 = zerosR.getD j 0 := by rw [h]
 unfold rowR zerosR at h1
 rw [getD_map_range (fun (j : Nat) => ofR l ((i : Int) * 256 + (j : Int))) hj, List.getD_eq_getElem?_getD, List.getElem?_replicate, if_pos hj] at h1
 exact h1
theorem zero_mem (l : List (Int × Int × Int)) : ∀ i, zerosR ∈ blR l i
 | 0 => by simp [blR]
 | i + 1 => by
  unfold blR
  split
  ·exact zero_mem l i
  ·exact List.mem_append_left _ (zero_mem l i)
theorem blR_stay {l : List (Int × Int × Int)} (n : Nat) (h : ∀ i, n ≤ i → rowR l i = zerosR) : ∀ d, blR l (n + d) = blR l n
 | 0 => rfl
 | d + 1 => by
  show (if rowR l (n + d) ∈ blR l (n + d) then blR l (n + d) else blR l (n + d) ++ [rowR l (n + d)]) = _
  rw [h (n + d) (by omega), if_pos (zero_mem l _), blR_stay n h d]
theorem tabBl_stay {l : List (Int × Int × Int)} {n : Nat} (hn : n ≤ 4352) (h : ∀ i, n ≤ i → rowR l i = zerosR) : tabBl (some l) = ((blR l n).length : Int) := by
 have h1 := blR_stay n h (4352 - n)
 rw [Nat.add_sub_cancel' hn] at h1
 unfold tabBl
 show ((blR l 4352).length : Int) = _
 rw [h1]
theorem awk_z1 : ∀ i, 1 ≤ i → rowR [(48, 57, 1), (65, 90, 2)] i = zerosR := fun i hi => row_zero fun j hj => ofR_none _ (fun y hy => by
  rcases List.mem_cons.1 hy with rfl | hy
  ·show ¬ (48 ≤ (i : Int) * 256 + (j : Int) ∧ (i : Int) * 256 + (j : Int) ≤ 57); omega
  ·obtain rfl := List.mem_singleton.1 hy
   show ¬ (65 ≤ (i : Int) * 256 + (j : Int) ∧ (i : Int) * 256 + (j : Int) ≤ 90); omega)
theorem blR_one {l : List (Int × Int × Int)} (h : rowR l 0 ≠ zerosR) : (blR l 1).length = 2 := by
 have hn : ¬ rowR l 0 ∈ blR l 0 := fun h2 => h (List.mem_singleton.1 h2)
 have e1 : blR l 1 = blR l 0 ++ [rowR l 0] := if_neg hn
 rw [e1, List.length_append]
 rfl
theorem awk_hn : rowR [(48, 57, 1), (65, 90, 2)] 0 ≠ zerosR := by
 intro h
 have := row_get h 53 (by omega)
 exact absurd this (by decide)
theorem awk_b1 : tabBl (some [(48, 57, 1), (65, 90, 2)]) = 2 := by
 rw [tabBl_stay (n := 1) (by omega) awk_z1, blR_one awk_hn]
 rfl
theorem awk_b2 : tabBl (some []) = 1 := by
 rw [tabBl_stay (n := 0) (by omega) (fun i _ => row_zero fun j _ => rfl)]
 rfl
theorem awk_c1 : prop_Make.c [(⟨48, 57, 1⟩ : S33), (⟨65, 90, 2⟩ : S33)] 3 = true := by decide
theorem awk_c2 : prop_Make.c ([] : List S33) 1 = true := by decide
theorem awk_m1 : prop_MakeY.f [(⟨48, 57, 1⟩ : S33), (⟨65, 90, 2⟩ : S33)] 3 = some (some [(48, 57, 1), (65, 90, 2)]) := make_y awk_c1
theorem awk_m2 : prop_MakeY.f ([] : List S33) 1 = some (some []) := make_y awk_c2
theorem awk_e1 : prop_Table_Of.f (some [(48, 57, 1), (65, 90, 2)]) 53 = some 1 := rfl
theorem awk_e2 : prop_Table_Of.f (some [(48, 57, 1), (65, 90, 2)]) 64 = some 0 := rfl
theorem awk_e3 : prop_Table_Of.f (some [(48, 57, 1), (65, 90, 2)]) 65 = some 2 := rfl
theorem awk_e4 : prop_Table_Blocks.f (some [(48, 57, 1), (65, 90, 2)]) = some 2 := congrArg some awk_b1
theorem awk_e5 : prop_Table_Blocks.f (some []) = some 1 := congrArg some awk_b2
theorem awake02 : stanzalaw02_Awake.f = some true := by
 unfold stanzalaw02_Awake.f
 rw [Option.bind_some, if_pos awk_c1, awk_m1, Option.bind_some, if_pos awk_c2, awk_m2, Option.bind_some, awk_e1, Option.bind_some, if_pos rfl, awk_e2, Option.bind_some, if_pos rfl, awk_e3, Option.bind_some, if_pos rfl, awk_e4, Option.bind_some, if_pos rfl, awk_e5, Option.bind_some]
 rfl
end Go.Proofs.Ytcgbndojpcaboaa.Pure
end
section
/- Ranges made right (Right): a list that the check lets through. -/
namespace Go.Proofs.Ytcgbndojpcaboaa.Pure
open Go.RowKit Go.Proofs.YtcgbndojpcaboaaW.PrintWords Go.Proofs.Ytcgbndojpcaboaa.F

theorem right_lo {e : Int} (h1 : -1 ≤ e) (h2 : e ≤ 1114111) (a : Int) : wrap64 (wrap64 (e + 1) + a % 4294967296 % 3000) = e + 1 + a % 4294967296 % 3000 := by
 have : 0 ≤ a % 4294967296 % 3000 ∧ a % 4294967296 % 3000 < 3000 := by omega
 generalize a % 4294967296 % 3000 = q at this
 rw [w64 (x := e + 1) (by omega) (by omega), w64 (by omega) (by omega)]
theorem right_hi {e : Int} (h1 : -1 ≤ e) (h2 : e ≤ 1200000) (a : Int) : wrap64 (e + a % 4294967296 % 600) = e + a % 4294967296 % 600 := by
 have : 0 ≤ a % 4294967296 % 600 ∧ a % 4294967296 % 600 < 600 := by omega
 generalize a % 4294967296 % 600 = q at this
 exact w64 (by omega) (by omega)
theorem w32s {e : Int} (h1 : 0 ≤ e) (h2 : e ≤ 1200000) : wrap32 e = e := by unfold wrap32; omega
theorem right_step (l : List S33) {most : Int} (h1 : 1 ≤ most) (h2 : most ≤ 255) {i : Nat} (hlt : i < l.length) (hx : i < 200) (m : List S33) (hm : m.length ≤ 200) {e : Int} (he1 : -1 ≤ e) (he2 : e ≤ 1114111) {p q t : Int}
  (hp : p = e + 1 + (l[i]).f0 % 4294967296 % 3000) (hq : q = p + (l[i]).f1 % 4294967296 % 600) (ht : t = ((l[i]).f2 % 18446744073709551616) % most) {r : List S33}
  (H : if q > 1114111 then r = m else Ev (fun k => stanzalaw02_Right.l0 k l most (m ++ [(⟨p, q, t⟩ : S33)]) q ((i + 1 : Nat) : Int)) r) :
  Ev (fun k => stanzalaw02_Right.l0 k l most m e (i : Int)) r := by
 have hp1 : -1 ≤ p ∧ p ≤ 1120000 := by omega
 have hq1 : 0 ≤ q ∧ q ≤ 1200000 := by omega
 have hp2 : 0 ≤ p := by omega
 have hne : IntKind.u64.wrap most ≠ 0 := by
  have hw : IntKind.u64.wrap most = most % 18446744073709551616 := by simp [IntKind.wrap, IntKind.signed, IntKind.bits]
  rw [hw]; omega
 have b1 : decide ((i : Int) < 200) = true := decide_eq_true (by omega)
 refine Ev.step (fun k => by unfold stanzalaw02_Right.l0; rfl) (ev_pos (by omega) ?_)
 rw [b1]
 refine Ev.step (fun k => by unfold stanzalaw02_Right.j1; rfl) (ev_pos rfl (ev_pos (by omega) (ev_pos (by omega) ?_)))
 rw [rd_range l i hlt, right_lo he1 he2, ← hp, right_hi (by omega) (by omega), ← hq, w32s hp2 (by omega), w32s hq1.1 hq1.2, u64mod (by omega) (by omega), ← ht]
 rw [w64 (x := (i : Int) + 1) (by omega) (by omega)]
 by_cases hb : q > 1114111
 ·rw [if_pos hb] at H
  subst H
  exact ev_pos hb (Ev.now _)
 ·rw [if_neg hb] at H
  exact ev_neg hb (ev_neg hne (ev_pos (by omega) H))
theorem right_loop (l : List S33) (hl : (l.length : Int) * 16 ≤ 140737488351232) (most : Int) (h1 : 1 ≤ most) (h2 : most ≤ 255) : ∀ (d i : Nat) (m : List S33) (e : Int), i + d = l.length → m.length ≤ i → m.length ≤ 200 → (i ≤ 200) → chkGo most (-1) (m.map prop_Make.t) = true → e = endOf (m.map prop_Make.t) → -1 ≤ e → e ≤ 1114111 →
  ∃ r, Ev (fun k => stanzalaw02_Right.l0 k l most m e (i : Int)) r ∧ chkGo most (-1) (r.map prop_Make.t) = true ∧ r.length ≤ 200 := by
 intro d
 induction d with
 | zero =>
  intro i m e hi hm1 hm2 hi2 hc he he1 he2
  refine ⟨m, Ev.step (fun k => by unfold stanzalaw02_Right.l0; rfl) (ev_neg (by omega) (Ev.step (fun k => by unfold stanzalaw02_Right.j1; rfl) (ev_neg (by decide) (Ev.now _)))), hc, hm2⟩
 | succ d ih =>
  intro i m e hi hm1 hm2 hi2 hc he he1 he2
  have hlt : i < l.length := by omega
  by_cases hx : i < 200
  ·obtain ⟨p, hp⟩ : ∃ p, p = e + 1 + (l[i]).f0 % 4294967296 % 3000 := ⟨_, rfl⟩
   obtain ⟨q, hq⟩ : ∃ q, q = p + (l[i]).f1 % 4294967296 % 600 := ⟨_, rfl⟩
   obtain ⟨t, ht⟩ : ∃ t, t = ((l[i]).f2 % 18446744073709551616) % most := ⟨_, rfl⟩
   have hp1 : e < p := by omega
   have hq1 : p ≤ q := by omega
   have ht1 : 0 ≤ t := by rw [ht]; exact Int.emod_nonneg _ (by omega)
   have ht2 : t < most := by rw [ht]; exact Int.emod_lt_of_pos _ (by omega)
   have step := fun {r} => right_step l h1 h2 hlt hx m hm2 he1 he2 hp hq ht (r := r)
   clear hp hq ht
   by_cases hb : q > 1114111
   ·exact ⟨m, step (by rw [if_pos hb]), hc, hm2⟩
   ·obtain ⟨r, hr, hrc, hrl⟩ := ih (i + 1) (m ++ [(⟨p, q, t⟩ : S33)]) q (by omega)
     (by rw [List.length_append]; exact Nat.succ_le_succ hm1) (by rw [List.length_append, List.length_singleton]; omega) (by omega)
     (by rw [List.map_append]; exact chkGo_snoc _ _ _ hc (show endOf (m.map prop_Make.t) < _ by rw [← he]; exact hp1) hq1 (show q ≤ 1114111 by omega) ht1 ht2 (show t ≤ 255 by omega))
     (by unfold endOf; rw [List.map_append, List.map_singleton, List.getLast?_concat]; rfl) (by omega) (by omega)
    exact ⟨r, step (by rw [if_neg hb]; exact hr), hrc, hrl⟩
  ·have b1 : decide ((i : Int) < 200) = false := decide_eq_false (by omega)
   refine ⟨m, Ev.step (fun k => by unfold stanzalaw02_Right.l0; rfl) (ev_pos (by omega) ?_), hc, hm2⟩
   rw [b1]
   exact Ev.step (fun k => by unfold stanzalaw02_Right.j1; rfl) (ev_neg (by decide) (Ev.now _))
theorem right_ok (l : List S33) (hl : (l.length : Int) * 16 ≤ 140737488351232) (most : Int) (h1 : 1 ≤ most) (h2 : most ≤ 255) : ∃ r, Ev (fun k => stanzalaw02_Right.f k l most) r ∧ chkGo most (-1) (r.map prop_Make.t) = true ∧ r.length ≤ 200 ∧ prop_Make.c r most = true := by
 obtain ⟨r, hr, hc, hn⟩ := right_loop l hl most h1 h2 l.length 0 [] (-1) (by omega) (by simp) (by simp) (by omega) rfl rfl (by omega) (by omega)
 refine ⟨r, ?_, hc, hn, ?_⟩
 ·unfold stanzalaw02_Right.f
  exact hr
 ·unfold prop_Make.c chkR
  rw [List.length_map, if_neg (by omega)]
  exact hc
end Go.Proofs.Ytcgbndojpcaboaa.Pure
end
section
/- PropSplits, plain: a range cut in two changes nothing that a table tells. -/
namespace Go.Proofs.Ytcgbndojpcaboaa.Pure
open Go.RowKit Go.Proofs.YtcgbndojpcaboaaW.PrintWords Go.Proofs.Ytcgbndojpcaboaa.F

theorem cut_ofR (A B : List (Int × Int × Int)) {p c q v : Int} (h1 : p ≤ c) (h2 : c ≤ q) (r : Int) : ofR (A ++ (p, c, v) :: (c + 1, q, v) :: B) r = ofR (A ++ (p, q, v) :: B) r := by
  unfold ofR
  rw [List.foldl_append, List.foldl_append, List.foldl_cons, List.foldl_cons, List.foldl_cons]
  congr 1
  have key : ∀ a : Int, (if c + 1 ≤ r ∧ r ≤ q then v else if p ≤ r ∧ r ≤ c then v else a) = if p ≤ r ∧ r ≤ q then v else a := by
   intro a
   by_cases h3 : c + 1 ≤ r ∧ r ≤ q
   · rw [if_pos h3, if_pos (by omega)]
   · rw [if_neg h3]
     by_cases h4 : p ≤ r ∧ r ≤ c
     · rw [if_pos h4, if_pos (by omega)]
     · rw [if_neg h4, if_neg (by omega)]
  exact key _
theorem cut_chk {most : Int} {B : List (Int × Int × Int)} {p c q v : Int} (h1 : p ≤ c) (h2 : c < q) : ∀ (A : List (Int × Int × Int)) (last : Int), chkGo most last (A ++ (p, q, v) :: B) = true → chkGo most last (A ++ (p, c, v) :: (c + 1, q, v) :: B) = true
  | [], last, h => by
    rw [List.nil_append] at h ⊢
    have g := chkGo_get h 0 (p, q, v) rfl
    have t := chkGo_tail h
    simp only at g t
    show (if p ≤ last ∨ c < p ∨ c > 1114111 ∨ v < 0 ∨ v ≥ most ∨ v > 255 then false else if c + 1 ≤ c ∨ q < c + 1 ∨ q > 1114111 ∨ v < 0 ∨ v ≥ most ∨ v > 255 then false else chkGo most q B) = true
    rw [if_neg (by omega), if_neg (by omega)]
    exact t
  | x :: A, last, h => by
    rw [List.cons_append] at h ⊢
    have h' := h
    unfold chkGo at h
    split at h
    · cases h
    · rename_i hx
      unfold chkGo
      rw [if_neg hx]
      exact cut_chk h1 h2 A _ h
theorem ofR_at {most : Int} : ∀ (l : List (Int × Int × Int)) (last : Int), chkGo most last l = true → ∀ y ∈ l, ∀ r, y.1 ≤ r → r ≤ y.2.1 → ofR l r = y.2.2
  | x :: l, last, h, y, hy, r, h1, h2 => by
    rw [ofR_cons h]
    rcases List.mem_cons.1 hy with rfl | hy
    · rw [if_pos ⟨h1, h2⟩]
    · obtain ⟨m, hm⟩ := List.mem_iff_getElem?.1 hy
      have := chkGo_get (chkGo_tail h) m y hm
      rw [if_neg (by omega)]
      exact ofR_at l _ (chkGo_tail h) y hy r h1 h2
theorem blR_cong {l m : List (Int × Int × Int)} (h : ∀ r, ofR l r = ofR m r) (i : Nat) : blR l i = blR m i := by
  have hr : ∀ i, rowR l i = rowR m i := fun i => by unfold rowR; exact List.map_congr_left fun j _ => h _
  induction i with
  | zero => rfl
  | succ i ih => unfold blR; rw [ih, hr]
theorem tabBl_cong {l m : List (Int × Int × Int)} (h : ∀ r, ofR l r = ofR m r) : tabBl (some l) = tabBl (some m) := by
  unfold tabBl
  show ((blR l 4352).length : Int) = ((blR m 4352).length : Int)
  rw [blR_cong h]
theorem u64mod32 {x n : Int} (h1 : 0 < n) (h2 : n ≤ 1114111) : wrap32 (Int.tmod (IntKind.u64.wrap x) (IntKind.u64.wrap n)) = (x % 18446744073709551616) % n := by
  have hw : ∀ y, IntKind.u64.wrap y = y % 18446744073709551616 := fun y => by simp [IntKind.wrap, IntKind.signed, IntKind.bits]
  rw [hw, hw, Int.emod_eq_of_lt (by omega) (by omega : n < 18446744073709551616), tmodp (by omega)]
  have h3 := Int.emod_nonneg (x % 18446744073709551616) (by omega : n ≠ 0)
  have h4 := Int.emod_lt_of_pos (x % 18446744073709551616) h1
  exact w32s (by omega) (by omega)
theorem PropSplits : stanzalaw02_PropSplits.Pure := by
  intro l0 a1 a2 a3 h0 h1 h2 h3
  obtain ⟨r, hr, hc, hn, hm⟩ := right_ok l0 (by have := h0.1; omega) 50 (by decide) (by decide)
  have : Ev (fun k => stanzalaw02_PropSplits.f k l0 a1 a2 a3) true := by
    unfold stanzalaw02_PropSplits.f
    refine ev_bind' awake02 (ev_pos rfl (ev_bind hr ?_))
    by_cases hz : (r.length : Int) = 0
    · exact ev_pos hz (Ev.now _)
    refine ev_neg hz ?_
    have hu : ∀ n : Int, 0 < n → n ≤ 9223372036854775807 → IntKind.u64.wrap n ≠ 0 := by
      intro n p q
      have hw : IntKind.u64.wrap n = n % 18446744073709551616 := by simp [IntKind.wrap, IntKind.signed, IntKind.bits]
      rw [hw]; omega
    refine ev_neg (hu _ (by omega) (by omega)) ?_
    obtain ⟨i, hi, hlt⟩ : ∃ i : Nat, wrap64 (Int.tmod (IntKind.u64.wrap a1) (IntKind.u64.wrap (r.length : Int))) = (i : Int) ∧ i < r.length := by
      rw [u64mod (by omega) (by omega)]
      have g1 := Int.emod_nonneg (a1 % 18446744073709551616) (by omega : (r.length : Int) ≠ 0)
      have g2 := Int.emod_lt_of_pos (a1 % 18446744073709551616) (by omega : 0 < (r.length : Int))
      exact ⟨_, (Int.toNat_of_nonneg g1).symm, by omega⟩
    rw [hi]
    clear hi
    refine ev_pos (by omega) (ev_pos (by omega) ?_)
    rw [rd_range r i hlt]
    have hx : (r.map prop_Make.t)[i]? = some (prop_Make.t r[i]) := by rw [List.getElem?_map, List.getElem?_eq_getElem hlt]; rfl
    have hs : r.map prop_Make.t = (r.take i).map prop_Make.t ++ prop_Make.t r[i] :: (r.drop (i + 1)).map prop_Make.t := by
      conv => lhs; rw [← List.take_append_drop i r, List.drop_eq_getElem_cons hlt]
      rw [List.map_append, List.map_cons]
    have g := chkGo_get hc i _ hx
    have g1 : -1 < (r[i]).f0 := g.1
    have g2 : (r[i]).f0 ≤ (r[i]).f1 := g.2.1
    have g3 : (r[i]).f1 ≤ 1114111 := g.2.2.1
    generalize hX : r[i] = X at hs g1 g2 g3
    clear hx g
    by_cases he : X.f0 = X.f1
    · exact ev_pos he (Ev.now _)
    refine ev_neg he ?_
    have e1 : wrap32 (X.f1 - X.f0) = X.f1 - X.f0 := w32s (by omega) (by omega)
    rw [e1]
    refine ev_neg (hu _ (by omega) (by omega)) (ev_let (ev_pos (by omega) (ev_let ?_)))
    rw [u64mod32 (by omega) (by omega)]
    obtain ⟨q, hq, q1, q2⟩ : ∃ q : Int, (a2 % 18446744073709551616) % (X.f1 - X.f0) = q ∧ 0 ≤ q ∧ q < X.f1 - X.f0 := ⟨_, rfl, Int.emod_nonneg _ (by omega), Int.emod_lt_of_pos _ (by omega)⟩
    rw [hq]
    clear hq e1
    have e2 : wrap32 (X.f0 + q) = X.f0 + q := w32s (by omega) (by omega)
    rw [e2]
    clear e2
    obtain ⟨c, hcc⟩ : ∃ c, X.f0 + q = c := ⟨_, rfl⟩
    rw [hcc]
    have e3 : wrap32 (c + 1) = c + 1 := w32s (by omega) (by omega)
    rw [e3]
    clear e3
    have e4 : wrap64 ((i : Int) + 1) = ((i + 1 : Nat) : Int) := by rw [w64 (by omega) (by omega)]; rfl
    rw [e4, Int.toNat_natCast, Int.toNat_natCast, List.nil_append]
    clear e4
    have l1 : (r.take i).length ≤ 200 := by rw [List.length_take]; omega
    have l2 : (r.drop (i + 1)).length ≤ 200 := by rw [List.length_drop]; omega
    refine ev_pos (by simp only [List.length_nil]; omega) (ev_let (ev_let (ev_pos (by simp only [List.length_cons, List.length_nil]; omega) (ev_let (ev_pos (by omega) (ev_pos (by omega) (ev_let (ev_pos (by simp only [List.length_append, List.length_cons, List.length_nil]; omega) (ev_let ?_)))))))))
    have hL : (r.take i ++ [(⟨X.f0, c, X.f2⟩ : S33), (⟨c + 1, X.f1, X.f2⟩ : S33)] ++ r.drop (i + 1)).map prop_Make.t = (r.take i).map prop_Make.t ++ (X.f0, c, X.f2) :: (c + 1, X.f1, X.f2) :: (r.drop (i + 1)).map prop_Make.t := by
      rw [List.map_append, List.map_append, List.append_assoc]; rfl
    have hln : (r.take i ++ [(⟨X.f0, c, X.f2⟩ : S33), (⟨c + 1, X.f1, X.f2⟩ : S33)] ++ r.drop (i + 1)).length = r.length + 1 := by
      rw [List.length_append, List.length_append, List.length_take, List.length_drop]; simp only [List.length_cons, List.length_nil]; omega
    generalize r.take i ++ [(⟨X.f0, c, X.f2⟩ : S33), (⟨c + 1, X.f1, X.f2⟩ : S33)] ++ r.drop (i + 1) = L at hL hln
    have hLc : chkGo 50 (-1) (L.map prop_Make.t) = true := by
      rw [hL]
      refine cut_chk (by omega) (by omega) _ _ ?_
      rw [hs] at hc
      exact hc
    have hLm : prop_Make.c L 50 = true := by
      unfold prop_Make.c chkR
      rw [List.length_map, if_neg (by omega)]
      exact hLc
    have ho : ∀ y, ofR (r.map prop_Make.t) y = ofR (L.map prop_Make.t) y := by
      intro y
      rw [hs, hL]
      exact (cut_ofR _ _ (by omega) (by omega) y).symm
    have of1 : ∀ y, prop_Table_Of.f (some (r.map prop_Make.t)) y = some (ofR (L.map prop_Make.t) y) := fun y => congrArg some ((tabOf_eq hc y).trans (ho y))
    have of2 : ∀ y, prop_Table_Of.f (some (L.map prop_Make.t)) y = some (ofR (L.map prop_Make.t) y) := fun y => congrArg some (tabOf_eq hLc y)
    have hv : ofR (L.map prop_Make.t) (c + 1) = X.f2 := ofR_at _ _ hLc (c + 1, X.f1, X.f2) (by rw [hL]; simp) (c + 1) (Int.le_refl _) (show c + 1 ≤ X.f1 by omega)
    refine ev_pos hm (ev_bind' (make_y hm) (ev_pos hLm (ev_bind' (make_y hLm) ?_)))
    refine ev_bind' (of1 _) (ev_bind' (of2 _) (ev_pos rfl (ev_bind' (of1 _) (ev_bind' (of2 _) (ev_pos rfl (ev_bind' (of2 _) (ev_pos hv ?_)))))))
    refine ev_bind' (show prop_Table_Blocks.f _ = some _ from rfl) (ev_bind' (show prop_Table_Blocks.f _ = some _ from rfl) (ev_ret ?_))
    rw [tabBl_cong ho]
    simp
  obtain ⟨k, hk⟩ := this
  exact ⟨k, hk k (Nat.le_refl k)⟩
end Go.Proofs.Ytcgbndojpcaboaa.Pure
end
