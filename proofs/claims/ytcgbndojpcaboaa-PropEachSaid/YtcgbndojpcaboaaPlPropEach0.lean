/- Plain proofs: what the printed functions compute. -/
import Derived.Test.YtcgbndojpcaboaaXPropEach0
import Derived.WalkKit
import Derived.Test.YtcgbndojpcaboaaVPropEach0
section
/- Helpers of the plain proofs: eventual values (Ev), wrapped numbers, lists. -/
namespace Go.Proofs.Ytcgbndojpcaboaa.Pure
open Go.RowKit Go.Proofs.YtcgbndojpcaboaaW.PrintWords

theorem ev_pos {α : Type} {c : Prop} [Decidable c] {a b : Nat → Option α} {r : α} (h : c) (H : Ev a r) : Ev (fun k => if c then a k else b k) r := by simpa [h] using H
theorem ev_neg {α : Type} {c : Prop} [Decidable c] {a b : Nat → Option α} {r : α} (h : ¬ c) (H : Ev b r) : Ev (fun k => if c then a k else b k) r := by simpa [h] using H
theorem ev_eq {α : Type} {o : Option α} {r : α} (h : o = some r) : Ev (fun _ => o) r := by subst h; exact Ev.now _
theorem ev_ret {α : Type} {x r : α} (h : x = r) : Ev (fun _ => some x) r := by subst h; exact Ev.now _
theorem ev_bind {α β : Type} {g : Nat → Option α} {f : Nat → α → Option β} {a : α} {r : β} (h : Ev g a) (k : Ev (fun n => f n a) r) : Ev (fun n => (g n).bind (f n)) r := Ev.bind h k
theorem ev_bind' {α β : Type} {o : Option α} {f : Nat → α → Option β} {a : α} {r : β} (h : o = some a) (k : Ev (fun n => f n a) r) : Ev (fun n => o.bind (f n)) r := by subst h; exact k
theorem ev_let {α β : Type} {a : α} {f : Nat → α → Option β} {r : β} (k : Ev (fun n => f n a) r) : Ev (fun n => (some a).bind (f n)) r := k
theorem ev_uniq {α : Type} {g : Nat → Option α} {a b : α} (h : Ev g a) (k : Ev g b) : a = b := by
 obtain ⟨m, hm⟩ := h
 obtain ⟨n, hn⟩ := k
 have h1 := hm (max m n) (Nat.le_max_left _ _)
 have h2 := hn (max m n) (Nat.le_max_right _ _)
 exact Option.some.inj (h1.symm.trans h2)

theorem w64 {x : Int} (h1 : -9223372036854775808 ≤ x) (h2 : x ≤ 9223372036854775807) : wrap64 x = x := by unfold wrap64; omega
theorem tmodp {a b : Int} (h : 0 ≤ a) : Int.tmod a b = a % b := Int.tmod_eq_emod_of_nonneg h
theorem tdivp {a b : Int} (h : 0 ≤ a) : Int.tdiv a b = a / b := Int.tdiv_eq_ediv_of_nonneg h
theorem wfu8 {x : Int} : (Lit.int .u8 x).wf = true ↔ 0 ≤ x ∧ x ≤ 255 := by simp [Lit.wf, IntKind.min, IntKind.max, IntKind.signed, IntKind.bits]
theorem wfu16 {x : Int} : (Lit.int .u16 x).wf = true ↔ 0 ≤ x ∧ x ≤ 65535 := by simp [Lit.wf, IntKind.min, IntKind.max, IntKind.signed, IntKind.bits]
theorem wfu32 {x : Int} : (Lit.int .u32 x).wf = true ↔ 0 ≤ x ∧ x ≤ 4294967295 := by simp [Lit.wf, IntKind.min, IntKind.max, IntKind.signed, IntKind.bits]
theorem wfi64 {x : Int} : (Lit.int .i64 x).wf = true ↔ -9223372036854775808 ≤ x ∧ x ≤ 9223372036854775807 := by simp [Lit.wf, IntKind.min, IntKind.max, IntKind.signed, IntKind.bits]
theorem wfi32 {x : Int} : (Lit.int .i32 x).wf = true ↔ -2147483648 ≤ x ∧ x ≤ 2147483647 := by simp [Lit.wf, IntKind.min, IntKind.max, IntKind.signed, IntKind.bits]
theorem u64mod {x n : Int} (h1 : 0 < n) (h2 : n ≤ 9223372036854775807) : wrap64 (Int.tmod (IntKind.u64.wrap x) (IntKind.u64.wrap n)) = (x % 18446744073709551616) % n := by
 have hw : ∀ y, IntKind.u64.wrap y = y % 18446744073709551616 := fun y => by simp [IntKind.wrap, IntKind.signed, IntKind.bits]
 rw [hw, hw, Int.emod_eq_of_lt (by omega) (by omega : n < 18446744073709551616), tmodp (by omega)]
 have h3 := Int.emod_nonneg (x % 18446744073709551616) (by omega : n ≠ 0)
 have h4 := Int.emod_lt_of_pos (x % 18446744073709551616) h1
 exact w64 (by omega) (by omega)

theorem rd_nat (xs : List Int) (n : Nat) : rd xs (n : Int) = xs.getD n 0 := rfl
theorem getD_map_range (g : Nat → Int) {n i : Nat} (h : i < n) : ((List.range n).map g).getD i 0 = g i := by
 rw [List.getD_eq_getElem?_getD, List.getElem?_map, List.getElem?_range h]; rfl
theorem rd_map_range (g : Nat → Int) {n i : Nat} (h : i < n) : rd ((List.range n).map g) (i : Int) = g i := getD_map_range g h
theorem map_range_snoc {α : Type} (g : Nat → α) (n : Nat) : (List.range n).map g ++ [g n] = (List.range (n + 1)).map g := by
 rw [List.range_succ, List.map_append]; rfl
theorem mod3 (x : Int) : 0 ≤ x % 3 ∧ x % 3 ≤ 2 := by omega
theorem mod4 (x : Int) : 0 ≤ x % 4 ∧ x % 4 ≤ 3 := by omega
end Go.Proofs.Ytcgbndojpcaboaa.Pure
end
section
/- What tables of ranges hold: the document's answer (Of), when a list is right; no condition but that lengths fit. -/
namespace Go.Proofs.Ytcgbndojpcaboaa.Pure
open Go.RowKit Go.Proofs.YtcgbndojpcaboaaW.PrintWords Go.Proofs.Ytcgbndojpcaboaa.F

theorem rd_range (xs : List S33) (i : Nat) (h : i < xs.length) : rd_T33 xs (i : Int) = xs[i] := by
 unfold rd_T33
 rw [List.getD_eq_getElem?_getD, Int.toNat_natCast, List.getElem?_eq_getElem h]
 rfl
theorem ofR_stay (l : List (Int × Int × Int)) (r a : Int) (h : ∀ y ∈ l, ¬ (y.1 ≤ r ∧ r ≤ y.2.1)) : l.foldl (fun a y => if y.1 ≤ r ∧ r ≤ y.2.1 then y.2.2 else a) a = a := by
 induction l with
 | nil => rfl
 | cons x l ih => rw [List.foldl_cons, if_neg (h x (by simp)), ih (fun y hy => h y (by simp [hy]))]
theorem ofR_cons {most last : Int} {x : Int × Int × Int} {l : List (Int × Int × Int)} (h : chkGo most last (x :: l) = true) (r : Int) : ofR (x :: l) r = if x.1 ≤ r ∧ r ≤ x.2.1 then x.2.2 else ofR l r := by
 have h2 : chkGo most x.2.1 l = true := by
  unfold chkGo at h
  split at h
  ·cases h
  ·exact h
 show List.foldl _ _ _ = _
 rw [List.foldl_cons]
 by_cases hc : x.1 ≤ r ∧ r ≤ x.2.1
 ·rw [if_pos hc, if_pos hc]
  refine ofR_stay l r _ (fun y hy => ?_)
  obtain ⟨m, hm⟩ := List.mem_iff_getElem?.1 hy
  have := chkGo_get h2 m y hm
  omega
 ·rw [if_neg hc, if_neg hc]
  rfl
theorem chkGo_tail {most last : Int} {x : Int × Int × Int} {l : List (Int × Int × Int)} (h : chkGo most last (x :: l) = true) : chkGo most x.2.1 l = true := by
 unfold chkGo at h
 split at h
 ·cases h
 ·exact h
theorem of_loop (l : List S33) (hn : l.length ≤ 100000) (r most : Int) : ∀ (d i : Nat) (last : Int), i + d = l.length → chkGo most last ((l.drop i).map prop_Make.t) = true →
  Ev (fun k => stanzaref01_Of.l0 k l r (i : Int)) (ofR ((l.drop i).map prop_Make.t) r) := by
 intro d
 induction d with
 | zero =>
  intro i last hi hc
  refine Ev.step (fun k => by unfold stanzaref01_Of.l0; rfl) (ev_neg (by omega) (ev_ret ?_))
  rw [List.drop_eq_nil_of_le (by omega)]
  rfl
 | succ d ih =>
  intro i last hi hc
  have hlt : i < l.length := by omega
  rw [List.drop_eq_getElem_cons hlt, List.map_cons] at hc ⊢
  rw [ofR_cons hc]
  have hi2 := ih (i + 1) _ (by omega) (chkGo_tail hc)
  have hw : wrap64 ((i : Int) + 1) = ((i + 1 : Nat) : Int) := by rw [w64 (by omega) (by omega)]; rfl
  refine Ev.step (fun k => by unfold stanzaref01_Of.l0; rfl) (ev_pos (by omega) (ev_pos (by omega) ?_))
  rw [rd_range l i hlt, hw]
  show Ev _ (if (l[i]).f0 ≤ r ∧ r ≤ (l[i]).f1 then (l[i]).f2 else _)
  by_cases h1 : (l[i]).f0 ≤ r
  ·refine ev_pos h1 ?_
   by_cases h2 : r ≤ (l[i]).f1
   ·rw [if_pos ⟨h1, h2⟩]; exact ev_pos h2 (Ev.now _)
   ·rw [if_neg (fun h => h2 h.2)]; exact ev_neg h2 hi2
  ·rw [if_neg (fun h => h1 h.1)]; exact ev_neg h1 hi2
theorem of_ref (l : List S33) (hn : l.length ≤ 100000) {most last : Int} (hc : chkGo most last (l.map prop_Make.t) = true) (r : Int) : Ev (fun k => stanzaref01_Of.f k l r) (ofR (l.map prop_Make.t) r) := by
 unfold stanzaref01_Of.f
 have := of_loop l hn r most l.length 0 last (by omega) (by simpa using hc)
 simpa using this
theorem tabOf_eq {l : List (Int × Int × Int)} {most : Int} (hc : chkGo most (-1) l = true) (r : Int) : tabOf (some l) r = ofR l r := by
 show (if r < 0 ∨ r > 1114111 then 0 else ofR l r) = _
 by_cases h : r < 0 ∨ r > 1114111
 ·rw [if_pos h]
  refine (ofR_none r (fun y hy => ?_)).symm
  obtain ⟨m, hm⟩ := List.mem_iff_getElem?.1 hy
  have := chkGo_get hc m y hm
  omega
 ·rw [if_neg h]

/-! ### ranges made right -/
/-- Where a right list ends. -/
def endOf (l : List (Int × Int × Int)) : Int := match l.getLast? with
 | none => -1
 | some y => y.2.1
theorem chkGo_snoc {most : Int} : ∀ (l : List (Int × Int × Int)) (last : Int) (x : Int × Int × Int), chkGo most last l = true → (match l.getLast? with | none => last | some y => y.2.1) < x.1 → x.1 ≤ x.2.1 → x.2.1 ≤ 1114111 → 0 ≤ x.2.2 → x.2.2 < most → x.2.2 ≤ 255 → chkGo most last (l ++ [x]) = true
 | [], last, x, _, h1, h2, h3, h4, h5, h6 => by
  simp only [List.getLast?_nil] at h1
  show (if x.1 ≤ last ∨ x.2.1 < x.1 ∨ x.2.1 > 1114111 ∨ x.2.2 < 0 ∨ x.2.2 ≥ most ∨ x.2.2 > 255 then false else chkGo most x.2.1 []) = true
  rw [if_neg (by omega)]
  rfl
 | y :: l, last, x, h, h1, h2, h3, h4, h5, h6 => by
  have h' := h
  unfold chkGo at h
  split at h
  ·cases h
  ·rename_i hy
   rw [List.cons_append]
   unfold chkGo
   rw [if_neg hy]
   refine chkGo_snoc l y.2.1 x h ?_ h2 h3 h4 h5 h6
   cases l with
   | nil => simpa using h1
   | cons z l => rw [List.getLast?_cons_cons] at h1; cases hq : (z :: l).getLast? with
    | none => simp at hq
    | some q => rw [hq] at h1; exact h1
theorem make_y {l : List S33} {m : Int} (h : prop_Make.c l m = true) : prop_MakeY.f l m = some (some (l.map prop_Make.t)) := by unfold prop_MakeY.f; rw [if_pos h]
theorem make_n {l : List S33} {m : Int} (h : prop_Make.c l m = false) : prop_MakeN.f l m = some () := by unfold prop_MakeN.f; rw [h]; rfl
end Go.Proofs.Ytcgbndojpcaboaa.Pure
end
section
/- The chapter's own example is right: Awake answers true. -/
namespace Go.Proofs.Ytcgbndojpcaboaa.Pure
open Go.RowKit Go.Proofs.YtcgbndojpcaboaaW.PrintWords Go.Proofs.Ytcgbndojpcaboaa.F

theorem map_zero (g : Nat → Int) (n : Nat) (h : ∀ j, j < n → g j = 0) : (List.range n).map g = List.replicate n 0 := by
 refine List.eq_replicate_iff.2 ⟨by rw [List.length_map, List.length_range], fun b hb => ?_⟩
 obtain ⟨j, hj, rfl⟩ := List.mem_map.1 hb
 exact h j (List.mem_range.1 hj)
theorem row_zero {l : List (Int × Int × Int)} {i : Nat} (h : ∀ j : Nat, j < 256 → ofR l ((i : Int) * 256 + (j : Int)) = 0) : rowR l i = zerosR := map_zero _ 256 h
theorem row_get {l : List (Int × Int × Int)} {i : Nat} (h : rowR l i = zerosR) (j : Nat) (hj : j < 256) : ofR l ((i : Int) * 256 + (j : Int)) = 0 := by
 have h1 : (rowR l i).getD j 0 = zerosR.getD j 0 := by rw [h]
 unfold rowR zerosR at h1
 rw [getD_map_range (fun (j : Nat) => ofR l ((i : Int) * 256 + (j : Int))) hj, List.getD_eq_getElem?_getD, List.getElem?_replicate, if_pos hj] at h1
 exact h1
theorem zero_mem (l : List (Int × Int × Int)) : ∀ i, zerosR ∈ blR l i
 | 0 => by simp [blR]
 | i + 1 => by
  unfold blR
  split
  ·exact zero_mem l i
  ·exact List.mem_append_left _ (zero_mem l i)
theorem blR_stay {l : List (Int × Int × Int)} (n : Nat) (h : ∀ i, n ≤ i → rowR l i = zerosR) : ∀ d, blR l (n + d) = blR l n
 | 0 => rfl
 | d + 1 => by
  show (if rowR l (n + d) ∈ blR l (n + d) then blR l (n + d) else blR l (n + d) ++ [rowR l (n + d)]) = _
  rw [h (n + d) (by omega), if_pos (zero_mem l _), blR_stay n h d]
theorem tabBl_stay {l : List (Int × Int × Int)} {n : Nat} (hn : n ≤ 4352) (h : ∀ i, n ≤ i → rowR l i = zerosR) : tabBl (some l) = ((blR l n).length : Int) := by
 have h1 := blR_stay n h (4352 - n)
 rw [Nat.add_sub_cancel' hn] at h1
 unfold tabBl
 show ((blR l 4352).length : Int) = _
 rw [h1]
theorem awk_z1 : ∀ i, 1 ≤ i → rowR [(48, 57, 1), (65, 90, 2)] i = zerosR := fun i hi => row_zero fun j hj => ofR_none _ (fun y hy => by
  rcases List.mem_cons.1 hy with rfl | hy
  ·show ¬ (48 ≤ (i : Int) * 256 + (j : Int) ∧ (i : Int) * 256 + (j : Int) ≤ 57); omega
  ·obtain rfl := List.mem_singleton.1 hy
   show ¬ (65 ≤ (i : Int) * 256 + (j : Int) ∧ (i : Int) * 256 + (j : Int) ≤ 90); omega)
theorem blR_one {l : List (Int × Int × Int)} (h : rowR l 0 ≠ zerosR) : (blR l 1).length = 2 := by
 have hn : ¬ rowR l 0 ∈ blR l 0 := fun h2 => h (List.mem_singleton.1 h2)
 have e1 : blR l 1 = blR l 0 ++ [rowR l 0] := if_neg hn
 rw [e1, List.length_append]
 rfl
theorem awk_hn : rowR [(48, 57, 1), (65, 90, 2)] 0 ≠ zerosR := by
 intro h
 have := row_get h 53 (by omega)
 exact absurd this (by decide)
theorem awk_b1 : tabBl (some [(48, 57, 1), (65, 90, 2)]) = 2 := by
 rw [tabBl_stay (n := 1) (by omega) awk_z1, blR_one awk_hn]
 rfl
theorem awk_b2 : tabBl (some []) = 1 := by
 rw [tabBl_stay (n := 0) (by omega) (fun i _ => row_zero fun j _ => rfl)]
 rfl
theorem awk_c1 : prop_Make.c [(⟨48, 57, 1⟩ : S33), (⟨65, 90, 2⟩ : S33)] 3 = true := by decide
theorem awk_c2 : prop_Make.c ([] : List S33) 1 = true := by decide
theorem awk_m1 : prop_MakeY.f [(⟨48, 57, 1⟩ : S33), (⟨65, 90, 2⟩ : S33)] 3 = some (some [(48, 57, 1), (65, 90, 2)]) := make_y awk_c1
theorem awk_m2 : prop_MakeY.f ([] : List S33) 1 = some (some []) := make_y awk_c2
theorem awk_e1 : prop_Table_Of.f (some [(48, 57, 1), (65, 90, 2)]) 53 = some 1 := rfl
theorem awk_e2 : prop_Table_Of.f (some [(48, 57, 1), (65, 90, 2)]) 64 = some 0 := rfl
theorem awk_e3 : prop_Table_Of.f (some [(48, 57, 1), (65, 90, 2)]) 65 = some 2 := rfl
theorem awk_e4 : prop_Table_Blocks.f (some [(48, 57, 1), (65, 90, 2)]) = some 2 := congrArg some awk_b1
theorem awk_e5 : prop_Table_Blocks.f (some []) = some 1 := congrArg some awk_b2
theorem awake02 : stanzalaw02_Awake.f = some true := by
 unfold stanzalaw02_Awake.f
 rw [Option.bind_some, if_pos awk_c1, awk_m1, Option.bind_some, if_pos awk_c2, awk_m2, Option.bind_some, awk_e1, Option.bind_some, if_pos rfl, awk_e2, Option.bind_some, if_pos rfl, awk_e3, Option.bind_some, if_pos rfl, awk_e4, Option.bind_some, if_pos rfl, awk_e5, Option.bind_some]
 rfl
end Go.Proofs.Ytcgbndojpcaboaa.Pure
end
section
/- Ranges made right (Right): a list that the check lets through. -/
namespace Go.Proofs.Ytcgbndojpcaboaa.Pure
open Go.RowKit Go.Proofs.YtcgbndojpcaboaaW.PrintWords Go.Proofs.Ytcgbndojpcaboaa.F

theorem right_lo {e : Int} (h1 : -1 ≤ e) (h2 : e ≤ 1114111) (a : Int) : wrap64 (wrap64 (e + 1) + a % 4294967296 % 3000) = e + 1 + a % 4294967296 % 3000 := by
 have : 0 ≤ a % 4294967296 % 3000 ∧ a % 4294967296 % 3000 < 3000 := by omega
 generalize a % 4294967296 % 3000 = q at this
 rw [w64 (x := e + 1) (by omega) (by omega), w64 (by omega) (by omega)]
theorem right_hi {e : Int} (h1 : -1 ≤ e) (h2 : e ≤ 1200000) (a : Int) : wrap64 (e + a % 4294967296 % 600) = e + a % 4294967296 % 600 := by
 have : 0 ≤ a % 4294967296 % 600 ∧ a % 4294967296 % 600 < 600 := by omega
 generalize a % 4294967296 % 600 = q at this
 exact w64 (by omega) (by omega)
theorem w32s {e : Int} (h1 : 0 ≤ e) (h2 : e ≤ 1200000) : wrap32 e = e := by unfold wrap32; omega
theorem right_step (l : List S33) {most : Int} (h1 : 1 ≤ most) (h2 : most ≤ 255) {i : Nat} (hlt : i < l.length) (hx : i < 200) (m : List S33) (hm : m.length ≤ 200) {e : Int} (he1 : -1 ≤ e) (he2 : e ≤ 1114111) {p q t : Int}
  (hp : p = e + 1 + (l[i]).f0 % 4294967296 % 3000) (hq : q = p + (l[i]).f1 % 4294967296 % 600) (ht : t = ((l[i]).f2 % 18446744073709551616) % most) {r : List S33}
  (H : if q > 1114111 then r = m else Ev (fun k => stanzalaw02_Right.l0 k l most (m ++ [(⟨p, q, t⟩ : S33)]) q ((i + 1 : Nat) : Int)) r) :
  Ev (fun k => stanzalaw02_Right.l0 k l most m e (i : Int)) r := by
 have hp1 : -1 ≤ p ∧ p ≤ 1120000 := by omega
 have hq1 : 0 ≤ q ∧ q ≤ 1200000 := by omega
 have hp2 : 0 ≤ p := by omega
 have hne : IntKind.u64.wrap most ≠ 0 := by
  have hw : IntKind.u64.wrap most = most % 18446744073709551616 := by simp [IntKind.wrap, IntKind.signed, IntKind.bits]
  rw [hw]; omega
 have b1 : decide ((i : Int) < 200) = true := decide_eq_true (by omega)
 refine Ev.step (fun k => by unfold stanzalaw02_Right.l0; rfl) (ev_pos (by omega) ?_)
 rw [b1]
 refine Ev.step (fun k => by unfold stanzalaw02_Right.j1; rfl) (ev_pos rfl (ev_pos (by omega) (ev_pos (by omega) ?_)))
 rw [rd_range l i hlt, right_lo he1 he2, ← hp, right_hi (by omega) (by omega), ← hq, w32s hp2 (by omega), w32s hq1.1 hq1.2, u64mod (by omega) (by omega), ← ht]
 rw [w64 (x := (i : Int) + 1) (by omega) (by omega)]
 by_cases hb : q > 1114111
 ·rw [if_pos hb] at H
  subst H
  exact ev_pos hb (Ev.now _)
 ·rw [if_neg hb] at H
  exact ev_neg hb (ev_neg hne (ev_pos (by omega) H))
theorem right_loop (l : List S33) (hl : (l.length : Int) * 16 ≤ 140737488351232) (most : Int) (h1 : 1 ≤ most) (h2 : most ≤ 255) : ∀ (d i : Nat) (m : List S33) (e : Int), i + d = l.length → m.length ≤ i → m.length ≤ 200 → (i ≤ 200) → chkGo most (-1) (m.map prop_Make.t) = true → e = endOf (m.map prop_Make.t) → -1 ≤ e → e ≤ 1114111 →
  ∃ r, Ev (fun k => stanzalaw02_Right.l0 k l most m e (i : Int)) r ∧ chkGo most (-1) (r.map prop_Make.t) = true ∧ r.length ≤ 200 := by
 intro d
 induction d with
 | zero =>
  intro i m e hi hm1 hm2 hi2 hc he he1 he2
  refine ⟨m, Ev.step (fun k => by unfold stanzalaw02_Right.l0; rfl) (ev_neg (by omega) (Ev.step (fun k => by unfold stanzalaw02_Right.j1; rfl) (ev_neg (by decide) (Ev.now _)))), hc, hm2⟩
 | succ d ih =>
  intro i m e hi hm1 hm2 hi2 hc he he1 he2
  have hlt : i < l.length := by omega
  by_cases hx : i < 200
  ·obtain ⟨p, hp⟩ : ∃ p, p = e + 1 + (l[i]).f0 % 4294967296 % 3000 := ⟨_, rfl⟩
   obtain ⟨q, hq⟩ : ∃ q, q = p + (l[i]).f1 % 4294967296 % 600 := ⟨_, rfl⟩
   obtain ⟨t, ht⟩ : ∃ t, t = ((l[i]).f2 % 18446744073709551616) % most := ⟨_, rfl⟩
   have hp1 : e < p := by omega
   have hq1 : p ≤ q := by omega
   have ht1 : 0 ≤ t := by rw [ht]; exact Int.emod_nonneg _ (by omega)
   have ht2 : t < most := by rw [ht]; exact Int.emod_lt_of_pos _ (by omega)
   have step := fun {r} => right_step l h1 h2 hlt hx m hm2 he1 he2 hp hq ht (r := r)
   clear hp hq ht
   by_cases hb : q > 1114111
   ·exact ⟨m, step (by rw [if_pos hb]), hc, hm2⟩
   ·obtain ⟨r, hr, hrc, hrl⟩ := ih (i + 1) (m ++ [(⟨p, q, t⟩ : S33)]) q (by omega)
     (by rw [List.length_append]; exact Nat.succ_le_succ hm1) (by rw [List.length_append, List.length_singleton]; omega) (by omega)
     (by rw [List.map_append]; exact chkGo_snoc _ _ _ hc (show endOf (m.map prop_Make.t) < _ by rw [← he]; exact hp1) hq1 (show q ≤ 1114111 by omega) ht1 ht2 (show t ≤ 255 by omega))
     (by unfold endOf; rw [List.map_append, List.map_singleton, List.getLast?_concat]; rfl) (by omega) (by omega)
    exact ⟨r, step (by rw [if_neg hb]; exact hr), hrc, hrl⟩
  ·have b1 : decide ((i : Int) < 200) = false := decide_eq_false (by omega)
   refine ⟨m, Ev.step (fun k => by unfold stanzalaw02_Right.l0; rfl) (ev_pos (by omega) ?_), hc, hm2⟩
   rw [b1]
   exact Ev.step (fun k => by unfold stanzalaw02_Right.j1; rfl) (ev_neg (by decide) (Ev.now _))
theorem right_ok (l : List S33) (hl : (l.length : Int) * 16 ≤ 140737488351232) (most : Int) (h1 : 1 ≤ most) (h2 : most ≤ 255) : ∃ r, Ev (fun k => stanzalaw02_Right.f k l most) r ∧ chkGo most (-1) (r.map prop_Make.t) = true ∧ r.length ≤ 200 ∧ prop_Make.c r most = true := by
 obtain ⟨r, hr, hc, hn⟩ := right_loop l hl most h1 h2 l.length 0 [] (-1) (by omega) (by simp) (by simp) (by omega) rfl rfl (by omega) (by omega)
 refine ⟨r, ?_, hc, hn, ?_⟩
 ·unfold stanzalaw02_Right.f
  exact hr
 ·unfold prop_Make.c chkR
  rw [List.length_map, if_neg (by omega)]
  exact hc
end Go.Proofs.Ytcgbndojpcaboaa.Pure
end
section
/- A row filled place by place out of another. -/
namespace Go.Proofs.Ytcgbndojpcaboaa.Pure
open Go.RowKit Go.Proofs.YtcgbndojpcaboaaW.PrintWords Go.Proofs.Ytcgbndojpcaboaa.F

theorem set_next (ys : List Int) (d : Nat) (v : Int) {i : Nat} (h : ys.length = i) : (ys ++ List.replicate (d + 1) 0).set i v = (ys ++ [v]) ++ List.replicate d 0 := by
 rw [List.set_append_right _ _ (by omega), h, Nat.sub_self, List.replicate_succ, List.set_cons_zero, List.append_assoc]
 rfl
theorem rd_cluster (xs : List S45) (i : Nat) (h : i < xs.length) : rd_T45 xs (i : Int) = xs[i] := by
 unfold rd_T45
 rw [List.getD_eq_getElem?_getD, Int.toNat_natCast, List.getElem?_eq_getElem h]
 rfl
theorem take_map_succ {xs : List S45} {i : Nat} (h : i < xs.length) (g : S45 → Int) : (xs.take i).map g ++ [g xs[i]] = (xs.take (i + 1)).map g := by
 rw [List.take_add_one, List.map_append, List.getElem?_eq_getElem h]
 rfl
theorem each_loop (t : Option (List (Int × Int × Int))) (xs : List S45) (hn : xs.length ≤ 1000000000000) : ∀ (d i : Nat), i + d = xs.length →
  Ev (fun k => prop_Table_Each.l0 k t ((xs.take i).map (fun c => tabOf t c.f0) ++ List.replicate d 0) xs (xs.length : Int) (i : Int)) (xs.map fun c => tabOf t c.f0) := by
 intro d
 induction d with
 | zero =>
  intro i hi
  refine Ev.step (fun k => by unfold prop_Table_Each.l0; rfl) (ev_neg (by omega) (ev_ret ?_))
  rw [List.take_of_length_le (by omega), List.replicate_zero, List.append_nil]
 | succ d ih =>
  intro i hi
  have hlt : i < xs.length := by omega
  refine Ev.step (fun k => by unfold prop_Table_Each.l0; rfl) (ev_pos (by omega) (ev_pos (by omega) (ev_pos (by omega) (ev_bind' rfl (ev_pos ?_ ?_)))))
  ·rw [List.length_append, List.length_map, List.length_take, List.length_replicate]; omega
  ·rw [rd_cluster xs i hlt, Int.toNat_natCast, set_next _ d _ (by rw [List.length_map, List.length_take]; omega), take_map_succ hlt (fun c => tabOf t c.f0), w64 (by omega) (by omega)]
   exact ih (i + 1) (by omega)
theorem each_ok (t : Option (List (Int × Int × Int))) (xs : List S45) (hn : xs.length ≤ 1000000000000) : Ev (fun k => prop_Table_Each.f k t xs) (xs.map fun c => tabOf t c.f0) := by
 unfold prop_Table_Each.f
 refine ev_pos (by omega) (ev_pos (by omega) ?_)
 rw [Int.toNat_natCast]
 exact each_loop t xs hn xs.length 0 (by omega)
theorem reach_loop (l : List S33) (hl : l.length ≤ 100000) {most last : Int} (hc : chkGo most last (l.map prop_Make.t) = true) (xs : List S45) (hn : xs.length ≤ 1000000000000) : ∀ (d i : Nat), i + d = xs.length →
  Ev (fun k => stanzaref01_Each.l0 k l xs ((xs.take i).map (fun c => ofR (l.map prop_Make.t) c.f0) ++ List.replicate d 0) (i : Int)) (xs.map fun c => ofR (l.map prop_Make.t) c.f0) := by
 intro d
 induction d with
 | zero =>
  intro i hi
  refine Ev.step (fun k => by unfold stanzaref01_Each.l0; rfl) (ev_neg (by omega) (ev_ret ?_))
  rw [List.take_of_length_le (by omega), List.replicate_zero, List.append_nil]
 | succ d ih =>
  intro i hi
  have hlt : i < xs.length := by omega
  refine Ev.step (fun k => by unfold stanzaref01_Each.l0; rfl) (ev_pos (by omega) (ev_pos (by omega) (ev_bind (of_ref l hl hc _) (ev_pos ?_ ?_))))
  ·rw [List.length_append, List.length_map, List.length_take, List.length_replicate]; omega
  ·rw [rd_cluster xs i hlt, Int.toNat_natCast, set_next _ d _ (by rw [List.length_map, List.length_take]; omega), take_map_succ hlt (fun c => ofR (l.map prop_Make.t) c.f0), w64 (by omega) (by omega)]
   exact ih (i + 1) (by omega)
theorem reach_ok (l : List S33) (hl : l.length ≤ 100000) {most last : Int} (hc : chkGo most last (l.map prop_Make.t) = true) (xs : List S45) (hn : xs.length ≤ 1000000000000) : Ev (fun k => stanzaref01_Each.f k l xs) (xs.map fun c => ofR (l.map prop_Make.t) c.f0) := by
 unfold stanzaref01_Each.f
 refine ev_pos (by omega) (ev_pos (by omega) ?_)
 rw [Int.toNat_natCast]
 exact reach_loop l hl hc xs hn xs.length 0 (by omega)
end Go.Proofs.Ytcgbndojpcaboaa.Pure
end
section
/- SameInts comes to the equality of lists. -/
namespace Go.Proofs.Ytcgbndojpcaboaa.Pure
open Go.RowKit Go.Proofs.YtcgbndojpcaboaaW.PrintWords Go.Proofs.Ytcgbndojpcaboaa.F
theorem same_loop (a b : List Int) (hl : a.length = b.length) (hm : (a.length : Int) ≤ 9223372036854775806) : ∀ (d i : Nat), i + d = a.length → (∀ j, j < i → a.getD j 0 = b.getD j 0) →
  Ev (fun k => stanzaref01_SameInts.l0 k a b (i : Int)) (decide (a = b)) := by
 intro d
 induction d with
 | zero =>
  intro i hi hs
  refine Ev.step (fun k => by unfold stanzaref01_SameInts.l0; rfl) (ev_neg (by omega) (ev_ret ?_))
  have hab : a = b := by
   refine List.ext_getElem hl (fun j h1 h2 => ?_)
   have := hs j (by omega)
   rwa [List.getD_eq_getElem?_getD, List.getD_eq_getElem?_getD, List.getElem?_eq_getElem h1, List.getElem?_eq_getElem h2] at this
  simp [hab]
 | succ d ih =>
  intro i hi hs
  refine Ev.step (fun k => by unfold stanzaref01_SameInts.l0; rfl) (ev_pos (by omega) (ev_pos (by omega) (ev_pos (by omega) ?_)))
  rw [rd_nat, rd_nat]
  by_cases he : a.getD i 0 = b.getD i 0
  ·refine ev_pos he ?_
   rw [show wrap64 ((i : Int) + 1) = ((i + 1 : Nat) : Int) from by rw [w64 (by omega) (by omega)]; rfl]
   refine ih (i + 1) (by omega) (fun j hj => ?_)
   rcases Nat.lt_succ_iff_lt_or_eq.1 hj with h | h
   ·exact hs j h
   ·exact h ▸ he
  ·refine ev_neg he (ev_ret ?_)
   have : a ≠ b := fun h => he (by rw [h])
   simp [this]
theorem same_ints (a b : List Int) (hm : (a.length : Int) ≤ 9223372036854775806) : Ev (fun k => stanzaref01_SameInts.f k a b) (decide (a = b)) := by
 unfold stanzaref01_SameInts.f
 by_cases hl : a.length = b.length
 ·exact ev_pos (by omega) (same_loop a b hl hm a.length 0 (by omega) (fun j hj => by omega))
 ·refine ev_neg (by omega) (ev_ret ?_)
  have : a ≠ b := fun h => hl (by rw [h])
  simp [this]

end Go.Proofs.Ytcgbndojpcaboaa.Pure
end
section
/- PropEach, plain: Each is Of at every place; no table gives noughts. -/
namespace Go.Proofs.Ytcgbndojpcaboaa.Pure
open Go.RowKit Go.Proofs.YtcgbndojpcaboaaW.PrintWords Go.Proofs.Ytcgbndojpcaboaa.F

theorem PropEach.zeros (n : Nat) (hn : n ≤ 100000) : ∀ (d i : Nat), i + d = n → Ev (fun k => stanzalaw02_PropEach.l1 k (List.replicate n 0) (n : Int) (i : Int)) true := by
 intro d
 induction d with
 | zero => exact fun i hi => Ev.step (fun k => by unfold stanzalaw02_PropEach.l1; rfl) (ev_neg (by omega) (ev_ret rfl))
 | succ d ih =>
  intro i hi
  refine Ev.step (fun k => by unfold stanzalaw02_PropEach.l1; rfl) (ev_pos (by omega) (ev_pos (by omega) (ev_pos (by rw [List.length_replicate]; omega) (ev_pos ?_ ?_))))
  ·rw [rd_nat, List.getD_eq_getElem?_getD, List.getElem?_replicate]
   split <;> rfl
  ·rw [w64 (by omega) (by omega)]
   exact ih (i + 1) (by omega)
def eachG (rs : List Int) (i : Nat) : S45 := ⟨rd rs (i : Int), (i : Int), 1⟩
theorem PropEach.l0 (r : List S33) (hl : r.length ≤ 200) (hc : chkGo 9 (-1) (r.map prop_Make.t) = true) (rs : List Int) (hn : rs.length ≤ 1000) : ∀ (d i : Nat), i + d = rs.length →
  Ev (fun k => stanzalaw02_PropEach.l0 k r (some (r.map prop_Make.t)) 0 ((List.range i).map (eachG rs)) rs (rs.length : Int) (i : Int)) true := by
 intro d
 induction d with
 | zero =>
  intro i hi
  obtain rfl : i = rs.length := by omega
  refine Ev.step (fun k => by unfold stanzalaw02_PropEach.l0; rfl) (ev_neg (by omega) ?_)
  have hxl : ((List.range rs.length).map (eachG rs)).length = rs.length := by rw [List.length_map, List.length_range]
  generalize (List.range rs.length).map (eachG rs) = xs at hxl
  have e1 := each_ok (some (r.map prop_Make.t)) xs (by omega)
  have e2 := each_ok none xs (by omega)
  have e3 := reach_ok r (by omega) hc xs (by omega)
  rw [show (xs.map fun c => tabOf (some (r.map prop_Make.t)) c.f0) = xs.map fun c => ofR (r.map prop_Make.t) c.f0 from List.map_congr_left fun c _ => tabOf_eq hc _] at e1
  rw [show (xs.map fun c => tabOf none c.f0) = List.replicate xs.length 0 from List.eq_replicate_iff.2 ⟨List.length_map _, fun b hb => by obtain ⟨c, _, rfl⟩ := List.mem_map.1 hb; rfl⟩] at e2
  refine ev_bind e1 (ev_bind e2 (ev_pos rfl (ev_bind e3 (ev_bind (same_ints _ _ (by rw [List.length_map]; omega)) ?_))))
  refine ev_pos (by simp) (ev_pos (by rw [List.length_replicate]) (ev_bind' rfl (ev_pos rfl (ev_bind' rfl ?_))))
  refine Ev.step (fun k => by unfold stanzalaw02_PropEach.j1; rfl) (ev_neg (by decide) ?_)
  rw [List.length_replicate]
  exact PropEach.zeros xs.length (by omega) xs.length 0 (by omega)
 | succ d ih =>
  intro i hi
  refine Ev.step (fun k => by unfold stanzalaw02_PropEach.l0; rfl) (ev_pos (by omega) (ev_pos (by omega) (ev_pos (by omega) (ev_pos (by rw [List.length_map, List.length_range]; omega) ?_))))
  rw [show (List.range i).map (eachG rs) ++ [(⟨rd rs (i : Int), (i : Int), 1⟩ : S45)] = (List.range (i + 1)).map (eachG rs) by rw [List.range_succ, List.map_append]; rfl, w64 (by omega) (by omega)]
  exact ih (i + 1) (by omega)
theorem PropEach : stanzalaw02_PropEach.Pure := by
 intro l0 l1 h0 h1
 obtain ⟨r, hr, hc, hn, hm⟩ := right_ok l0 (by have := h0.1; omega) 9 (by decide) (by decide)
 have : Ev (fun k => stanzalaw02_PropEach.f k l0 l1) true := by
  unfold stanzalaw02_PropEach.f
  refine ev_bind' awake02 (ev_pos rfl ?_)
  by_cases hl : (l1.length : Int) > 1000
  ·exact ev_pos hl (Ev.now _)
  refine ev_neg hl (ev_bind hr (ev_pos hm (ev_bind' (make_y hm) ?_)))
  exact PropEach.l0 r hn hc l1 (by omega) l1.length 0 (by omega)
 obtain ⟨k, hk⟩ := this
 exact ⟨k, hk k (Nat.le_refl k)⟩
end Go.Proofs.Ytcgbndojpcaboaa.Pure
end
