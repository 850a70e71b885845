/- Plain proofs: what the printed functions compute. -/
import Derived.Test.YtcgbndojpcaboaaXPropLimits0
import Derived.WalkKit
import Derived.Test.YtcgbndojpcaboaaVPropLimits0
section
/- Helpers of the plain proofs: eventual values (Ev), wrapped numbers, lists. -/
namespace Go.Proofs.Ytcgbndojpcaboaa.Pure
open Go.RowKit Go.Proofs.YtcgbndojpcaboaaW.PrintWords

theorem ev_pos {α : Type} {c : Prop} [Decidable c] {a b : Nat → Option α} {r : α} (h : c) (H : Ev a r) : Ev (fun k => if c then a k else b k) r := by simpa [h] using H
theorem ev_neg {α : Type} {c : Prop} [Decidable c] {a b : Nat → Option α} {r : α} (h : ¬ c) (H : Ev b r) : Ev (fun k => if c then a k else b k) r := by simpa [h] using H
theorem ev_eq {α : Type} {o : Option α} {r : α} (h : o = some r) : Ev (fun _ => o) r := by subst h; exact Ev.now _
theorem ev_ret {α : Type} {x r : α} (h : x = r) : Ev (fun _ => some x) r := by subst h; exact Ev.now _
theorem ev_bind {α β : Type} {g : Nat → Option α} {f : Nat → α → Option β} {a : α} {r : β} (h : Ev g a) (k : Ev (fun n => f n a) r) : Ev (fun n => (g n).bind (f n)) r := Ev.bind h k
theorem ev_bind' {α β : Type} {o : Option α} {f : Nat → α → Option β} {a : α} {r : β} (h : o = some a) (k : Ev (fun n => f n a) r) : Ev (fun n => o.bind (f n)) r := by subst h; exact k
theorem ev_let {α β : Type} {a : α} {f : Nat → α → Option β} {r : β} (k : Ev (fun n => f n a) r) : Ev (fun n => (some a).bind (f n)) r := k
theorem ev_uniq {α : Type} {g : Nat → Option α} {a b : α} (h : Ev g a) (k : Ev g b) : a = b := by
 obtain ⟨m, hm⟩ := h
 obtain ⟨n, hn⟩ := k
 have h1 := hm (max m n) (Nat.le_max_left _ _)
 have h2 := hn (max m n) (Nat.le_max_right _ _)
 exact Option.some.inj (h1.symm.trans h2)

theorem w64 {x : Int} (h1 : -9223372036854775808 ≤ x) (h2 : x ≤ 9223372036854775807) : wrap64 x = x := by unfold wrap64; omega
theorem tmodp {a b : Int} (h : 0 ≤ a) : Int.tmod a b = a % b := Int.tmod_eq_emod_of_nonneg h
theorem tdivp {a b : Int} (h : 0 ≤ a) : Int.tdiv a b = a / b := Int.tdiv_eq_ediv_of_nonneg h
theorem wfu8 {x : Int} : (Lit.int .u8 x).wf = true ↔ 0 ≤ x ∧ x ≤ 255 := by simp [Lit.wf, IntKind.min, IntKind.max, IntKind.signed, IntKind.bits]
theorem wfu16 {x : Int} : (Lit.int .u16 x).wf = true ↔ 0 ≤ x ∧ x ≤ 65535 := by simp [Lit.wf, IntKind.min, IntKind.max, IntKind.signed, IntKind.bits]
theorem wfu32 {x : Int} : (Lit.int .u32 x).wf = true ↔ 0 ≤ x ∧ x ≤ 4294967295 := by simp [Lit.wf, IntKind.min, IntKind.max, IntKind.signed, IntKind.bits]
theorem wfi64 {x : Int} : (Lit.int .i64 x).wf = true ↔ -9223372036854775808 ≤ x ∧ x ≤ 9223372036854775807 := by simp [Lit.wf, IntKind.min, IntKind.max, IntKind.signed, IntKind.bits]
theorem wfi32 {x : Int} : (Lit.int .i32 x).wf = true ↔ -2147483648 ≤ x ∧ x ≤ 2147483647 := by simp [Lit.wf, IntKind.min, IntKind.max, IntKind.signed, IntKind.bits]
theorem u64mod {x n : Int} (h1 : 0 < n) (h2 : n ≤ 9223372036854775807) : wrap64 (Int.tmod (IntKind.u64.wrap x) (IntKind.u64.wrap n)) = (x % 18446744073709551616) % n := by
 have hw : ∀ y, IntKind.u64.wrap y = y % 18446744073709551616 := fun y => by simp [IntKind.wrap, IntKind.signed, IntKind.bits]
 rw [hw, hw, Int.emod_eq_of_lt (by omega) (by omega : n < 18446744073709551616), tmodp (by omega)]
 have h3 := Int.emod_nonneg (x % 18446744073709551616) (by omega : n ≠ 0)
 have h4 := Int.emod_lt_of_pos (x % 18446744073709551616) h1
 exact w64 (by omega) (by omega)

theorem rd_nat (xs : List Int) (n : Nat) : rd xs (n : Int) = xs.getD n 0 := rfl
theorem getD_map_range (g : Nat → Int) {n i : Nat} (h : i < n) : ((List.range n).map g).getD i 0 = g i := by
 rw [List.getD_eq_getElem?_getD, List.getElem?_map, List.getElem?_range h]; rfl
theorem rd_map_range (g : Nat → Int) {n i : Nat} (h : i < n) : rd ((List.range n).map g) (i : Int) = g i := getD_map_range g h
theorem map_range_snoc {α : Type} (g : Nat → α) (n : Nat) : (List.range n).map g ++ [g n] = (List.range (n + 1)).map g := by
 rw [List.range_succ, List.map_append]; rfl
theorem mod3 (x : Int) : 0 ≤ x % 3 ∧ x % 3 ≤ 2 := by omega
theorem mod4 (x : Int) : 0 ≤ x % 4 ∧ x % 4 ≤ 3 := by omega
end Go.Proofs.Ytcgbndojpcaboaa.Pure
end
section
/- What tables of ranges hold: the document's answer (Of), when a list is right; no condition but that lengths fit. -/
namespace Go.Proofs.Ytcgbndojpcaboaa.Pure
open Go.RowKit Go.Proofs.YtcgbndojpcaboaaW.PrintWords Go.Proofs.Ytcgbndojpcaboaa.F

theorem rd_range (xs : List S33) (i : Nat) (h : i < xs.length) : rd_T33 xs (i : Int) = xs[i] := by
 unfold rd_T33
 rw [List.getD_eq_getElem?_getD, Int.toNat_natCast, List.getElem?_eq_getElem h]
 rfl
theorem ofR_stay (l : List (Int × Int × Int)) (r a : Int) (h : ∀ y ∈ l, ¬ (y.1 ≤ r ∧ r ≤ y.2.1)) : l.foldl (fun a y => if y.1 ≤ r ∧ r ≤ y.2.1 then y.2.2 else a) a = a := by
 induction l with
 | nil => rfl
 | cons x l ih => rw [List.foldl_cons, if_neg (h x (by simp)), ih (fun y hy => h y (by simp [hy]))]
theorem ofR_cons {most last : Int} {x : Int × Int × Int} {l : List (Int × Int × Int)} (h : chkGo most last (x :: l) = true) (r : Int) : ofR (x :: l) r = if x.1 ≤ r ∧ r ≤ x.2.1 then x.2.2 else ofR l r := by
 have h2 : chkGo most x.2.1 l = true := by
  unfold chkGo at h
  split at h
  ·cases h
  ·exact h
 show List.foldl _ _ _ = _
 rw [List.foldl_cons]
 by_cases hc : x.1 ≤ r ∧ r ≤ x.2.1
 ·rw [if_pos hc, if_pos hc]
  refine ofR_stay l r _ (fun y hy => ?_)
  obtain ⟨m, hm⟩ := List.mem_iff_getElem?.1 hy
  have := chkGo_get h2 m y hm
  omega
 ·rw [if_neg hc, if_neg hc]
  rfl
theorem chkGo_tail {most last : Int} {x : Int × Int × Int} {l : List (Int × Int × Int)} (h : chkGo most last (x :: l) = true) : chkGo most x.2.1 l = true := by
 unfold chkGo at h
 split at h
 ·cases h
 ·exact h
theorem of_loop (l : List S33) (hn : l.length ≤ 100000) (r most : Int) : ∀ (d i : Nat) (last : Int), i + d = l.length → chkGo most last ((l.drop i).map prop_Make.t) = true →
  Ev (fun k => stanzaref01_Of.l0 k l r (i : Int)) (ofR ((l.drop i).map prop_Make.t) r) := by
 intro d
 induction d with
 | zero =>
  intro i last hi hc
  refine Ev.step (fun k => by unfold stanzaref01_Of.l0; rfl) (ev_neg (by omega) (ev_ret ?_))
  rw [List.drop_eq_nil_of_le (by omega)]
  rfl
 | succ d ih =>
  intro i last hi hc
  have hlt : i < l.length := by omega
  rw [List.drop_eq_getElem_cons hlt, List.map_cons] at hc ⊢
  rw [ofR_cons hc]
  have hi2 := ih (i + 1) _ (by omega) (chkGo_tail hc)
  have hw : wrap64 ((i : Int) + 1) = ((i + 1 : Nat) : Int) := by rw [w64 (by omega) (by omega)]; rfl
  refine Ev.step (fun k => by unfold stanzaref01_Of.l0; rfl) (ev_pos (by omega) (ev_pos (by omega) ?_))
  rw [rd_range l i hlt, hw]
  show Ev _ (if (l[i]).f0 ≤ r ∧ r ≤ (l[i]).f1 then (l[i]).f2 else _)
  by_cases h1 : (l[i]).f0 ≤ r
  ·refine ev_pos h1 ?_
   by_cases h2 : r ≤ (l[i]).f1
   ·rw [if_pos ⟨h1, h2⟩]; exact ev_pos h2 (Ev.now _)
   ·rw [if_neg (fun h => h2 h.2)]; exact ev_neg h2 hi2
  ·rw [if_neg (fun h => h1 h.1)]; exact ev_neg h1 hi2
theorem of_ref (l : List S33) (hn : l.length ≤ 100000) {most last : Int} (hc : chkGo most last (l.map prop_Make.t) = true) (r : Int) : Ev (fun k => stanzaref01_Of.f k l r) (ofR (l.map prop_Make.t) r) := by
 unfold stanzaref01_Of.f
 have := of_loop l hn r most l.length 0 last (by omega) (by simpa using hc)
 simpa using this
theorem tabOf_eq {l : List (Int × Int × Int)} {most : Int} (hc : chkGo most (-1) l = true) (r : Int) : tabOf (some l) r = ofR l r := by
 show (if r < 0 ∨ r > 1114111 then 0 else ofR l r) = _
 by_cases h : r < 0 ∨ r > 1114111
 ·rw [if_pos h]
  refine (ofR_none r (fun y hy => ?_)).symm
  obtain ⟨m, hm⟩ := List.mem_iff_getElem?.1 hy
  have := chkGo_get hc m y hm
  omega
 ·rw [if_neg h]

/-! ### ranges made right -/
/-- Where a right list ends. -/
def endOf (l : List (Int × Int × Int)) : Int := match l.getLast? with
 | none => -1
 | some y => y.2.1
theorem chkGo_snoc {most : Int} : ∀ (l : List (Int × Int × Int)) (last : Int) (x : Int × Int × Int), chkGo most last l = true → (match l.getLast? with | none => last | some y => y.2.1) < x.1 → x.1 ≤ x.2.1 → x.2.1 ≤ 1114111 → 0 ≤ x.2.2 → x.2.2 < most → x.2.2 ≤ 255 → chkGo most last (l ++ [x]) = true
 | [], last, x, _, h1, h2, h3, h4, h5, h6 => by
  simp only [List.getLast?_nil] at h1
  show (if x.1 ≤ last ∨ x.2.1 < x.1 ∨ x.2.1 > 1114111 ∨ x.2.2 < 0 ∨ x.2.2 ≥ most ∨ x.2.2 > 255 then false else chkGo most x.2.1 []) = true
  rw [if_neg (by omega)]
  rfl
 | y :: l, last, x, h, h1, h2, h3, h4, h5, h6 => by
  have h' := h
  unfold chkGo at h
  split at h
  ·cases h
  ·rename_i hy
   rw [List.cons_append]
   unfold chkGo
   rw [if_neg hy]
   refine chkGo_snoc l y.2.1 x h ?_ h2 h3 h4 h5 h6
   cases l with
   | nil => simpa using h1
   | cons z l => rw [List.getLast?_cons_cons] at h1; cases hq : (z :: l).getLast? with
    | none => simp at hq
    | some q => rw [hq] at h1; exact h1
theorem make_y {l : List S33} {m : Int} (h : prop_Make.c l m = true) : prop_MakeY.f l m = some (some (l.map prop_Make.t)) := by unfold prop_MakeY.f; rw [if_pos h]
theorem make_n {l : List S33} {m : Int} (h : prop_Make.c l m = false) : prop_MakeN.f l m = some () := by unfold prop_MakeN.f; rw [h]; rfl
end Go.Proofs.Ytcgbndojpcaboaa.Pure
end
section
/- The chapter's own example is right: Awake answers true. -/
namespace Go.Proofs.Ytcgbndojpcaboaa.Pure
open Go.RowKit Go.Proofs.YtcgbndojpcaboaaW.PrintWords Go.Proofs.Ytcgbndojpcaboaa.F

theorem map_zero (g : Nat → Int) (n : Nat) (h : ∀ j, j < n → g j = 0) : (List.range n).map g = List.replicate n 0 := by
 refine List.eq_replicate_iff.2 ⟨by rw [List.length_map, List.length_range], fun b hb => ?_⟩
 obtain ⟨j, hj, rfl⟩ := List.mem_map.1 hb
 exact h j (List.mem_range.1 hj)
theorem row_zero {l : List (Int × Int × Int)} {i : Nat} (h : ∀ j : Nat, j < 256 → ofR l ((i : Int) * 256 + (j : Int)) = 0) : rowR l i = zerosR := map_zero _ 256 h
theorem row_get {l : List (Int × Int × Int)} {i : Nat} (h : rowR l i = zerosR) (j : Nat) (hj : j < 256) : ofR l ((i : Int) * 256 + (j : Int)) = 0 := by
 have h1 : (rowR l i).getD j 0 = zerosR.getD j 0 := by rw [h]
 unfold rowR zerosR at h1
 rw [getD_map_range (fun (j : Nat) => ofR l ((i : Int) * 256 + (j : Int))) hj, List.getD_eq_getElem?_getD, List.getElem?_replicate, if_pos hj] at h1
 exact h1
theorem zero_mem (l : List (Int × Int × Int)) : ∀ i, zerosR ∈ blR l i
 | 0 => by simp [blR]
 | i + 1 => by
  unfold blR
  split
  ·exact zero_mem l i
  ·exact List.mem_append_left _ (zero_mem l i)
theorem blR_stay {l : List (Int × Int × Int)} (n : Nat) (h : ∀ i, n ≤ i → rowR l i = zerosR) : ∀ d, blR l (n + d) = blR l n
 | 0 => rfl
 | d + 1 => by
  show (if rowR l (n + d) ∈ blR l (n + d) then blR l (n + d) else blR l (n + d) ++ [rowR l (n + d)]) = _
  rw [h (n + d) (by omega), if_pos (zero_mem l _), blR_stay n h d]
theorem tabBl_stay {l : List (Int × Int × Int)} {n : Nat} (hn : n ≤ 4352) (h : ∀ i, n ≤ i → rowR l i = zerosR) : tabBl (some l) = ((blR l n).length : Int) := by
 have h1 := blR_stay n h (4352 - n)
 rw [Nat.add_sub_cancel' hn] at h1
 unfold tabBl
 show ((blR l 4352).length : Int) = _
 rw [h1]
theorem awk_z1 : ∀ i, 1 ≤ i → rowR [(48, 57, 1), (65, 90, 2)] i = zerosR := fun i hi => row_zero fun j hj => ofR_none _ (fun y hy => by
  rcases List.mem_cons.1 hy with rfl | hy
  ·show ¬ (48 ≤ (i : Int) * 256 + (j : Int) ∧ (i : Int) * 256 + (j : Int) ≤ 57); omega
  ·obtain rfl := List.mem_singleton.1 hy
   show ¬ (65 ≤ (i : Int) * 256 + (j : Int) ∧ (i : Int) * 256 + (j : Int) ≤ 90); omega)
theorem blR_one {l : List (Int × Int × Int)} (h : rowR l 0 ≠ zerosR) : (blR l 1).length = 2 := by
 have hn : ¬ rowR l 0 ∈ blR l 0 := fun h2 => h (List.mem_singleton.1 h2)
 have e1 : blR l 1 = blR l 0 ++ [rowR l 0] := if_neg hn
 rw [e1, List.length_append]
 rfl
theorem awk_hn : rowR [(48, 57, 1), (65, 90, 2)] 0 ≠ zerosR := by
 intro h
 have := row_get h 53 (by omega)
 exact absurd this (by decide)
theorem awk_b1 : tabBl (some [(48, 57, 1), (65, 90, 2)]) = 2 := by
 rw [tabBl_stay (n := 1) (by omega) awk_z1, blR_one awk_hn]
 rfl
theorem awk_b2 : tabBl (some []) = 1 := by
 rw [tabBl_stay (n := 0) (by omega) (fun i _ => row_zero fun j _ => rfl)]
 rfl
theorem awk_c1 : prop_Make.c [(⟨48, 57, 1⟩ : S33), (⟨65, 90, 2⟩ : S33)] 3 = true := by decide
theorem awk_c2 : prop_Make.c ([] : List S33) 1 = true := by decide
theorem awk_m1 : prop_MakeY.f [(⟨48, 57, 1⟩ : S33), (⟨65, 90, 2⟩ : S33)] 3 = some (some [(48, 57, 1), (65, 90, 2)]) := make_y awk_c1
theorem awk_m2 : prop_MakeY.f ([] : List S33) 1 = some (some []) := make_y awk_c2
theorem awk_e1 : prop_Table_Of.f (some [(48, 57, 1), (65, 90, 2)]) 53 = some 1 := rfl
theorem awk_e2 : prop_Table_Of.f (some [(48, 57, 1), (65, 90, 2)]) 64 = some 0 := rfl
theorem awk_e3 : prop_Table_Of.f (some [(48, 57, 1), (65, 90, 2)]) 65 = some 2 := rfl
theorem awk_e4 : prop_Table_Blocks.f (some [(48, 57, 1), (65, 90, 2)]) = some 2 := congrArg some awk_b1
theorem awk_e5 : prop_Table_Blocks.f (some []) = some 1 := congrArg some awk_b2
theorem awake02 : stanzalaw02_Awake.f = some true := by
 unfold stanzalaw02_Awake.f
 rw [Option.bind_some, if_pos awk_c1, awk_m1, Option.bind_some, if_pos awk_c2, awk_m2, Option.bind_some, awk_e1, Option.bind_some, if_pos rfl, awk_e2, Option.bind_some, if_pos rfl, awk_e3, Option.bind_some, if_pos rfl, awk_e4, Option.bind_some, if_pos rfl, awk_e5, Option.bind_some]
 rfl
end Go.Proofs.Ytcgbndojpcaboaa.Pure
end
section
/- prop.Check comes to what prop.Make asks. -/
namespace Go.Proofs.Ytcgbndojpcaboaa.Pure
open Go.RowKit Go.Proofs.YtcgbndojpcaboaaW.PrintWords Go.Proofs.Ytcgbndojpcaboaa.F

theorem ev_mono {α : Type} {g : Nat → Option α} {k : Nat} {r : α} (hm : ∀ k, LeO (g k) (g (k + 1))) (h : g k = some r) : Ev g r := by
 have : ∀ d, g (k + d) = some r := by
  intro d
  induction d with
  | zero => exact h
  | succ d ih => exact hm (k + d) r ih
 exact ⟨k, fun n hn => by have := this (n - k); rwa [Nat.add_sub_cancel' hn] at this⟩
theorem chk_ev (l : List S33) (m : Int) : Ev (fun k => prop_Check.f k l m) (prop_Make.c l m) := by
 obtain ⟨k, hk⟩ := prop_Make.check l m
 exact ev_mono (fun k => prop_Check.mono l m k) hk
end Go.Proofs.Ytcgbndojpcaboaa.Pure
end
section
/- PropLimits, plain: what lies at each limit is let through, what lies one beyond it is not. -/
namespace Go.Proofs.Ytcgbndojpcaboaa.Pure
open Go.RowKit Go.Proofs.YtcgbndojpcaboaaW.PrintWords Go.Proofs.Ytcgbndojpcaboaa.F

theorem lim_j0 (m : List S33) (most : Int) (hc : prop_Make.c m most = true) (hn : 0 < m.length) (ho : tabOf (some (m.map prop_Make.t)) (rd_T33 m 0).f0 = (rd_T33 m 0).f2) :
  Ev (fun k => stanzalaw02_PropLimits.j1 k 0 m most) true := by
 refine Ev.step (fun k => by unfold stanzalaw02_PropLimits.j1; rfl) (ev_pos hc (ev_bind' (make_y hc) (ev_neg (show ¬ (0 : Int) = 1 by decide) (ev_bind (chk_ev m most) ?_))))
 rw [hc]
 exact ev_pos rfl (ev_pos (by omega) (ev_bind' (show prop_Table_Of.f _ _ = some _ from congrArg some ho) (ev_ret (by simp))))
theorem lim_j1 (m : List S33) (most : Int) (hc : prop_Make.c m most = false) : Ev (fun k => stanzalaw02_PropLimits.j1 k 1 m most) true := by
 refine Ev.step (fun k => by unfold stanzalaw02_PropLimits.j1; rfl) (ev_neg (by rw [hc]; decide) (ev_bind' (make_n hc) (ev_pos rfl (ev_bind (chk_ev m most) ?_))))
 rw [hc]
 exact ev_ret rfl
def limG (i : Nat) : S33 := ⟨2 * (i : Int), 2 * (i : Int), 1⟩
theorem lim_loop (b : Int) (n : Nat) (hn : n ≤ 1000) (hj : Ev (fun k => stanzalaw02_PropLimits.j1 k b ((List.range n).map limG) 300) true) : ∀ (d i : Nat), i + d = n →
  Ev (fun k => stanzalaw02_PropLimits.l0 k b ((List.range i).map limG) 300 (n : Int) (i : Int)) true := by
 intro d
 induction d with
 | zero =>
  intro i hi
  obtain rfl : i = n := by omega
  exact Ev.step (fun k => by unfold stanzalaw02_PropLimits.l0; rfl) (ev_neg (by omega) hj)
 | succ d ih =>
  intro i hi
  refine Ev.step (fun k => by unfold stanzalaw02_PropLimits.l0; rfl) (ev_pos (by omega) (ev_pos (by rw [List.length_map, List.length_range]; omega) ?_))
  have e1 : wrap64 (2 * (i : Int)) = 2 * (i : Int) := w64 (by omega) (by omega)
  have e2 : wrap32 (2 * (i : Int)) = 2 * (i : Int) := by unfold wrap32; omega
  have e3 : wrap64 ((i : Int) + 1) = ((i + 1 : Nat) : Int) := by rw [w64 (by omega) (by omega)]; rfl
  rw [e1, e2, e3, show (List.range i).map limG ++ [(⟨2 * (i : Int), 2 * (i : Int), 1⟩ : S33)] = (List.range (i + 1)).map limG by rw [List.range_succ, List.map_append]; rfl]
  exact ih (i + 1) (by omega)
theorem lim_c0 : prop_Make.c ((List.range 256).map limG) 300 = true := by decide +kernel
theorem lim_c1 : prop_Make.c ((List.range 257).map limG) 300 = false := by decide +kernel
theorem lim_o0 : tabOf (some (((List.range 256).map limG).map prop_Make.t)) (rd_T33 ((List.range 256).map limG) 0).f0 = (rd_T33 ((List.range 256).map limG) 0).f2 := by decide +kernel
theorem PropLimits : stanzalaw02_PropLimits.Pure := by
 intro a0 a1 h0 h1
 have h0 := wfu8.1 h0
 have h1 := wfu8.1 h1
 have : Ev (fun k => stanzalaw02_PropLimits.f k a0 a1) true := by
  unfold stanzalaw02_PropLimits.f
  refine ev_bind' awake02 (ev_pos rfl (ev_let ?_))
  have hb : wrap64 (Int.tmod a1 2) = 0 ∨ wrap64 (Int.tmod a1 2) = 1 := by
   rw [tmodp h1.1]
   have : 0 ≤ a1 % 2 ∧ a1 % 2 < 2 := by omega
   rw [w64 (by omega) (by omega)]
   omega
  rw [tmodp h0.1]
  generalize wrap64 (Int.tmod a1 2) = b at hb
  by_cases c0 : a0 % 5 = 0
  ·refine ev_pos c0 ?_
   rcases hb with rfl | rfl
   ·rw [show wrap64 (256 + 0) = ((256 : Nat) : Int) by decide +kernel]
    exact lim_loop 0 256 (by omega) (lim_j0 _ 300 lim_c0 (by rw [List.length_map, List.length_range]; omega) lim_o0) 256 0 rfl
   ·rw [show wrap64 (256 + 1) = ((257 : Nat) : Int) by decide +kernel]
    exact lim_loop 1 257 (by omega) (lim_j1 _ 300 lim_c1) 257 0 rfl
  refine ev_neg c0 ?_
  by_cases c1 : a0 % 5 = 1
  ·refine ev_pos c1 (ev_pos (by decide) ?_)
   rcases hb with rfl | rfl
   ·exact lim_j0 _ 300 (by decide +kernel) (by decide +kernel) (by decide +kernel)
   ·exact lim_j1 _ 300 (by decide +kernel)
  refine ev_neg c1 ?_
  by_cases c2 : a0 % 5 = 2
  ·refine ev_pos c2 (ev_pos (by decide) ?_)
   rcases hb with rfl | rfl
   ·exact lim_j0 _ 300 (by decide +kernel) (by decide +kernel) (by decide +kernel)
   ·exact lim_j1 _ 300 (by decide +kernel)
  refine ev_neg c2 ?_
  by_cases c3 : a0 % 5 = 3
  ·refine ev_pos c3 (ev_pos (by decide) ?_)
   rcases hb with rfl | rfl
   ·exact lim_j0 _ 7 (by decide +kernel) (by decide +kernel) (by decide +kernel)
   ·exact lim_j1 _ 7 (by decide +kernel)
  refine ev_neg c3 (ev_pos (by decide) ?_)
  rcases hb with rfl | rfl
  ·exact lim_j0 _ 300 (by decide +kernel) (by decide +kernel) (by decide +kernel)
  ·exact lim_j1 _ 300 (by decide +kernel)
 obtain ⟨k, hk⟩ := this
 exact ⟨k, hk k (Nat.le_refl k)⟩
end Go.Proofs.Ytcgbndojpcaboaa.Pure
end
