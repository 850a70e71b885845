/- Plain proofs: what the printed functions compute. -/
import Derived.Test.YtigajcipjklknaaXCellsFiner0
import Derived.WalkKit
import Derived.Test.YtigajcipjklknaaVCellsFiner0
import Derived.Test.YtigajcipjklknaaVCellsFiner1
section
/- Helpers of the plain proofs: eventual values (Ev), wrapped numbers, lists. -/
namespace Go.Proofs.Ytigajcipjklknaa.Pure
open Go.RowKit Go.Proofs.YtigajcipjklknaaW.PrintWords

theorem ev_pos {α : Type} {c : Prop} [Decidable c] {a b : Nat → Option α} {r : α} (h : c) (H : Ev a r) : Ev (fun k => if c then a k else b k) r := by simpa [h] using H
theorem ev_neg {α : Type} {c : Prop} [Decidable c] {a b : Nat → Option α} {r : α} (h : ¬ c) (H : Ev b r) : Ev (fun k => if c then a k else b k) r := by simpa [h] using H
theorem ev_eq {α : Type} {o : Option α} {r : α} (h : o = some r) : Ev (fun _ => o) r := by subst h; exact Ev.now _
theorem ev_ret {α : Type} {x r : α} (h : x = r) : Ev (fun _ => some x) r := by subst h; exact Ev.now _
theorem ev_bind {α β : Type} {g : Nat → Option α} {f : Nat → α → Option β} {a : α} {r : β} (h : Ev g a) (k : Ev (fun n => f n a) r) : Ev (fun n => (g n).bind (f n)) r := Ev.bind h k
theorem ev_bind' {α β : Type} {o : Option α} {f : Nat → α → Option β} {a : α} {r : β} (h : o = some a) (k : Ev (fun n => f n a) r) : Ev (fun n => o.bind (f n)) r := by subst h; exact k
theorem ev_let {α β : Type} {a : α} {f : Nat → α → Option β} {r : β} (k : Ev (fun n => f n a) r) : Ev (fun n => (some a).bind (f n)) r := k
theorem ev_uniq {α : Type} {g : Nat → Option α} {a b : α} (h : Ev g a) (k : Ev g b) : a = b := by
 obtain ⟨m, hm⟩ := h
 obtain ⟨n, hn⟩ := k
 have h1 := hm (max m n) (Nat.le_max_left _ _)
 have h2 := hn (max m n) (Nat.le_max_right _ _)
 exact Option.some.inj (h1.symm.trans h2)

theorem w64 {x : Int} (h1 : -9223372036854775808 ≤ x) (h2 : x ≤ 9223372036854775807) : wrap64 x = x := by unfold wrap64; omega
theorem tmodp {a b : Int} (h : 0 ≤ a) : Int.tmod a b = a % b := Int.tmod_eq_emod_of_nonneg h
theorem tdivp {a b : Int} (h : 0 ≤ a) : Int.tdiv a b = a / b := Int.tdiv_eq_ediv_of_nonneg h
theorem wfu8 {x : Int} : (Lit.int .u8 x).wf = true ↔ 0 ≤ x ∧ x ≤ 255 := by simp [Lit.wf, IntKind.min, IntKind.max, IntKind.signed, IntKind.bits]
theorem wfu16 {x : Int} : (Lit.int .u16 x).wf = true ↔ 0 ≤ x ∧ x ≤ 65535 := by simp [Lit.wf, IntKind.min, IntKind.max, IntKind.signed, IntKind.bits]
theorem wfu32 {x : Int} : (Lit.int .u32 x).wf = true ↔ 0 ≤ x ∧ x ≤ 4294967295 := by simp [Lit.wf, IntKind.min, IntKind.max, IntKind.signed, IntKind.bits]
theorem wfi64 {x : Int} : (Lit.int .i64 x).wf = true ↔ -9223372036854775808 ≤ x ∧ x ≤ 9223372036854775807 := by simp [Lit.wf, IntKind.min, IntKind.max, IntKind.signed, IntKind.bits]
theorem wfi32 {x : Int} : (Lit.int .i32 x).wf = true ↔ -2147483648 ≤ x ∧ x ≤ 2147483647 := by simp [Lit.wf, IntKind.min, IntKind.max, IntKind.signed, IntKind.bits]
theorem u64mod {x n : Int} (h1 : 0 < n) (h2 : n ≤ 9223372036854775807) : wrap64 (Int.tmod (IntKind.u64.wrap x) (IntKind.u64.wrap n)) = (x % 18446744073709551616) % n := by
 have hw : ∀ y, IntKind.u64.wrap y = y % 18446744073709551616 := fun y => by simp [IntKind.wrap, IntKind.signed, IntKind.bits]
 rw [hw, hw, Int.emod_eq_of_lt (by omega) (by omega : n < 18446744073709551616), tmodp (by omega)]
 have h3 := Int.emod_nonneg (x % 18446744073709551616) (by omega : n ≠ 0)
 have h4 := Int.emod_lt_of_pos (x % 18446744073709551616) h1
 exact w64 (by omega) (by omega)

theorem rd_nat (xs : List Int) (n : Nat) : rd xs (n : Int) = xs.getD n 0 := rfl
theorem getD_map_range (g : Nat → Int) {n i : Nat} (h : i < n) : ((List.range n).map g).getD i 0 = g i := by
 rw [List.getD_eq_getElem?_getD, List.getElem?_map, List.getElem?_range h]; rfl
theorem rd_map_range (g : Nat → Int) {n i : Nat} (h : i < n) : rd ((List.range n).map g) (i : Int) = g i := getD_map_range g h
theorem map_range_snoc {α : Type} (g : Nat → α) (n : Nat) : (List.range n).map g ++ [g n] = (List.range (n + 1)).map g := by
 rw [List.range_succ, List.map_append]; rfl
theorem mod3 (x : Int) : 0 ≤ x % 3 ∧ x % 3 ≤ 2 := by omega
theorem mod4 (x : Int) : 0 ≤ x % 4 ∧ x % 4 ≤ 3 := by omega
end Go.Proofs.Ytigajcipjklknaa.Pure
end
section
/- What tables of ranges hold: the document's answer (Of), when a list is right; no condition but that lengths fit. -/
namespace Go.Proofs.Ytigajcipjklknaa.Pure
open Go.RowKit Go.Proofs.YtigajcipjklknaaW.PrintWords Go.Proofs.Ytigajcipjklknaa.F

theorem rd_range (xs : List S45) (i : Nat) (h : i < xs.length) : rd_T45 xs (i : Int) = xs[i] := by
 unfold rd_T45
 rw [List.getD_eq_getElem?_getD, Int.toNat_natCast, List.getElem?_eq_getElem h]
 rfl
theorem ofR_stay (l : List (Int × Int × Int)) (r a : Int) (h : ∀ y ∈ l, ¬ (y.1 ≤ r ∧ r ≤ y.2.1)) : l.foldl (fun a y => if y.1 ≤ r ∧ r ≤ y.2.1 then y.2.2 else a) a = a := by
 induction l with
 | nil => rfl
 | cons x l ih => rw [List.foldl_cons, if_neg (h x (by simp)), ih (fun y hy => h y (by simp [hy]))]
theorem ofR_cons {most last : Int} {x : Int × Int × Int} {l : List (Int × Int × Int)} (h : chkGo most last (x :: l) = true) (r : Int) : ofR (x :: l) r = if x.1 ≤ r ∧ r ≤ x.2.1 then x.2.2 else ofR l r := by
 have h2 : chkGo most x.2.1 l = true := by
  unfold chkGo at h
  split at h
  ·cases h
  ·exact h
 show List.foldl _ _ _ = _
 rw [List.foldl_cons]
 by_cases hc : x.1 ≤ r ∧ r ≤ x.2.1
 ·rw [if_pos hc, if_pos hc]
  refine ofR_stay l r _ (fun y hy => ?_)
  obtain ⟨m, hm⟩ := List.mem_iff_getElem?.1 hy
  have := chkGo_get h2 m y hm
  omega
 ·rw [if_neg hc, if_neg hc]
  rfl
theorem chkGo_tail {most last : Int} {x : Int × Int × Int} {l : List (Int × Int × Int)} (h : chkGo most last (x :: l) = true) : chkGo most x.2.1 l = true := by
 unfold chkGo at h
 split at h
 ·cases h
 ·exact h
theorem of_loop (l : List S45) (hn : l.length ≤ 100000) (r most : Int) : ∀ (d i : Nat) (last : Int), i + d = l.length → chkGo most last ((l.drop i).map prop_Make.t) = true →
  Ev (fun k => stanzaref01_Of.l0 k l r (i : Int)) (ofR ((l.drop i).map prop_Make.t) r) := by
 intro d
 induction d with
 | zero =>
  intro i last hi hc
  refine Ev.step (fun k => by unfold stanzaref01_Of.l0; rfl) (ev_neg (by omega) (ev_ret ?_))
  rw [List.drop_eq_nil_of_le (by omega)]
  rfl
 | succ d ih =>
  intro i last hi hc
  have hlt : i < l.length := by omega
  rw [List.drop_eq_getElem_cons hlt, List.map_cons] at hc ⊢
  rw [ofR_cons hc]
  have hi2 := ih (i + 1) _ (by omega) (chkGo_tail hc)
  have hw : wrap64 ((i : Int) + 1) = ((i + 1 : Nat) : Int) := by rw [w64 (by omega) (by omega)]; rfl
  refine Ev.step (fun k => by unfold stanzaref01_Of.l0; rfl) (ev_pos (by omega) (ev_pos (by omega) ?_))
  rw [rd_range l i hlt, hw]
  show Ev _ (if (l[i]).f0 ≤ r ∧ r ≤ (l[i]).f1 then (l[i]).f2 else _)
  by_cases h1 : (l[i]).f0 ≤ r
  ·refine ev_pos h1 ?_
   by_cases h2 : r ≤ (l[i]).f1
   ·rw [if_pos ⟨h1, h2⟩]; exact ev_pos h2 (Ev.now _)
   ·rw [if_neg (fun h => h2 h.2)]; exact ev_neg h2 hi2
  ·rw [if_neg (fun h => h1 h.1)]; exact ev_neg h1 hi2
theorem of_ref (l : List S45) (hn : l.length ≤ 100000) {most last : Int} (hc : chkGo most last (l.map prop_Make.t) = true) (r : Int) : Ev (fun k => stanzaref01_Of.f k l r) (ofR (l.map prop_Make.t) r) := by
 unfold stanzaref01_Of.f
 have := of_loop l hn r most l.length 0 last (by omega) (by simpa using hc)
 simpa using this
theorem tabOf_eq {l : List (Int × Int × Int)} {most : Int} (hc : chkGo most (-1) l = true) (r : Int) : tabOf (some l) r = ofR l r := by
 show (if r < 0 ∨ r > 1114111 then 0 else ofR l r) = _
 by_cases h : r < 0 ∨ r > 1114111
 ·rw [if_pos h]
  refine (ofR_none r (fun y hy => ?_)).symm
  obtain ⟨m, hm⟩ := List.mem_iff_getElem?.1 hy
  have := chkGo_get hc m y hm
  omega
 ·rw [if_neg h]

/-! ### ranges made right -/
/-- Where a right list ends. -/
def endOf (l : List (Int × Int × Int)) : Int := match l.getLast? with
 | none => -1
 | some y => y.2.1
theorem chkGo_snoc {most : Int} : ∀ (l : List (Int × Int × Int)) (last : Int) (x : Int × Int × Int), chkGo most last l = true → (match l.getLast? with | none => last | some y => y.2.1) < x.1 → x.1 ≤ x.2.1 → x.2.1 ≤ 1114111 → 0 ≤ x.2.2 → x.2.2 < most → x.2.2 ≤ 255 → chkGo most last (l ++ [x]) = true
 | [], last, x, _, h1, h2, h3, h4, h5, h6 => by
  simp only [List.getLast?_nil] at h1
  show (if x.1 ≤ last ∨ x.2.1 < x.1 ∨ x.2.1 > 1114111 ∨ x.2.2 < 0 ∨ x.2.2 ≥ most ∨ x.2.2 > 255 then false else chkGo most x.2.1 []) = true
  rw [if_neg (by omega)]
  rfl
 | y :: l, last, x, h, h1, h2, h3, h4, h5, h6 => by
  have h' := h
  unfold chkGo at h
  split at h
  ·cases h
  ·rename_i hy
   rw [List.cons_append]
   unfold chkGo
   rw [if_neg hy]
   refine chkGo_snoc l y.2.1 x h ?_ h2 h3 h4 h5 h6
   cases l with
   | nil => simpa using h1
   | cons z l => rw [List.getLast?_cons_cons] at h1; cases hq : (z :: l).getLast? with
    | none => simp at hq
    | some q => rw [hq] at h1; exact h1
theorem make_y {l : List S45} {m : Int} (h : prop_Make.c l m = true) : prop_MakeY.f l m = some (some (l.map prop_Make.t)) := by unfold prop_MakeY.f; rw [if_pos h]
theorem make_n {l : List S45} {m : Int} (h : prop_Make.c l m = false) : prop_MakeN.f l m = some () := by unfold prop_MakeN.f; rw [h]; rfl
end Go.Proofs.Ytigajcipjklknaa.Pure
end
section
/- Signs of a text: All's row runs from the first byte to the last one, each sign with one to four bytes. -/
namespace Go.Proofs.Ytigajcipjklknaa.Pure
open Go.RowKit Go.Proofs.YtigajcipjklknaaW.PrintWords Go.Proofs.Ytigajcipjklknaa.F

theorem length_some (b : Int) : ∃ n, Ev (fun k => stanzaref01_length.f k b) n := by
 have j1 : ∀ (b : Int) (c : Bool), ∃ n, Ev (fun k => stanzaref01_length.j1 k b c) n := by
  intro b c
  cases c
  ·by_cases h1 : b ≥ 240
   ·by_cases h2 : b ≤ 244
    ·exact ⟨4, Ev.step (fun k => by unfold stanzaref01_length.j1; rfl) (ev_neg (by decide) (ev_pos h1 (ev_pos h2 (Ev.now _))))⟩
    ·exact ⟨0, Ev.step (fun k => by unfold stanzaref01_length.j1; rfl) (ev_neg (by decide) (ev_pos h1 (ev_neg h2 (Ev.now _))))⟩
   ·exact ⟨0, Ev.step (fun k => by unfold stanzaref01_length.j1; rfl) (ev_neg (by decide) (ev_neg h1 (Ev.now _)))⟩
  ·exact ⟨3, Ev.step (fun k => by unfold stanzaref01_length.j1; rfl) (ev_pos rfl (Ev.now _))⟩
 have j0 : ∀ (b : Int) (c : Bool), ∃ n, Ev (fun k => stanzaref01_length.j0 k b c) n := by
  intro b c
  cases c
  ·by_cases h1 : b ≥ 224
   ·obtain ⟨n, hn⟩ := j1 b (decide (b ≤ 239))
    exact ⟨n, Ev.step (fun k => by unfold stanzaref01_length.j0; rfl) (ev_neg (by decide) (ev_pos h1 hn))⟩
   ·obtain ⟨n, hn⟩ := j1 b false
    exact ⟨n, Ev.step (fun k => by unfold stanzaref01_length.j0; rfl) (ev_neg (by decide) (ev_neg h1 hn))⟩
  ·exact ⟨2, Ev.step (fun k => by unfold stanzaref01_length.j0; rfl) (ev_pos rfl (Ev.now _))⟩
 unfold stanzaref01_length.f
 by_cases h : b < 128
 ·exact ⟨1, ev_pos h (Ev.now _)⟩
 ·by_cases h2 : b ≥ 194
  ·obtain ⟨n, hn⟩ := j0 b (decide (b ≤ 223))
   exact ⟨n, ev_neg h (ev_pos h2 hn)⟩
  ·obtain ⟨n, hn⟩ := j0 b false
   exact ⟨n, ev_neg h (ev_neg h2 hn)⟩
theorem begins_loop (x : List Int) (hn : x.length ≤ 100) (h0 : 0 < x.length) : ∀ (d i : Nat), i + d = max x.length 1 → ∃ b, Ev (fun k => stanzaref01_Begins.l0 k x (i : Int)) b := by
 intro d
 induction d with
 | zero =>
  intro i hi
  by_cases h1 : (x.length : Int) = 1
  ·exact ⟨true, Ev.step (fun k => by unfold stanzaref01_Begins.l0; rfl) (ev_neg (by omega) (ev_pos h1 (Ev.now _)))⟩
  ·by_cases c1 : rd x 0 = 224
   ·exact ⟨_, Ev.step (fun k => by unfold stanzaref01_Begins.l0; rfl) (ev_neg (by omega) (ev_neg h1 (ev_pos (by omega) (ev_pos c1 (ev_pos (by omega) (Ev.now _))))))⟩
   by_cases c2 : rd x 0 = 237
   ·exact ⟨_, Ev.step (fun k => by unfold stanzaref01_Begins.l0; rfl) (ev_neg (by omega) (ev_neg h1 (ev_pos (by omega) (ev_neg c1 (ev_pos c2 (ev_pos (by omega) (Ev.now _)))))))⟩
   by_cases c3 : rd x 0 = 240
   ·exact ⟨_, Ev.step (fun k => by unfold stanzaref01_Begins.l0; rfl) (ev_neg (by omega) (ev_neg h1 (ev_pos (by omega) (ev_neg c1 (ev_neg c2 (ev_pos c3 (ev_pos (by omega) (Ev.now _))))))))⟩
   by_cases c4 : rd x 0 = 244
   ·exact ⟨_, Ev.step (fun k => by unfold stanzaref01_Begins.l0; rfl) (ev_neg (by omega) (ev_neg h1 (ev_pos (by omega) (ev_neg c1 (ev_neg c2 (ev_neg c3 (ev_pos c4 (ev_pos (by omega) (Ev.now _)))))))))⟩
   ·exact ⟨true, Ev.step (fun k => by unfold stanzaref01_Begins.l0; rfl) (ev_neg (by omega) (ev_neg h1 (ev_pos (by omega) (ev_neg c1 (ev_neg c2 (ev_neg c3 (ev_neg c4 (Ev.now _))))))))⟩
 | succ d ih =>
  intro i hi
  by_cases c1 : rd x (i : Int) < 128
  ·exact ⟨false, Ev.step (fun k => by unfold stanzaref01_Begins.l0; rfl) (ev_pos (by omega) (ev_pos (by omega) (ev_pos c1 (Ev.now _))))⟩
  by_cases c2 : rd x (i : Int) > 191
  ·exact ⟨false, Ev.step (fun k => by unfold stanzaref01_Begins.l0; rfl) (ev_pos (by omega) (ev_pos (by omega) (ev_neg c1 (ev_pos c2 (Ev.now _)))))⟩
  obtain ⟨b, hb⟩ := ih (i + 1) (by omega)
  refine ⟨b, Ev.step (fun k => by unfold stanzaref01_Begins.l0; rfl) (ev_pos (by omega) (ev_pos (by omega) (ev_neg c1 (ev_neg c2 ?_))))⟩
  rw [w64 (by omega) (by omega)]
  exact hb
theorem begins_some (x : List Int) (hn : x.length ≤ 100) : ∃ b, Ev (fun k => stanzaref01_Begins.f k x) b := by
 unfold stanzaref01_Begins.f
 by_cases h : (x.length : Int) = 0
 ·exact ⟨false, ev_pos h (Ev.step (fun k => by unfold stanzaref01_Begins.j0; rfl) (ev_pos rfl (Ev.now _)))⟩
 ·obtain ⟨n, hl⟩ := length_some (rd x 0)
  by_cases h2 : (x.length : Int) > n
  ·refine ⟨false, ev_neg h (ev_pos (by omega) (ev_bind hl ?_))⟩
   rw [decide_eq_true h2]
   exact Ev.step (fun k => by unfold stanzaref01_Begins.j0; rfl) (ev_pos rfl (Ev.now _))
  ·obtain ⟨b, hb⟩ := begins_loop x hn (by omega) (x.length - 1) 1 (by omega)
   refine ⟨b, ev_neg h (ev_pos (by omega) (ev_bind hl ?_))⟩
   rw [decide_eq_false h2]
   exact Ev.step (fun k => by unfold stanzaref01_Begins.j0; rfl) (ev_neg (by decide) hb)
theorem one_l1 (x : List Int) (hx : x.length ≤ 1000000000000) (p n : Nat) (hp : p + n ≤ x.length) (hn : n ≤ 4) : ∀ (d i : Nat) (v : Int), i + d = n → ∃ r, Ev (fun k => stanzaref01_One.l1 k x (p : Int) (n : Int) v (i : Int)) (r, (p : Int), (n : Int)) := by
 intro d
 induction d with
 | zero => exact fun i v hi => ⟨v, Ev.step (fun k => by unfold stanzaref01_One.l1; rfl) (ev_neg (by omega) (Ev.now _))⟩
 | succ d ih =>
  intro i v hi
  obtain ⟨r, hr⟩ := ih (i + 1) _ (by omega)
  by_cases h : (i : Int) < (n : Int)
  ·refine ⟨r, Ev.step (fun k => by unfold stanzaref01_One.l1; rfl) (ev_pos h ?_)⟩
   rw [w64 (x := (p : Int) + (i : Int)) (by omega) (by omega), w64 (x := (i : Int) + 1) (by omega) (by omega)]
   exact ev_pos (by omega) (ev_pos (by omega) hr)
  ·exact absurd hi (by omega)
theorem one_end (x : List Int) (hx : x.length ≤ 1000000000000) (p n : Nat) (hq : p < x.length) (hp : p + n ≤ x.length) (hn : n ≤ 4) : ∃ (r : Int) (m : Nat), Ev (fun k => stanzaref01_One.j2 k x (p : Int) (n : Int)) (r, (p : Int), (m : Int)) ∧ 1 ≤ m ∧ m ≤ 4 ∧ p + m ≤ x.length := by
 by_cases h0 : (n : Int) = 0
 ·exact ⟨65533, 1, Ev.step (fun k => by unfold stanzaref01_One.j2; rfl) (ev_pos h0 (Ev.now _)), by omega, by omega, by omega⟩
 obtain ⟨t, ht⟩ := length_some (rd x (p : Int))
 by_cases h1 : (n : Int) < t
 ·exact ⟨65533, n, Ev.step (fun k => by unfold stanzaref01_One.j2; rfl) (ev_neg h0 (ev_pos (by omega) (ev_pos (by omega) (ev_bind ht (ev_pos h1 (Ev.now _)))))), by omega, by omega, by omega⟩
 ·obtain ⟨r, hr⟩ := one_l1 x hx p n hp hn (n - 1) 1 (Go.bits .and .i32 (wrap32 (rd x (p : Int))) (rd ([0, 127, 31, 15, 7] : List Int) (n : Int))) (by omega)
  refine ⟨r, n, Ev.step (fun k => by unfold stanzaref01_One.j2; rfl) (ev_neg h0 (ev_pos (by omega) (ev_pos (by omega) (ev_bind ht (ev_neg h1 (ev_let ?_)))))), by omega, by omega, by omega⟩
  exact ev_pos (show 0 ≤ (n : Int) by omega) (ev_pos (show (n : Int) < 5 by omega) hr)
theorem one_loop (x : List Int) (hx : x.length ≤ 1000000000000) (p : Nat) (hq : p < x.length) : ∀ (d n : Nat), n + d = 4 → p + n ≤ x.length → ∃ (r : Int) (m : Nat), Ev (fun k => stanzaref01_One.l0 k x (p : Int) (n : Int)) (r, (p : Int), (m : Int)) ∧ 1 ≤ m ∧ m ≤ 4 ∧ p + m ≤ x.length := by
 intro d
 induction d with
 | zero =>
  intro n hn hp
  obtain ⟨r, m, h, h2⟩ := one_end x hx p n hq hp (by omega)
  exact ⟨r, m, Ev.step (fun k => by unfold stanzaref01_One.l0; rfl) (ev_neg (by omega) h), h2⟩
 | succ d ih =>
  intro n hn hp
  have e1 : wrap64 ((x.length : Int) - (p : Int)) = (x.length : Int) - (p : Int) := w64 (by omega) (by omega)
  by_cases h : p + n < x.length
  ·have e2 : wrap64 (wrap64 ((p : Int) + (n : Int)) + 1) = ((p + n + 1 : Nat) : Int) := by rw [w64 (x := (p : Int) + (n : Int)) (by omega) (by omega), w64 (by omega) (by omega)]; rfl
   obtain ⟨b, hb⟩ := begins_some ((x.take (p + n + 1)).drop p) (by rw [List.length_drop, List.length_take]; omega)
   cases b
   ·obtain ⟨r, m, h3, h2⟩ := one_end x hx p n hq hp (by omega)
    refine ⟨r, m, Ev.step (fun k => by unfold stanzaref01_One.l0; rfl) (ev_pos (by omega) ?_), h2⟩
    rw [e1, e2, Int.toNat_natCast, Int.toNat_natCast]
    exact ev_pos (by omega) (ev_pos (by omega) (ev_pos (by omega) (ev_pos (by omega) (ev_bind hb (ev_neg (by decide) h3)))))
   ·obtain ⟨r, m, h3, h2⟩ := ih (n + 1) (by omega) (by omega)
    refine ⟨r, m, Ev.step (fun k => by unfold stanzaref01_One.l0; rfl) (ev_pos (by omega) ?_), h2⟩
    rw [e1, e2, Int.toNat_natCast, Int.toNat_natCast, w64 (x := (n : Int) + 1) (by omega) (by omega)]
    exact ev_pos (by omega) (ev_pos (by omega) (ev_pos (by omega) (ev_pos (by omega) (ev_bind hb (ev_pos rfl h3)))))
  ·obtain ⟨r, m, h3, h2⟩ := one_end x hx p n hq hp (by omega)
   refine ⟨r, m, Ev.step (fun k => by unfold stanzaref01_One.l0; rfl) (ev_pos (by omega) ?_), h2⟩
   rw [e1]
   exact ev_neg (by omega) h3
theorem one_ok (x : List Int) (hx : x.length ≤ 1000000000000) (p : Nat) (hq : p < x.length) : ∃ (r : Int) (m : Nat), Ev (fun k => stanzaref01_One.f k x (p : Int)) (r, (p : Int), (m : Int)) ∧ 1 ≤ m ∧ m ≤ 4 ∧ p + m ≤ x.length := by
 obtain ⟨r, m, h, h2⟩ := one_loop x hx p hq 4 0 rfl (by omega)
 unfold stanzaref01_One.f
 refine ⟨r, m, ev_neg (by omega) ?_, h2⟩
 rw [decide_eq_false (by omega)]
 exact Ev.step (fun k => by unfold stanzaref01_One.j0; rfl) (ev_neg (by decide) h)
/-- A row of signs that runs from p to e. -/
def Signs : List S50 → Nat → Nat → Prop
 | [], p, e => p = e
 | x :: s, p, e => x.f1 = (p : Int) ∧ ∃ m : Nat, x.f2 = (m : Int) ∧ 1 ≤ m ∧ m ≤ 4 ∧ Signs s (p + m) e
theorem all_loop (x : List Int) (hx : x.length ≤ 1000000000000) : ∀ (d p : Nat) (acc : List S50), x.length - p ≤ d → p ≤ x.length → acc.length ≤ p → ∃ t, Ev (fun k => stanzaref01_All.l0 k x acc (p : Int)) (acc ++ t) ∧ Signs t p x.length := by
 intro d
 induction d with
 | zero =>
  intro p acc hd hp ha
  exact ⟨[], by rw [List.append_nil]; exact Ev.step (fun k => by unfold stanzaref01_All.l0; rfl) (ev_neg (by omega) (Ev.now _)), by unfold Signs; omega⟩
 | succ d ih =>
  intro p acc hd hp ha
  by_cases h : p < x.length
  ·obtain ⟨r, m, h1, h2, h3, h4⟩ := one_ok x hx p h
   obtain ⟨t, ht, hs⟩ := ih (p + m) (acc ++ [(⟨r, (p : Int), (m : Int)⟩ : S50)]) (by omega) h4 (by rw [List.length_append, List.length_singleton]; omega)
   refine ⟨(⟨r, (p : Int), (m : Int)⟩ : S50) :: t, ?_, rfl, m, rfl, h2, h3, hs⟩
   rw [List.append_cons]
   refine Ev.step (fun k => by unfold stanzaref01_All.l0; rfl) (ev_pos (by omega) (ev_bind h1 (ev_pos (show acc.length < 5864062014805 by omega) ?_)))
   rw [show wrap64 ((p : Int) + (m : Int)) = ((p + m : Nat) : Int) by rw [w64 (by omega) (by omega)]; rfl]
   exact ht
  ·exact ⟨[], by rw [List.append_nil]; exact Ev.step (fun k => by unfold stanzaref01_All.l0; rfl) (ev_neg (by omega) (Ev.now _)), by unfold Signs; omega⟩
theorem all_ok (x : List Int) (hx : x.length ≤ 1000000000000) : ∃ t, Ev (fun k => stanzaref01_All.f k x) t ∧ Signs t 0 x.length := by
 obtain ⟨t, ht, hs⟩ := all_loop x hx x.length 0 [] (by omega) (by omega) (by simp)
 exact ⟨t, ht, hs⟩
end Go.Proofs.Ytigajcipjklknaa.Pure
end
section
/- Clusters of signs: what cells.Make answers, in plain words. -/
namespace Go.Proofs.Ytigajcipjklknaa.Pure
open Go.RowKit Go.Proofs.YtigajcipjklknaaW.PrintWords Go.Proofs.Ytigajcipjklknaa.F

def kindOf (r : Int) : Int := if r = 32 then 1 else if r = 9 then 2 else 0
theorem kind_ok (r : Int) : cells_kind.f r = some (kindOf r) := by
 unfold cells_kind.f kindOf
 split
 ·rfl
 ·split <;> rfl
def lenTo (s : List S50) (a : Nat) : Nat → Int
 | 0 => 0
 | d + 1 => lenTo s a d + (rd_T50 s ((a + d : Nat) : Int)).f2
def cellTo (t : Option (List (Int × Int × Int))) (s : List S50) (a : Nat) : Nat → Int
 | 0 => 0
 | d + 1 => mx (cellTo t s a d) (mn (tabOf t (rd_T50 s ((a + d : Nat) : Int)).f0) 2)
/-- The cluster of the d signs from a. -/
def clu (t : Option (List (Int × Int × Int))) (s : List S50) (a d : Nat) : S48 := ⟨(rd_T50 s (a : Int)).f1, lenTo s a d, cellTo t s a d, if d = 1 then kindOf (rd_T50 s (a : Int)).f0 else 0⟩
def CLs (t : Option (List (Int × Int × Int))) (s : List S50) : List Nat → List S48
 | a :: b :: r => clu t s a (b - a) :: CLs t s (b :: r)
 | _ => []
def cutB (m : List Int) (i : Nat) : Bool := i == 0 || (decide (i < m.length) && rd m (i : Int) != 0)
def cuts (m : List Int) (i : Nat) : List Nat := (List.range i).filter (cutB m)
def nats (l : List Nat) : List Int := l.map fun n : Nat => (n : Int)
theorem CLs_snoc (t : Option (List (Int × Int × Int))) (s : List S50) : ∀ (p : List Nat) (a i : Nat), CLs t s (p ++ [a, i]) = CLs t s (p ++ [a]) ++ [clu t s a (i - a)]
 | [], a, i => rfl
 | [x], a, i => rfl
 | x :: y :: p, a, i => by
  show clu t s x (y - x) :: CLs t s ((y :: p) ++ [a, i]) = clu t s x (y - x) :: (CLs t s ((y :: p) ++ [a]) ++ [clu t s a (i - a)])
  rw [CLs_snoc t s (y :: p) a i]
theorem CLs_length (t : Option (List (Int × Int × Int))) (s : List S50) : ∀ (p : List Nat), (CLs t s p).length = p.length - 1
 | [] => rfl
 | [x] => rfl
 | x :: y :: p => by
  show (CLs t s (y :: p)).length + 1 = _
  rw [CLs_length t s (y :: p)]
  simp
theorem cuts_succ (m : List Int) (i : Nat) : cuts m (i + 1) = cuts m i ++ (if cutB m i = true then [i] else []) := by
 unfold cuts
 rw [List.range_succ, List.filter_append]
 cases hb : cutB m i <;> simp [List.filter, hb]
theorem cuts_last (m : List Int) : ∀ i, 0 < i → ∃ p a, cuts m i = p ++ [a] ∧ a < i ∧ p.length < i
 | 0, h => absurd h (by omega)
 | 1, _ => ⟨[], 0, rfl, by omega, by simp⟩
 | i + 2, _ => by
  rw [cuts_succ]
  obtain ⟨p, a, h, h1, h2⟩ := cuts_last m (i + 1) (by omega)
  by_cases hb : cutB m (i + 1) = true
  ·rw [if_pos hb]
   refine ⟨cuts m (i + 1), i + 1, rfl, by omega, ?_⟩
   rw [h, List.length_append, List.length_singleton]; omega
  ·rw [if_neg hb, List.append_nil]
   exact ⟨p, a, h, by omega, by omega⟩

theorem last_ix {α : Type} (o : List α) (c : α) (hn : o.length ≤ 1000000000000) : wrap64 (((o ++ [c]).length : Int) - 1) = (o.length : Int) := by
 rw [List.length_append, List.length_singleton, w64 (by omega) (by omega)]; omega
theorem rd_lastC (o : List S48) (c : S48) : rd_T48 (o ++ [c]) (o.length : Int) = c := by
 unfold rd_T48
 rw [List.getD_eq_getElem?_getD, Int.toNat_natCast, List.getElem?_append_right (Nat.le_refl _), Nat.sub_self]; rfl
theorem rd_lastI (o : List Int) (c : Int) : rd (o ++ [c]) (o.length : Int) = c := by
 rw [rd_nat, List.getD_eq_getElem?_getD, List.getElem?_append_right (Nat.le_refl _), Nat.sub_self]; rfl
theorem set_last {α : Type} (o : List α) (c v : α) : (o ++ [c]).set (o.length : Int).toNat v = o ++ [v] := by
 rw [Int.toNat_natCast]
 rw [List.set_append_right _ _ (Nat.le_refl _), Nat.sub_self]; rfl
/-- One sign more to the last cluster. -/
def more (t : Option (List (Int × Int × Int))) (c : S48) (own : Prop) [Decidable own] (x : S50) : S48 := ⟨c.f0, wrap64 (c.f1 + x.f2), mx c.f2 (mn (tabOf t x.f0) 2), if own then c.f3 else 0⟩
theorem cells_j1f (s : List S50) (m : List Int) (t : Option (List (Int × Int × Int))) (o : List S48) (c : S48) (w : List Int) (a : Int) (i : Int) (x13 : List S50) (x14 x15 : Int) (x : S50) (h1 : o.length ≤ 1000000000000) (h2 : w.length ≤ 1000000000000) {r : List S48 × List Int}
  (H : Ev (fun k => cells_Make.l0 k s m t (o ++ [more t c (a = i) x]) (w ++ [a]) x13 x14 (wrap64 (x15 + 1))) r) :
  Ev (fun k => cells_Make.j1 k s m t (o ++ [c]) (w ++ [a]) i x13 x14 x15 false x.f0 x.f1 x.f2) r := by
 have e1 := last_ix o c h1
 have e2 := last_ix w a h2
 have l1 : (o.length : Int) < ((o ++ [c]).length : Int) := by rw [List.length_append, List.length_singleton]; omega
 have l2 : (w.length : Int) < ((w ++ [a]).length : Int) := by rw [List.length_append, List.length_singleton]; omega
 refine Ev.step (fun k => by unfold cells_Make.j1; rfl) (ev_neg (by decide) ?_)
 rw [e1, e2, rd_lastI]
 refine ev_pos (by omega) (ev_pos l1 (ev_pos (by omega) (ev_pos l2 ?_)))
 simp only [rd_lastC, set_last]
 by_cases ha : a = i
 ·refine ev_pos ha (ev_let (ev_bind' (show prop_Table_Of.f _ _ = some (tabOf t x.f0) from rfl) ?_))
  simp only [rd_lastC, set_last]
  unfold more at H
  rw [if_pos ha] at H
  exact H
 ·refine ev_neg ha (ev_let (ev_let ?_))
  simp only [rd_lastC, set_last]
  refine ev_bind' (show prop_Table_Of.f _ _ = some (tabOf t x.f0) from rfl) ?_
  unfold more at H
  rw [if_neg ha] at H
  exact H
theorem cells_j1t (s : List S50) (m : List Int) (t : Option (List (Int × Int × Int))) (o : List S48) (w : List Int) (i : Int) (x13 : List S50) (x14 x15 : Int) (x : S50) (h1 : o.length ≤ 1000000000000) (h2 : w.length ≤ 1000000000000) {r : List S48 × List Int}
  (H : Ev (fun k => cells_Make.l0 k s m t (o ++ [more t ⟨x.f1, 0, 0, kindOf x.f0⟩ (i = i) x]) (w ++ [i]) x13 x14 (wrap64 (x15 + 1))) r) :
  Ev (fun k => cells_Make.j1 k s m t o w i x13 x14 x15 true x.f0 x.f1 x.f2) r := by
 have e1 := last_ix o (⟨x.f1, 0, 0, kindOf x.f0⟩ : S48) h1
 have e2 := last_ix w i h2
 have l1 : (o.length : Int) < ((o ++ [(⟨x.f1, 0, 0, kindOf x.f0⟩ : S48)]).length : Int) := by rw [List.length_append, List.length_singleton]; omega
 have l2 : (w.length : Int) < ((w ++ [i]).length : Int) := by rw [List.length_append, List.length_singleton]; omega
 refine Ev.step (fun k => by unfold cells_Make.j1; rfl) (ev_pos rfl (ev_bind' (kind_ok x.f0) (ev_pos (show o.length < 4398046511104 by omega) (ev_let ?_))))
 refine ev_pos (show w.length < 17592186044416 by omega) (ev_let ?_)
 rw [e1, e2, rd_lastI]
 refine ev_pos (by omega) (ev_pos l1 (ev_pos (by omega) (ev_pos l2 (ev_pos rfl (ev_let ?_)))))
 simp only [rd_lastC, set_last]
 refine ev_bind' (show prop_Table_Of.f _ _ = some (tabOf t x.f0) from rfl) ?_
 unfold more at H
 rw [if_pos rfl] at H
 exact H
theorem lenTo_lt {s : List S50} (h : ∀ x ∈ s, 0 ≤ x.f2 ∧ x.f2 ≤ 4) (a : Nat) : ∀ d, 0 ≤ lenTo s a d ∧ lenTo s a d ≤ 4 * d
 | 0 => by unfold lenTo; omega
 | d + 1 => by
  have ih := lenTo_lt h a d
  unfold lenTo
  have : 0 ≤ (rd_T50 s ((a + d : Nat) : Int)).f2 ∧ (rd_T50 s ((a + d : Nat) : Int)).f2 ≤ 4 := by
   unfold rd_T50
   rw [List.getD_eq_getElem?_getD, Int.toNat_natCast]
   cases hq : s[a + d]? with
   | none => exact ⟨by decide, by decide⟩
   | some y => exact h y (List.mem_of_getElem? hq)
  omega
theorem more_own (t : Option (List (Int × Int × Int))) (s : List S50) (h : ∀ x ∈ s, 0 ≤ x.f2 ∧ x.f2 ≤ 4) (i : Nat) (j : Int) : more t ⟨(rd_T50 s (i : Int)).f1, 0, 0, kindOf (rd_T50 s (i : Int)).f0⟩ (j = j) (rd_T50 s (i : Int)) = clu t s i 1 := by
 unfold more clu
 rw [if_pos rfl, if_pos rfl]
 have h1 := lenTo_lt h i 1
 have : lenTo s i 1 = 0 + (rd_T50 s (i : Int)).f2 := rfl
 rw [← this, w64 (by omega) (by omega)]
 rfl
theorem more_old (t : Option (List (Int × Int × Int))) (s : List S50) (h : ∀ x ∈ s, 0 ≤ x.f2 ∧ x.f2 ≤ 4) {a i : Nat} (ha : a < i) (hi : i ≤ 1000000000000) : more t (clu t s a (i - a)) ((a : Int) = (i : Int)) (rd_T50 s (i : Int)) = clu t s a (i + 1 - a) := by
 unfold more
 rw [if_neg (by omega)]
 have hd : i + 1 - a = (i - a) + 1 := by omega
 have hi2 : a + (i - a) = i := by omega
 have h1 := lenTo_lt h a ((i - a) + 1)
 have e1 : lenTo s a ((i - a) + 1) = lenTo s a (i - a) + (rd_T50 s (i : Int)).f2 := by
  show lenTo s a (i - a) + (rd_T50 s ((a + (i - a) : Nat) : Int)).f2 = _
  rw [hi2]
 have e2 : cellTo t s a ((i - a) + 1) = mx (cellTo t s a (i - a)) (mn (tabOf t (rd_T50 s (i : Int)).f0) 2) := by
  show mx (cellTo t s a (i - a)) (mn (tabOf t (rd_T50 s ((a + (i - a) : Nat) : Int)).f0) 2) = _
  rw [hi2]
 have e3 : clu t s a (i - a + 1) = ⟨(rd_T50 s (a : Int)).f1, lenTo s a (i - a + 1), cellTo t s a (i - a + 1), 0⟩ := by
  unfold clu
  rw [if_neg (by omega)]
 rw [hd, e3, e1, e2]
 show (⟨_, wrap64 (lenTo s a (i - a) + (rd_T50 s (i : Int)).f2), _, _⟩ : S48) = _
 rw [← e1, w64 (by omega) (by omega)]
 rfl
theorem nats_snoc (p : List Nat) (a : Nat) : nats (p ++ [a]) = nats p ++ [(a : Int)] := by unfold nats; rw [List.map_append]; rfl
theorem nats_length (p : List Nat) : (nats p).length = p.length := List.length_map _
theorem cuts_le (m : List Int) (i : Nat) : (cuts m i).length ≤ i := by
 unfold cuts
 have := List.length_filter_le (cutB m) (List.range i)
 rwa [List.length_range] at this
theorem cells_loop (s : List S50) (h : ∀ x ∈ s, 0 ≤ x.f2 ∧ x.f2 ≤ 4) (hn : s.length ≤ 1000000000000) (m : List Int) (t : Option (List (Int × Int × Int))) : ∀ (d i : Nat), i + d = s.length →
  Ev (fun k => cells_Make.l0 k s m t (CLs t s (cuts m i ++ [i])) (nats (cuts m i)) s (s.length : Int) (i : Int)) (CLs t s (cuts m s.length ++ [s.length]), nats (cuts m s.length ++ [s.length])) := by
 intro d
 induction d with
 | zero =>
  intro i hi
  obtain rfl : i = s.length := by omega
  refine Ev.step (fun k => by unfold cells_Make.l0; rfl) (ev_neg (by omega) (ev_pos ?_ (ev_ret ?_)))
  ·rw [nats_length]; have := cuts_le m s.length; omega
  ·rw [nats_snoc]
 | succ d ih =>
  intro i hi
  have IH := ih (i + 1) (by omega)
  have hw : wrap64 ((i : Int) + 1) = ((i + 1 : Nat) : Int) := by rw [w64 (by omega) (by omega)]; rfl
  have cl := cuts_le m i
  have cut : cutB m i = true → Ev (fun k => cells_Make.j1 k s m t (CLs t s (cuts m i ++ [i])) (nats (cuts m i)) (i : Int) s (s.length : Int) (i : Int) true (rd_T50 s (i : Int)).f0 (rd_T50 s (i : Int)).f1 (rd_T50 s (i : Int)).f2) (CLs t s (cuts m s.length ++ [s.length]), nats (cuts m s.length ++ [s.length])) := by
   intro hc
   refine cells_j1t s m t _ _ _ _ _ _ _ (by rw [CLs_length, List.length_append, List.length_singleton]; omega) (by rw [nats_length]; omega) ?_
   rw [more_own t s h, hw]
   rw [cuts_succ, if_pos hc, List.append_assoc] at IH
   have := CLs_snoc t s (cuts m i) i (i + 1)
   rw [show i + 1 - i = 1 by omega] at this
   rw [← this, ← nats_snoc]
   exact IH
  have keep : 0 < i → cutB m i = false → Ev (fun k => cells_Make.j1 k s m t (CLs t s (cuts m i ++ [i])) (nats (cuts m i)) (i : Int) s (s.length : Int) (i : Int) false (rd_T50 s (i : Int)).f0 (rd_T50 s (i : Int)).f1 (rd_T50 s (i : Int)).f2) (CLs t s (cuts m s.length ++ [s.length]), nats (cuts m s.length ++ [s.length])) := by
   intro h0 hc
   obtain ⟨p, a, hp, ha, hl⟩ := cuts_last m i h0
   rw [cuts_succ, hc, if_neg (by decide), List.append_nil] at IH
   rw [hp] at IH cl ⊢
   rw [List.length_append, List.length_singleton] at cl
   rw [List.append_assoc] at IH ⊢
   have e1 := CLs_snoc t s p a i
   have e2 := CLs_snoc t s p a (i + 1)
   rw [show p ++ ([a] ++ [i]) = p ++ [a, i] from rfl, e1, nats_snoc]
   rw [show p ++ ([a] ++ [i + 1]) = p ++ [a, i + 1] from rfl, e2, nats_snoc] at IH
   refine cells_j1f s m t _ _ _ _ _ _ _ _ _ (by rw [CLs_length, List.length_append, List.length_singleton]; omega) (by rw [nats_length]; omega) ?_
   rw [more_old t s h ha (by omega), hw]
   exact IH
  refine Ev.step (fun k => by unfold cells_Make.l0; rfl) (ev_pos (by omega) (ev_pos (by omega) (ev_pos (by omega) ?_)))
  by_cases h0 : i = 0
  ·exact ev_pos (by omega) (cut (by unfold cutB; rw [h0]; rfl))
  refine ev_neg (by omega) ?_
  have hb0 : (i == 0) = false := by simpa using h0
  by_cases h1 : i < m.length
  ·refine ev_pos (by omega) ?_
   have hb : cutB m i = (rd m (i : Int) != 0) := by unfold cutB; rw [hb0, decide_eq_true h1]; simp
   cases hc : (rd m (i : Int) != 0)
   ·exact keep (by omega) (hb.trans hc)
   ·exact cut (hb.trans hc)
  ·exact ev_neg (by omega) (keep (by omega) (by unfold cutB; rw [hb0, decide_eq_false h1]; rfl))
theorem cells_ok (s : List S50) (h : ∀ x ∈ s, 0 ≤ x.f2 ∧ x.f2 ≤ 4) (hn : s.length ≤ 1000000000000) (m : List Int) (t : Option (List (Int × Int × Int))) :
  Ev (fun k => cells_Make.f k s m t) (CLs t s (cuts m s.length ++ [s.length]), nats (cuts m s.length ++ [s.length])) := by
 unfold cells_Make.f
 exact cells_loop s h hn m t s.length 0 (by omega)
end Go.Proofs.Ytigajcipjklknaa.Pure
end
section
/- The chapter's example of clusters, words and widths that the laws make, where clusters begin. -/
namespace Go.Proofs.Ytigajcipjklknaa.Pure
open Go.RowKit Go.Proofs.YtigajcipjklknaaW.PrintWords Go.Proofs.Ytigajcipjklknaa.F

theorem ax_c : prop_Make.c [(⟨32, 126, 1⟩ : S45)] 3 = true := by decide
theorem awake10 : Ev (fun k => stanzalaw10_Awake.f k) true := by
 unfold stanzalaw10_Awake.f
 have hc := cells_ok [(⟨97, 0, 1⟩ : S50), (⟨769, 1, 2⟩ : S50), (⟨32, 3, 1⟩ : S50)] (by decide) (by decide) [0, 0, 1, 2] (some [(32, 126, 1)])
 rw [show (CLs (some [(32, 126, 1)]) [(⟨97, 0, 1⟩ : S50), (⟨769, 1, 2⟩ : S50), (⟨32, 3, 1⟩ : S50)] (cuts [0, 0, 1, 2] [(⟨97, 0, 1⟩ : S50), (⟨769, 1, 2⟩ : S50), (⟨32, 3, 1⟩ : S50)].length ++ [[(⟨97, 0, 1⟩ : S50), (⟨769, 1, 2⟩ : S50), (⟨32, 3, 1⟩ : S50)].length])) = [(⟨0, 3, 1, 0⟩ : S48), (⟨3, 1, 1, 1⟩ : S48)] from rfl] at hc
 refine ev_let (ev_pos ax_c (ev_bind' (make_y ax_c) (ev_bind hc ?_)))
 exact ev_pos (by decide) (ev_pos (by decide) (ev_pos (by decide) (ev_pos (by decide) (ev_pos (by decide) (ev_pos (by decide) (ev_pos (by decide) (ev_ret (by decide))))))))

/-! ### words -/
def SG : List ByteArray := (h3_signs.f).getD []
theorem sg_some : h3_signs.f = some SG := rfl
theorem sg_len : SG.length = 14 := rfl
theorem sg_size : ∀ j < 14, (rdOf ByteArray.empty SG ((j : Nat) : Int)).size ≤ 4 := by decide +kernel
theorem words_loop (l : List Int) (hl : l.length ≤ 1000000) (h : ∀ y ∈ l, (Lit.int .u8 y).wf = true) : ∀ (d i : Nat) (acc : List Int), i + d = l.length → acc.length ≤ 4 * i → ∃ xs, Ev (fun k => h3_Words.l0 k l acc (i : Int)) xs ∧ xs.length ≤ 4 * l.length := by
 intro d
 induction d with
 | zero => exact fun i acc hi ha => ⟨acc, Ev.step (fun k => by unfold h3_Words.l0; rfl) (ev_neg (by omega) (Ev.now _)), by omega⟩
 | succ d ih =>
  intro i acc hi ha
  have hlt : i < l.length := by omega
  have hv : rd l (i : Int) = l[i] := by rw [rd_nat, List.getD_eq_getElem?_getD, List.getElem?_eq_getElem hlt]; rfl
  have hb := wfu8.1 (h l[i] (List.getElem_mem hlt))
  obtain ⟨j, hj, hj2⟩ : ∃ j : Nat, Int.tmod (wrap64 (rd l (i : Int))) 14 = (j : Int) ∧ j < 14 := by
   rw [hv, w64 (by omega) (by omega), tmodp hb.1]
   exact ⟨(l[i] % 14).toNat, by omega, by omega⟩
  have hs := sg_size j hj2
  obtain ⟨xs, hx, hxl⟩ := ih (i + 1) (acc ++ bytesOf (rdOf ByteArray.empty SG (j : Int))) (by omega) (by rw [List.length_append, bytesOf_length]; omega)
  refine ⟨xs, ?_, hxl⟩
  refine Ev.step (fun k => by unfold h3_Words.l0; rfl) (ev_pos (by omega) (ev_bind' sg_some (ev_pos (show 0 ≤ (i : Int) by omega) ?_)))
  rw [hj, w64 (x := (i : Int) + 1) (by omega) (by omega)]
  exact ev_pos (by omega) (ev_pos (by rw [sg_len]; omega) (ev_pos (by omega) hx))
theorem words_ok (l : List Int) (hl : l.length ≤ 1000000) (h : ∀ y ∈ l, (Lit.int .u8 y).wf = true) : ∃ xs, Ev (fun k => h3_Words.f k l) xs ∧ xs.length ≤ 4 * l.length := by
 unfold h3_Words.f
 exact words_loop l hl h l.length 0 [] (by omega) (by simp)
theorem opps_loop (l : List Int) (hl : l.length ≤ 140737488351232) : ∀ (d i : Nat), i + d = l.length → Ev (fun k => h3_Opps.l0 k l (l.take i) (i : Int)) l := by
 intro d
 induction d with
 | zero => exact fun i hi => Ev.step (fun k => by unfold h3_Opps.l0; rfl) (ev_neg (by omega) (ev_ret (List.take_of_length_le (by omega))))
 | succ d ih =>
  intro i hi
  have hlt : i < l.length := by omega
  have hv : l.take i ++ [rd l (i : Int)] = l.take (i + 1) := by rw [List.take_add_one, rd_nat, List.getD_eq_getElem?_getD, List.getElem?_eq_getElem hlt]; rfl
  refine Ev.step (fun k => by unfold h3_Opps.l0; rfl) (ev_pos (by omega) (ev_pos (by omega) (ev_pos (by rw [List.length_take]; omega) ?_)))
  rw [hv, w64 (by omega) (by omega)]
  exact ih (i + 1) (by omega)
theorem opps_ok (l : List Int) (hl : l.length ≤ 140737488351232) : Ev (fun k => h3_Opps.f k l) l := by
 unfold h3_Opps.f
 exact opps_loop l hl l.length 0 (by omega)

/-! ### widths -/
def wG (ws : List Int) (i : Nat) : S45 := ⟨(i : Int), (i : Int), rd ws (i : Int) % 3⟩
def wl (ws : List Int) (n : Nat) : List S45 := (List.range (min n 200)).map (wG ws)
theorem wl_step (ws : List Int) (i : Nat) : wl ws (i + 1) = if i < 200 then wl ws i ++ [wG ws i] else wl ws i := by
 unfold wl
 by_cases h : i < 200
 ·rw [if_pos h, Nat.min_eq_left (by omega), Nat.min_eq_left (by omega), List.range_succ, List.map_append]; rfl
 ·rw [if_neg h, Nat.min_eq_right (by omega), Nat.min_eq_right (by omega)]
theorem wl_length (ws : List Int) (i : Nat) : (wl ws i).length ≤ 200 := by unfold wl; rw [List.length_map, List.length_range]; omega
theorem wG_eq {ws : List Int} (h : ∀ y ∈ ws, (Lit.int .u8 y).wf = true) {i : Nat} (hi : i < 200) (hlt : i < ws.length) : (⟨wrap32 (i : Int), wrap32 (i : Int), wrap64 (Int.tmod (rd ws (i : Int)) 3)⟩ : S45) = wG ws i := by
 have hv : rd ws (i : Int) = ws[i] := by rw [rd_nat, List.getD_eq_getElem?_getD, List.getElem?_eq_getElem hlt]; rfl
 have hb := wfu8.1 (h ws[i] (List.getElem_mem hlt))
 unfold wG
 have e1 : wrap32 (i : Int) = (i : Int) := by unfold wrap32; omega
 rw [e1, hv, tmodp hb.1, w64 (by omega) (by omega)]
theorem wl_go (ws : List Int) : ∀ (n a : Nat), a + n ≤ 1000 → chkGo 3 ((a : Int) - 1) (((List.range' a n).map (wG ws)).map prop_Make.t) = true
 | 0, _, _ => rfl
 | n + 1, a, ha => by
  have ih := wl_go ws n (a + 1) (by omega)
  rw [List.range'_succ, List.map_cons, List.map_cons]
  show (if (a : Int) ≤ (a : Int) - 1 ∨ (a : Int) < (a : Int) ∨ (a : Int) > 1114111 ∨ rd ws (a : Int) % 3 < 0 ∨ rd ws (a : Int) % 3 ≥ 3 ∨ rd ws (a : Int) % 3 > 255 then false else chkGo 3 (a : Int) _) = true
  rw [if_neg (by omega)]
  rw [show ((a + 1 : Nat) : Int) - 1 = (a : Int) by omega] at ih
  exact ih
theorem wl_chk (ws : List Int) (n : Nat) : chkGo 3 (-1) ((wl ws n).map prop_Make.t) = true := by
 have := wl_go ws (min n 200) 0 (by omega)
 rw [← List.range_eq_range'] at this
 exact this
theorem wl_c (ws : List Int) (n : Nat) : prop_Make.c (wl ws n) 3 = true := by
 unfold prop_Make.c chkR
 rw [List.length_map, if_neg (by have := wl_length ws n; omega)]
 exact wl_chk ws n
theorem chk_tab {L : List (Int × Int × Int)} {most last : Int} (h : chkGo most last L = true) (hm : 0 < most) (r : Int) : 0 ≤ tabOf (some L) r ∧ tabOf (some L) r ≤ most - 1 := by
 show 0 ≤ (if r < 0 ∨ r > 1114111 then 0 else ofR L r) ∧ (if r < 0 ∨ r > 1114111 then 0 else ofR L r) ≤ most - 1
 split
 ·omega
 ·refine ofR_all (fun v => 0 ≤ v ∧ v ≤ most - 1) (by omega) (fun y hy => ?_) r
  obtain ⟨m, hm⟩ := List.mem_iff_getElem?.1 hy
  have := chkGo_get h m y hm
  omega

/-! ### where clusters begin -/
theorem cuts_zero (m : List Int) : ∀ n, ∃ q, cuts m n ++ [n] = 0 :: q
 | 0 => ⟨[], rfl⟩
 | n + 1 => by
  unfold cuts
  rw [List.range_succ_eq_map, List.filter_cons_of_pos rfl]
  exact ⟨_, rfl⟩
theorem cuts_mem {m : List Int} {n i : Nat} : i ∈ cuts m n ↔ i < n ∧ cutB m i = true := by
 unfold cuts
 rw [List.mem_filter, List.mem_range]
theorem cuts_sorted (m : List Int) (n : Nat) : (cuts m n ++ [n]).Pairwise (· < ·) := by
 refine List.pairwise_append.2 ⟨List.Pairwise.filter _ List.pairwise_lt_range, List.pairwise_singleton _ _, fun a ha b hb => ?_⟩
 rw [List.mem_singleton.1 hb]
 exact (cuts_mem.1 ha).1
theorem CLs_get (t : Option (List (Int × Int × Int))) (s : List S50) : ∀ (P : List Nat) (k : Nat), k + 1 < P.length → rd_T48 (CLs t s P) (k : Int) = clu t s (P.getD k 0) (P.getD (k + 1) 0 - P.getD k 0)
 | [], k, h => absurd h (by simp)
 | [x], k, h => absurd h (by simp)
 | x :: y :: P, 0, h => rfl
 | x :: y :: P, k + 1, h => by
  have := CLs_get t s (y :: P) k (by simpa using h)
  show rd_T48 (clu t s x (y - x) :: CLs t s (y :: P)) ((k + 1 : Nat) : Int) = _
  unfold rd_T48 at this ⊢
  rw [Int.toNat_natCast] at this ⊢
  rw [List.getD_cons_succ, List.getD_cons_succ, List.getD_cons_succ]
  exact this
theorem nats_rd (P : List Nat) (k : Nat) : rd (nats P) (k : Int) = ((P.getD k 0 : Nat) : Int) := by
 rw [rd_nat]
 unfold nats
 rw [List.getD_eq_getElem?_getD, List.getD_eq_getElem?_getD, List.getElem?_map]
 cases P[k]? <;> rfl
theorem lenTo_add (s : List S50) (a c : Nat) : ∀ d, lenTo s a (c + d) = lenTo s a c + lenTo s (a + c) d
 | 0 => by show lenTo s a c = lenTo s a c + 0; omega
 | d + 1 => by
  show lenTo s a (c + d) + (rd_T50 s ((a + (c + d) : Nat) : Int)).f2 = lenTo s a c + (lenTo s (a + c) d + (rd_T50 s ((a + c + d : Nat) : Int)).f2)
  rw [lenTo_add s a c d, Nat.add_assoc]; omega
theorem rd_scal (s : List S50) (x : S50) (i : Nat) : rd_T50 (x :: s) ((i + 1 : Nat) : Int) = rd_T50 s (i : Int) := rfl
theorem lenTo_cons (s : List S50) (x : S50) (a : Nat) : ∀ d, lenTo (x :: s) (a + 1) d = lenTo s a d
 | 0 => rfl
 | d + 1 => by
  show lenTo (x :: s) (a + 1) d + (rd_T50 (x :: s) ((a + 1 + d : Nat) : Int)).f2 = lenTo s a d + (rd_T50 s ((a + d : Nat) : Int)).f2
  rw [lenTo_cons s x a d, show a + 1 + d = (a + d) + 1 by omega, rd_scal]
theorem signs_all : ∀ (s : List S50) (p e : Nat), Signs s p e → s.length + p ≤ e ∧ (∀ x ∈ s, 1 ≤ x.f2 ∧ x.f2 ≤ 4) ∧ (p : Int) + lenTo s 0 s.length = (e : Int) ∧ ∀ j, j < s.length → (rd_T50 s (j : Int)).f1 = (p : Int) + lenTo s 0 j
 | [], p, e, h => by
  have : p = e := h
  refine ⟨by simp; omega, fun x hx => absurd hx (by simp), ?_, fun j hj => absurd hj (by simp)⟩
  show (p : Int) + 0 = _
  omega
 | x :: s, p, e, h => by
  obtain ⟨h1, m, h2, h3, h4, h5⟩ := h
  obtain ⟨a, b, c, d⟩ := signs_all s (p + m) e h5
  have key : ∀ j, lenTo (x :: s) 0 (j + 1) = (m : Int) + lenTo s 0 j := by
   intro j
   have := lenTo_add (x :: s) 0 1 j
   rw [Nat.zero_add, lenTo_cons s x 0 j, Nat.add_comm 1 j] at this
   rw [this]
   show (0 + x.f2) + _ = _
   rw [h2]; omega
  refine ⟨by rw [List.length_cons]; omega, fun y hy => ?_, ?_, fun j hj => ?_⟩
  ·rcases List.mem_cons.1 hy with rfl | hy
   ·omega
   ·exact b y hy
  ·rw [List.length_cons, key]; omega
  ·cases j with
   | zero => show x.f1 = (p : Int) + 0; omega
   | succ j =>
    rw [rd_scal, d j (by simpa using hj), key]; omega
end Go.Proofs.Ytigajcipjklknaa.Pure
end
section
/- CellsFiner, plain: with more marks, clusters are cut into clusters. -/
namespace Go.Proofs.Ytigajcipjklknaa.Pure
open Go.RowKit Go.Proofs.YtigajcipjklknaaW.PrintWords Go.Proofs.Ytigajcipjklknaa.F

theorem sorted_lt {P : List Nat} (so : P.Pairwise (· < ·)) {i j : Nat} (h : i < j) (hj : j < P.length) : P.getD i 0 < P.getD j 0 := by
 rw [List.getD_eq_getElem?_getD, List.getD_eq_getElem?_getD, List.getElem?_eq_getElem (by omega), List.getElem?_eq_getElem hj]
 exact List.pairwise_iff_getElem.1 so i j (by omega) hj h
theorem sorted_le {P : List Nat} (so : P.Pairwise (· < ·)) {i j : Nat} (h : i ≤ j) (hj : j < P.length) : P.getD i 0 ≤ P.getD j 0 := by
 rcases Nat.lt_or_eq_of_le h with h | rfl
 ·exact Nat.le_of_lt (sorted_lt so h hj)
 ·exact Nat.le_refl _
theorem mem_getD {P : List Nat} {x : Nat} (h : x ∈ P) : ∃ i, i < P.length ∧ P.getD i 0 = x := by
 obtain ⟨i, hi, he⟩ := List.mem_iff_getElem.1 h
 exact ⟨i, hi, by rw [List.getD_eq_getElem?_getD, List.getElem?_eq_getElem hi]; exact he⟩
theorem getD_mem {P : List Nat} {i : Nat} (h : i < P.length) : P.getD i 0 ∈ P := by
 rw [List.getD_eq_getElem?_getD, List.getElem?_eq_getElem h]; exact List.getElem_mem h
theorem cuts_end (m : List Int) (n : Nat) : (cuts m n ++ [n]).getD ((cuts m n ++ [n]).length - 1) 0 = n := by
 rw [List.length_append, List.length_singleton, Nat.add_sub_cancel, List.getD_eq_getElem?_getD, List.getElem?_append_right (Nat.le_refl _), Nat.sub_self]; rfl
theorem cellTo_nn {t : Option (List (Int × Int × Int))} (hT : ∀ r, 0 ≤ tabOf t r) (s : List S50) (a : Nat) : ∀ d, 0 ≤ cellTo t s a d
 | 0 => Int.le_refl 0
 | d + 1 => by
  have := cellTo_nn hT s a d
  show 0 ≤ mx _ _
  unfold mx
  split
  ·omega
  ·exact this
theorem mx_assoc (a b c : Int) : mx (mx a b) c = mx a (mx b c) := by unfold mx; (repeat' split) <;> omega
theorem cellTo_add {t : Option (List (Int × Int × Int))} (hT : ∀ r, 0 ≤ tabOf t r) (s : List S50) (a c : Nat) : ∀ d, cellTo t s a (c + d) = mx (cellTo t s a c) (cellTo t s (a + c) d)
 | 0 => by
  have := cellTo_nn hT s a c
  show cellTo t s a c = mx (cellTo t s a c) 0
  unfold mx
  rw [if_neg (by omega)]
 | d + 1 => by
  show mx (cellTo t s a (c + d)) (mn (tabOf t (rd_T50 s ((a + (c + d) : Nat) : Int)).f0) 2) = mx (cellTo t s a c) (mx (cellTo t s (a + c) d) (mn (tabOf t (rd_T50 s ((a + c + d : Nat) : Int)).f0) 2))
  rw [cellTo_add hT s a c d, mx_assoc, Nat.add_assoc]
section
variable {t : Option (List (Int × Int × Int))} (hT : ∀ r, 0 ≤ tabOf t r) {s : List S50} (g5 : ∀ x ∈ s, 0 ≤ x.f2 ∧ x.f2 ≤ 4) (hn : s.length ≤ 1000000) {P Q : List Nat} (sP : P.Pairwise (· < ·)) (sQ : Q.Pairwise (· < ·)) (hPQ : ∀ x ∈ P, x ∈ Q) (eQ : Q.getD (Q.length - 1) 0 = s.length) (hQ : 0 < Q.length) (lP : P.length ≤ 1000002) (lQ : Q.length ≤ 1000002)
include hT g5 hn sQ hPQ eQ hQ lP lQ
theorem fin_l3 {k : Nat} (hk : k + 1 < P.length) (x122 : Int) (c0 c3 : Int)
  (H : ∀ j, j < Q.length → Q.getD j 0 = P.getD (k + 1) 0 → Ev (fun q => stanzalaw10_CellsFiner.l2 q (nats P) (CLs t s Q) (nats Q) (j : Int) (CLs t s P) x122 ((k + 1 : Nat) : Int)) true) : ∀ (d j : Nat), j + d = Q.length - 1 → P.getD k 0 ≤ Q.getD j 0 → Q.getD j 0 ≤ P.getD (k + 1) 0 →
  Ev (fun q => stanzalaw10_CellsFiner.l3 q (nats P) (CLs t s Q) (nats Q) (j : Int) (k : Int) (lenTo s (P.getD k 0) (Q.getD j 0 - P.getD k 0)) (cellTo t s (P.getD k 0) (Q.getD j 0 - P.getD k 0)) (CLs t s P) x122 (k : Int) c0 (lenTo s (P.getD k 0) (P.getD (k + 1) 0 - P.getD k 0)) (cellTo t s (P.getD k 0) (P.getD (k + 1) 0 - P.getD k 0)) c3) true := by
 have cQ : (CLs t s Q).length = Q.length - 1 := CLs_length _ _ _
 have nQ := nats_length Q
 have nP := nats_length P
 have w1 : wrap64 ((k : Int) + 1) = ((k + 1 : Nat) : Int) := by rw [w64 (by omega) (by omega)]; rfl
 obtain ⟨i, hi, hie⟩ := mem_getD (hPQ _ (getD_mem hk))
 intro d
 induction d with
 | zero =>
  intro j hj h1 h2
  have hji : Q.getD j 0 = P.getD (k + 1) 0 := by
   have := sorted_le sQ (show i ≤ Q.length - 1 by omega) (by omega)
   rw [show j = Q.length - 1 by omega] at h2 ⊢
   omega
  have HH := H j (by omega) hji
  rw [hji]
  refine Ev.step (fun q => by unfold stanzalaw10_CellsFiner.l3; rfl) (ev_neg (by omega) (ev_pos rfl (ev_pos rfl ?_)))
  rw [w1]
  exact HH
 | succ d ih =>
  intro j hj h1 h2
  refine Ev.step (fun q => by unfold stanzalaw10_CellsFiner.l3; rfl) (ev_pos (by omega) (ev_pos (by omega) (ev_pos (by omega) ?_)))
  rw [w1, nats_rd, nats_rd]
  refine ev_pos (by omega) (ev_pos (by omega) ?_)
  by_cases hlt : Q.getD j 0 < P.getD (k + 1) 0
  ·have hji : j < i := by
    rcases Nat.lt_or_ge j i with h | h
    ·exact h
    ·have := sorted_le sQ h (by omega); omega
   have q1 := sorted_lt sQ (show j < j + 1 by omega) (by omega)
   have q2 := sorted_le sQ (show j + 1 ≤ i by omega) hi
   have IH := ih (j + 1) (by omega) (by omega) (by omega)
   have hc := CLs_get t s Q j (by omega)
   rw [hc, show wrap64 ((j : Int) + 1) = ((j + 1 : Nat) : Int) by rw [w64 (by omega) (by omega)]; rfl]
   have a1 := lenTo_add s (P.getD k 0) (Q.getD j 0 - P.getD k 0) (Q.getD (j + 1) 0 - Q.getD j 0)
   have a2 := cellTo_add hT s (P.getD k 0) (Q.getD j 0 - P.getD k 0) (Q.getD (j + 1) 0 - Q.getD j 0)
   rw [show Q.getD j 0 - P.getD k 0 + (Q.getD (j + 1) 0 - Q.getD j 0) = Q.getD (j + 1) 0 - P.getD k 0 by omega, show P.getD k 0 + (Q.getD j 0 - P.getD k 0) = Q.getD j 0 by omega] at a1 a2
   have b1 := lenTo_lt g5 (P.getD k 0) (Q.getD (j + 1) 0 - P.getD k 0)
   have q3 := sorted_le sQ (show j + 1 ≤ Q.length - 1 by omega) (by omega)
   have e1 : wrap64 (lenTo s (P.getD k 0) (Q.getD j 0 - P.getD k 0) + (clu t s (Q.getD j 0) (Q.getD (j + 1) 0 - Q.getD j 0)).f1) = lenTo s (P.getD k 0) (Q.getD (j + 1) 0 - P.getD k 0) := by
    show wrap64 (lenTo s (P.getD k 0) (Q.getD j 0 - P.getD k 0) + lenTo s (Q.getD j 0) (Q.getD (j + 1) 0 - Q.getD j 0)) = _
    rw [← a1, w64 (by omega) (by omega)]
   have e2 : mx (cellTo t s (P.getD k 0) (Q.getD j 0 - P.getD k 0)) (clu t s (Q.getD j 0) (Q.getD (j + 1) 0 - Q.getD j 0)).f2 = cellTo t s (P.getD k 0) (Q.getD (j + 1) 0 - P.getD k 0) := a2.symm
   rw [e1, e2]
   exact ev_pos (by omega) IH
  ·have hji : Q.getD j 0 = P.getD (k + 1) 0 := by omega
   have HH := H j (by omega) hji
   rw [hji]
   exact ev_neg (by omega) (ev_pos rfl (ev_pos rfl HH))
include sP
theorem fin_l2 (eP : P.getD (P.length - 1) 0 = s.length) : ∀ (d k j : Nat), k + 1 + d = P.length → j < Q.length → Q.getD j 0 = P.getD k 0 →
  Ev (fun q => stanzalaw10_CellsFiner.l2 q (nats P) (CLs t s Q) (nats Q) (j : Int) (CLs t s P) ((CLs t s P).length : Int) (k : Int)) true := by
 have cP : (CLs t s P).length = P.length - 1 := CLs_length _ _ _
 have cQ : (CLs t s Q).length = Q.length - 1 := CLs_length _ _ _
 intro d
 induction d with
 | zero =>
  intro k j hk hj he
  refine Ev.step (fun q => by unfold stanzalaw10_CellsFiner.l2; rfl) (ev_neg (by omega) (ev_ret ?_))
  have hjl : j = Q.length - 1 := by
   rcases Nat.lt_or_ge j (Q.length - 1) with h | h
   ·have := sorted_lt sQ h (by omega)
    rw [show k = P.length - 1 by omega] at he
    omega
   ·omega
  rw [cQ, hjl]
  simp
 | succ d ih =>
  intro k j hk hj he
  have hc := CLs_get t s P k (by omega)
  have p1 := sorted_lt sP (show k < k + 1 by omega) (by omega)
  refine Ev.step (fun q => by unfold stanzalaw10_CellsFiner.l2; rfl) (ev_pos (by omega) (ev_pos (by omega) (ev_pos (by omega) ?_)))
  rw [hc]
  have := fin_l3 hT g5 hn sQ hPQ eQ hQ lP lQ (k := k) (by omega) ((CLs t s P).length : Int) (clu t s (P.getD k 0) (P.getD (k + 1) 0 - P.getD k 0)).f0 (clu t s (P.getD k 0) (P.getD (k + 1) 0 - P.getD k 0)).f3 (fun j' hj' he' => ih (k + 1) j' (by omega) hj' he') (Q.length - 1 - j) j (by omega) (by omega) (by omega)
  rw [he, Nat.sub_self] at this
  exact this
end
def yv (a c : List Int) (i : Nat) : Int := if i < c.length ∧ rd c (i : Int) ≠ 0 then rd c (i : Int) else if i < a.length then rd a (i : Int) else 0
theorem set_nx (ys : List Int) (d : Nat) (u v : Int) {i : Nat} (h : ys.length = i) : (ys ++ u :: List.replicate d 0).set i v = ys ++ v :: List.replicate d 0 := by
 rw [List.set_append_right _ _ (by omega), h, Nat.sub_self, List.set_cons_zero]
theorem finer_l1 (T : List (Int × Int × Int)) (hT : ∀ r, 0 ≤ tabOf (some T) r) (s : List S50) (g5 : ∀ x ∈ s, 0 ≤ x.f2 ∧ x.f2 ≤ 4) (hn : s.length ≤ 1000000) (a c : List Int) : ∀ (d i : Nat), i + d = s.length + 1 →
  Ev (fun k => stanzalaw10_CellsFiner.l1 k (some T) s a c ((List.range i).map (yv a c) ++ List.replicate d 0) ((s.length + 1 : Nat) : Int) (i : Int)) true := by
 intro d
 induction d with
 | zero =>
  intro i hi
  obtain rfl : i = s.length + 1 := by omega
  rw [List.replicate_zero, List.append_nil]
  obtain ⟨y, hy⟩ : ∃ y, y = (List.range (s.length + 1)).map (yv a c) := ⟨_, rfl⟩
  rw [← hy]
  refine Ev.step (fun k => by unfold stanzalaw10_CellsFiner.l1; rfl) (ev_neg (by omega) (ev_bind (cells_ok s g5 (by omega) a _) (ev_bind (cells_ok s g5 (by omega) y _) ?_)))
  have la := cuts_le a s.length
  have ly := cuts_le y s.length
  have sub : ∀ x ∈ cuts a s.length ++ [s.length], x ∈ cuts y s.length ++ [s.length] := by
   intro x hx
   rcases List.mem_append.1 hx with h | h
   ·refine List.mem_append_left _ (cuts_mem.2 ⟨(cuts_mem.1 h).1, ?_⟩)
    have hb := (cuts_mem.1 h).2
    have hlt := (cuts_mem.1 h).1
    by_cases h0 : x = 0
    ·subst h0; rfl
    have hb0 : (x == 0) = false := by simpa using h0
    unfold cutB at hb ⊢
    rw [hb0, Bool.false_or, Bool.and_eq_true, decide_eq_true_eq] at hb
    have hx2 : rd a (x : Int) ≠ 0 := by simpa using hb.2
    rw [hb0, Bool.false_or, hy, List.length_map, List.length_range, decide_eq_true (by omega), Bool.true_and, rd_map_range _ (by omega)]
    have : yv a c x ≠ 0 := by
     unfold yv
     by_cases h1 : x < c.length ∧ rd c (x : Int) ≠ 0
     ·rw [if_pos h1]; exact h1.2
     ·rw [if_neg h1, if_pos hb.1]; exact hx2
    simpa using this
   ·exact List.mem_append_right _ h
  obtain ⟨q1, h1⟩ := cuts_zero a s.length
  obtain ⟨q2, h2⟩ := cuts_zero y s.length
  have := fin_l2 hT g5 hn (cuts_sorted a s.length) (cuts_sorted y s.length) sub (cuts_end y s.length) (by rw [h2]; simp) (by rw [List.length_append, List.length_singleton]; omega) (by rw [List.length_append, List.length_singleton]; omega) (cuts_end a s.length) ((cuts a s.length ++ [s.length]).length - 1) 0 0 (by rw [h1]; simp; omega) (by rw [h2]; simp) (by rw [h1, h2]; rfl)
  exact this
 | succ d ih =>
  intro i hi
  have IH := ih (i + 1) (by omega)
  have hl : ((List.range i).map (yv a c)).length = i := by rw [List.length_map, List.length_range]
  have hw : wrap64 ((i : Int) + 1) = ((i + 1 : Nat) : Int) := by rw [w64 (by omega) (by omega)]; rfl
  rw [List.range_succ, List.map_append, List.map_singleton, List.append_assoc, List.singleton_append] at IH
  rw [List.replicate_succ]
  have hlen : ∀ v : Int, ((List.range i).map (yv a c) ++ v :: List.replicate d 0).length = s.length + 1 := by
   intro v
   rw [List.length_append, hl, List.length_cons, List.length_replicate]; omega
  refine Ev.step (fun k => by unfold stanzalaw10_CellsFiner.l1; rfl) (ev_pos (by omega) ?_)
  rw [hw]
  have h1 := hlen 0
  by_cases ha : i < a.length
  ·refine ev_pos (by omega) (ev_pos (by omega) (ev_pos (by omega) ?_))
   rw [Int.toNat_natCast, set_nx _ _ _ _ hl]
   refine ev_let ?_
   have h2 := hlen (rd a (i : Int))
   by_cases hc : i < c.length
   ·refine ev_pos (by omega) ?_
    by_cases hz : rd c (i : Int) = 0
    ·rw [show yv a c i = rd a (i : Int) by unfold yv; rw [if_neg (fun h => h.2 hz), if_pos ha]] at IH
     exact ev_pos hz IH
    ·rw [show yv a c i = rd c (i : Int) by unfold yv; rw [if_pos ⟨hc, hz⟩]] at IH
     rw [set_nx _ _ _ _ hl]
     exact ev_neg hz IH
   ·rw [show yv a c i = rd a (i : Int) by unfold yv; rw [if_neg (fun h => hc h.1), if_pos ha]] at IH
    exact ev_neg (by omega) IH
  ·refine ev_neg (by omega) ?_
   by_cases hc : i < c.length
   ·refine ev_pos (by omega) (ev_pos (by omega) ?_)
    by_cases hz : rd c (i : Int) = 0
    ·rw [show yv a c i = 0 by unfold yv; rw [if_neg (fun h => h.2 hz), if_neg ha]] at IH
     exact ev_pos hz IH
    ·rw [show yv a c i = rd c (i : Int) by unfold yv; rw [if_pos ⟨hc, hz⟩]] at IH
     rw [Int.toNat_natCast, set_nx _ _ _ _ hl]
     exact ev_neg hz (ev_pos (by omega) IH)
   ·rw [show yv a c i = 0 by unfold yv; rw [if_neg (fun h => hc h.1), if_neg ha]] at IH
    exact ev_neg (by omega) IH
theorem finer_l0 (l0 a c ws : List Int) (h0 : ∀ y ∈ l0, (Lit.int .u8 y).wf = true) (hl : l0.length ≤ 300) (ha : a.length ≤ 140737488351232) (hc : c.length ≤ 140737488351232) (hw : ∀ y ∈ ws, (Lit.int .u8 y).wf = true) (hwl : ws.length ≤ 140737488351232) : ∀ (d i : Nat), i + d = ws.length →
  Ev (fun k => stanzalaw10_CellsFiner.l0 k l0 a c (wl ws i) ws (ws.length : Int) (i : Int)) true := by
 intro d
 induction d with
 | zero =>
  intro i hi
  refine Ev.step (fun k => by unfold stanzalaw10_CellsFiner.l0; rfl) (ev_neg (by omega) (ev_pos (wl_c ws i) (ev_bind' (make_y (wl_c ws i)) ?_)))
  obtain ⟨b, hb, hbl⟩ := words_ok l0 (by omega) h0
  obtain ⟨s, hs, hsg⟩ := all_ok b (by omega)
  obtain ⟨g1, g2, g3, g4⟩ := signs_all s 0 b.length hsg
  have w1 : wrap64 ((s.length : Int) + 1) = ((s.length + 1 : Nat) : Int) := by rw [w64 (by omega) (by omega)]; rfl
  refine ev_bind hb (ev_bind hs (ev_bind (opps_ok a ha) (ev_bind (opps_ok c hc) ?_)))
  rw [w1, Int.toNat_natCast]
  refine ev_pos (by omega) (ev_pos (by omega) (ev_let ?_))
  rw [List.length_replicate]
  exact finer_l1 _ (fun r => (chk_tab (wl_chk ws i) (by decide) r).1) s (fun x hx => by have := g2 x hx; omega) (by omega) a c (s.length + 1) 0 (by omega)
 | succ d ih =>
  intro i hi
  have IH := ih (i + 1) (by omega)
  have hlen := wl_length ws i
  rw [wl_step] at IH
  refine Ev.step (fun k => by unfold stanzalaw10_CellsFiner.l0; rfl) (ev_pos (by omega) (ev_pos (by omega) (ev_pos (by omega) ?_)))
  rw [w64 (x := (i : Int) + 1) (by omega) (by omega)]
  by_cases h : i < 200
  ·rw [if_pos h] at IH
   rw [wG_eq hw h (by omega)]
   exact ev_pos (by omega) (ev_pos (by omega) IH)
  ·rw [if_neg h] at IH
   exact ev_neg (by omega) IH
theorem CellsFiner : stanzalaw10_CellsFiner.Pure := by
 intro l0 l1 l2 l3 h0 h1 h2 h3
 have : Ev (fun k => stanzalaw10_CellsFiner.f k l0 l1 l2 l3) true := by
  unfold stanzalaw10_CellsFiner.f
  refine ev_bind awake10 (ev_pos rfl ?_)
  by_cases hl : (l0.length : Int) > 300
  ·exact ev_pos hl (Ev.now _)
  exact ev_neg hl (finer_l0 l0 l1 l2 l3 h0.2 (by omega) (by have := h1.1; omega) (by have := h2.1; omega) h3.2 (by have := h3.1; omega) l3.length 0 (by omega))
 obtain ⟨k, hk⟩ := this
 exact ⟨k, hk k (Nat.le_refl k)⟩
end Go.Proofs.Ytigajcipjklknaa.Pure
end
