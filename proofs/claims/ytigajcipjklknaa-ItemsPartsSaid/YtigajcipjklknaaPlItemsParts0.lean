/- Plain proofs: what the printed functions compute. -/
import Derived.Test.YtigajcipjklknaaXItemsParts0
import Derived.WalkKit
import Derived.Test.YtigajcipjklknaaVItemsParts0
import Derived.Test.YtigajcipjklknaaVItemsParts1
import Derived.Test.YtigajcipjklknaaVItemsParts2
section
/- Helpers of the plain proofs: eventual values (Ev), wrapped numbers, lists. -/
namespace Go.Proofs.Ytigajcipjklknaa.Pure
open Go.RowKit Go.Proofs.YtigajcipjklknaaW.PrintWords

theorem ev_pos {α : Type} {c : Prop} [Decidable c] {a b : Nat → Option α} {r : α} (h : c) (H : Ev a r) : Ev (fun k => if c then a k else b k) r := by simpa [h] using H
theorem ev_neg {α : Type} {c : Prop} [Decidable c] {a b : Nat → Option α} {r : α} (h : ¬ c) (H : Ev b r) : Ev (fun k => if c then a k else b k) r := by simpa [h] using H
theorem ev_eq {α : Type} {o : Option α} {r : α} (h : o = some r) : Ev (fun _ => o) r := by subst h; exact Ev.now _
theorem ev_ret {α : Type} {x r : α} (h : x = r) : Ev (fun _ => some x) r := by subst h; exact Ev.now _
theorem ev_bind {α β : Type} {g : Nat → Option α} {f : Nat → α → Option β} {a : α} {r : β} (h : Ev g a) (k : Ev (fun n => f n a) r) : Ev (fun n => (g n).bind (f n)) r := Ev.bind h k
theorem ev_bind' {α β : Type} {o : Option α} {f : Nat → α → Option β} {a : α} {r : β} (h : o = some a) (k : Ev (fun n => f n a) r) : Ev (fun n => o.bind (f n)) r := by subst h; exact k
theorem ev_let {α β : Type} {a : α} {f : Nat → α → Option β} {r : β} (k : Ev (fun n => f n a) r) : Ev (fun n => (some a).bind (f n)) r := k
theorem ev_uniq {α : Type} {g : Nat → Option α} {a b : α} (h : Ev g a) (k : Ev g b) : a = b := by
 obtain ⟨m, hm⟩ := h
 obtain ⟨n, hn⟩ := k
 have h1 := hm (max m n) (Nat.le_max_left _ _)
 have h2 := hn (max m n) (Nat.le_max_right _ _)
 exact Option.some.inj (h1.symm.trans h2)

theorem w64 {x : Int} (h1 : -9223372036854775808 ≤ x) (h2 : x ≤ 9223372036854775807) : wrap64 x = x := by unfold wrap64; omega
theorem tmodp {a b : Int} (h : 0 ≤ a) : Int.tmod a b = a % b := Int.tmod_eq_emod_of_nonneg h
theorem tdivp {a b : Int} (h : 0 ≤ a) : Int.tdiv a b = a / b := Int.tdiv_eq_ediv_of_nonneg h
theorem wfu8 {x : Int} : (Lit.int .u8 x).wf = true ↔ 0 ≤ x ∧ x ≤ 255 := by simp [Lit.wf, IntKind.min, IntKind.max, IntKind.signed, IntKind.bits]
theorem wfu16 {x : Int} : (Lit.int .u16 x).wf = true ↔ 0 ≤ x ∧ x ≤ 65535 := by simp [Lit.wf, IntKind.min, IntKind.max, IntKind.signed, IntKind.bits]
theorem wfu32 {x : Int} : (Lit.int .u32 x).wf = true ↔ 0 ≤ x ∧ x ≤ 4294967295 := by simp [Lit.wf, IntKind.min, IntKind.max, IntKind.signed, IntKind.bits]
theorem wfi64 {x : Int} : (Lit.int .i64 x).wf = true ↔ -9223372036854775808 ≤ x ∧ x ≤ 9223372036854775807 := by simp [Lit.wf, IntKind.min, IntKind.max, IntKind.signed, IntKind.bits]
theorem wfi32 {x : Int} : (Lit.int .i32 x).wf = true ↔ -2147483648 ≤ x ∧ x ≤ 2147483647 := by simp [Lit.wf, IntKind.min, IntKind.max, IntKind.signed, IntKind.bits]
theorem u64mod {x n : Int} (h1 : 0 < n) (h2 : n ≤ 9223372036854775807) : wrap64 (Int.tmod (IntKind.u64.wrap x) (IntKind.u64.wrap n)) = (x % 18446744073709551616) % n := by
 have hw : ∀ y, IntKind.u64.wrap y = y % 18446744073709551616 := fun y => by simp [IntKind.wrap, IntKind.signed, IntKind.bits]
 rw [hw, hw, Int.emod_eq_of_lt (by omega) (by omega : n < 18446744073709551616), tmodp (by omega)]
 have h3 := Int.emod_nonneg (x % 18446744073709551616) (by omega : n ≠ 0)
 have h4 := Int.emod_lt_of_pos (x % 18446744073709551616) h1
 exact w64 (by omega) (by omega)

theorem rd_nat (xs : List Int) (n : Nat) : rd xs (n : Int) = xs.getD n 0 := rfl
theorem getD_map_range (g : Nat → Int) {n i : Nat} (h : i < n) : ((List.range n).map g).getD i 0 = g i := by
 rw [List.getD_eq_getElem?_getD, List.getElem?_map, List.getElem?_range h]; rfl
theorem rd_map_range (g : Nat → Int) {n i : Nat} (h : i < n) : rd ((List.range n).map g) (i : Int) = g i := getD_map_range g h
theorem map_range_snoc {α : Type} (g : Nat → α) (n : Nat) : (List.range n).map g ++ [g n] = (List.range (n + 1)).map g := by
 rw [List.range_succ, List.map_append]; rfl
theorem mod3 (x : Int) : 0 ≤ x % 3 ∧ x % 3 ≤ 2 := by omega
theorem mod4 (x : Int) : 0 ≤ x % 4 ∧ x % 4 ≤ 3 := by omega
end Go.Proofs.Ytigajcipjklknaa.Pure
end
section
/- What tables of ranges hold: the document's answer (Of), when a list is right; no condition but that lengths fit. -/
namespace Go.Proofs.Ytigajcipjklknaa.Pure
open Go.RowKit Go.Proofs.YtigajcipjklknaaW.PrintWords Go.Proofs.Ytigajcipjklknaa.F

theorem rd_range (xs : List S45) (i : Nat) (h : i < xs.length) : rd_T45 xs (i : Int) = xs[i] := by
 unfold rd_T45
 rw [List.getD_eq_getElem?_getD, Int.toNat_natCast, List.getElem?_eq_getElem h]
 rfl
theorem ofR_stay (l : List (Int × Int × Int)) (r a : Int) (h : ∀ y ∈ l, ¬ (y.1 ≤ r ∧ r ≤ y.2.1)) : l.foldl (fun a y => if y.1 ≤ r ∧ r ≤ y.2.1 then y.2.2 else a) a = a := by
 induction l with
 | nil => rfl
 | cons x l ih => rw [List.foldl_cons, if_neg (h x (by simp)), ih (fun y hy => h y (by simp [hy]))]
theorem ofR_cons {most last : Int} {x : Int × Int × Int} {l : List (Int × Int × Int)} (h : chkGo most last (x :: l) = true) (r : Int) : ofR (x :: l) r = if x.1 ≤ r ∧ r ≤ x.2.1 then x.2.2 else ofR l r := by
 have h2 : chkGo most x.2.1 l = true := by
  unfold chkGo at h
  split at h
  ·cases h
  ·exact h
 show List.foldl _ _ _ = _
 rw [List.foldl_cons]
 by_cases hc : x.1 ≤ r ∧ r ≤ x.2.1
 ·rw [if_pos hc, if_pos hc]
  refine ofR_stay l r _ (fun y hy => ?_)
  obtain ⟨m, hm⟩ := List.mem_iff_getElem?.1 hy
  have := chkGo_get h2 m y hm
  omega
 ·rw [if_neg hc, if_neg hc]
  rfl
theorem chkGo_tail {most last : Int} {x : Int × Int × Int} {l : List (Int × Int × Int)} (h : chkGo most last (x :: l) = true) : chkGo most x.2.1 l = true := by
 unfold chkGo at h
 split at h
 ·cases h
 ·exact h
theorem of_loop (l : List S45) (hn : l.length ≤ 100000) (r most : Int) : ∀ (d i : Nat) (last : Int), i + d = l.length → chkGo most last ((l.drop i).map prop_Make.t) = true →
  Ev (fun k => stanzaref01_Of.l0 k l r (i : Int)) (ofR ((l.drop i).map prop_Make.t) r) := by
 intro d
 induction d with
 | zero =>
  intro i last hi hc
  refine Ev.step (fun k => by unfold stanzaref01_Of.l0; rfl) (ev_neg (by omega) (ev_ret ?_))
  rw [List.drop_eq_nil_of_le (by omega)]
  rfl
 | succ d ih =>
  intro i last hi hc
  have hlt : i < l.length := by omega
  rw [List.drop_eq_getElem_cons hlt, List.map_cons] at hc ⊢
  rw [ofR_cons hc]
  have hi2 := ih (i + 1) _ (by omega) (chkGo_tail hc)
  have hw : wrap64 ((i : Int) + 1) = ((i + 1 : Nat) : Int) := by rw [w64 (by omega) (by omega)]; rfl
  refine Ev.step (fun k => by unfold stanzaref01_Of.l0; rfl) (ev_pos (by omega) (ev_pos (by omega) ?_))
  rw [rd_range l i hlt, hw]
  show Ev _ (if (l[i]).f0 ≤ r ∧ r ≤ (l[i]).f1 then (l[i]).f2 else _)
  by_cases h1 : (l[i]).f0 ≤ r
  ·refine ev_pos h1 ?_
   by_cases h2 : r ≤ (l[i]).f1
   ·rw [if_pos ⟨h1, h2⟩]; exact ev_pos h2 (Ev.now _)
   ·rw [if_neg (fun h => h2 h.2)]; exact ev_neg h2 hi2
  ·rw [if_neg (fun h => h1 h.1)]; exact ev_neg h1 hi2
theorem of_ref (l : List S45) (hn : l.length ≤ 100000) {most last : Int} (hc : chkGo most last (l.map prop_Make.t) = true) (r : Int) : Ev (fun k => stanzaref01_Of.f k l r) (ofR (l.map prop_Make.t) r) := by
 unfold stanzaref01_Of.f
 have := of_loop l hn r most l.length 0 last (by omega) (by simpa using hc)
 simpa using this
theorem tabOf_eq {l : List (Int × Int × Int)} {most : Int} (hc : chkGo most (-1) l = true) (r : Int) : tabOf (some l) r = ofR l r := by
 show (if r < 0 ∨ r > 1114111 then 0 else ofR l r) = _
 by_cases h : r < 0 ∨ r > 1114111
 ·rw [if_pos h]
  refine (ofR_none r (fun y hy => ?_)).symm
  obtain ⟨m, hm⟩ := List.mem_iff_getElem?.1 hy
  have := chkGo_get hc m y hm
  omega
 ·rw [if_neg h]

/-! ### ranges made right -/
/-- Where a right list ends. -/
def endOf (l : List (Int × Int × Int)) : Int := match l.getLast? with
 | none => -1
 | some y => y.2.1
theorem chkGo_snoc {most : Int} : ∀ (l : List (Int × Int × Int)) (last : Int) (x : Int × Int × Int), chkGo most last l = true → (match l.getLast? with | none => last | some y => y.2.1) < x.1 → x.1 ≤ x.2.1 → x.2.1 ≤ 1114111 → 0 ≤ x.2.2 → x.2.2 < most → x.2.2 ≤ 255 → chkGo most last (l ++ [x]) = true
 | [], last, x, _, h1, h2, h3, h4, h5, h6 => by
  simp only [List.getLast?_nil] at h1
  show (if x.1 ≤ last ∨ x.2.1 < x.1 ∨ x.2.1 > 1114111 ∨ x.2.2 < 0 ∨ x.2.2 ≥ most ∨ x.2.2 > 255 then false else chkGo most x.2.1 []) = true
  rw [if_neg (by omega)]
  rfl
 | y :: l, last, x, h, h1, h2, h3, h4, h5, h6 => by
  have h' := h
  unfold chkGo at h
  split at h
  ·cases h
  ·rename_i hy
   rw [List.cons_append]
   unfold chkGo
   rw [if_neg hy]
   refine chkGo_snoc l y.2.1 x h ?_ h2 h3 h4 h5 h6
   cases l with
   | nil => simpa using h1
   | cons z l => rw [List.getLast?_cons_cons] at h1; cases hq : (z :: l).getLast? with
    | none => simp at hq
    | some q => rw [hq] at h1; exact h1
theorem make_y {l : List S45} {m : Int} (h : prop_Make.c l m = true) : prop_MakeY.f l m = some (some (l.map prop_Make.t)) := by unfold prop_MakeY.f; rw [if_pos h]
theorem make_n {l : List S45} {m : Int} (h : prop_Make.c l m = false) : prop_MakeN.f l m = some () := by unfold prop_MakeN.f; rw [h]; rfl
end Go.Proofs.Ytigajcipjklknaa.Pure
end
section
/- Signs of a text: All's row runs from the first byte to the last one, each sign with one to four bytes. -/
namespace Go.Proofs.Ytigajcipjklknaa.Pure
open Go.RowKit Go.Proofs.YtigajcipjklknaaW.PrintWords Go.Proofs.Ytigajcipjklknaa.F

theorem length_some (b : Int) : ∃ n, Ev (fun k => stanzaref01_length.f k b) n := by
 have j1 : ∀ (b : Int) (c : Bool), ∃ n, Ev (fun k => stanzaref01_length.j1 k b c) n := by
  intro b c
  cases c
  ·by_cases h1 : b ≥ 240
   ·by_cases h2 : b ≤ 244
    ·exact ⟨4, Ev.step (fun k => by unfold stanzaref01_length.j1; rfl) (ev_neg (by decide) (ev_pos h1 (ev_pos h2 (Ev.now _))))⟩
    ·exact ⟨0, Ev.step (fun k => by unfold stanzaref01_length.j1; rfl) (ev_neg (by decide) (ev_pos h1 (ev_neg h2 (Ev.now _))))⟩
   ·exact ⟨0, Ev.step (fun k => by unfold stanzaref01_length.j1; rfl) (ev_neg (by decide) (ev_neg h1 (Ev.now _)))⟩
  ·exact ⟨3, Ev.step (fun k => by unfold stanzaref01_length.j1; rfl) (ev_pos rfl (Ev.now _))⟩
 have j0 : ∀ (b : Int) (c : Bool), ∃ n, Ev (fun k => stanzaref01_length.j0 k b c) n := by
  intro b c
  cases c
  ·by_cases h1 : b ≥ 224
   ·obtain ⟨n, hn⟩ := j1 b (decide (b ≤ 239))
    exact ⟨n, Ev.step (fun k => by unfold stanzaref01_length.j0; rfl) (ev_neg (by decide) (ev_pos h1 hn))⟩
   ·obtain ⟨n, hn⟩ := j1 b false
    exact ⟨n, Ev.step (fun k => by unfold stanzaref01_length.j0; rfl) (ev_neg (by decide) (ev_neg h1 hn))⟩
  ·exact ⟨2, Ev.step (fun k => by unfold stanzaref01_length.j0; rfl) (ev_pos rfl (Ev.now _))⟩
 unfold stanzaref01_length.f
 by_cases h : b < 128
 ·exact ⟨1, ev_pos h (Ev.now _)⟩
 ·by_cases h2 : b ≥ 194
  ·obtain ⟨n, hn⟩ := j0 b (decide (b ≤ 223))
   exact ⟨n, ev_neg h (ev_pos h2 hn)⟩
  ·obtain ⟨n, hn⟩ := j0 b false
   exact ⟨n, ev_neg h (ev_neg h2 hn)⟩
theorem begins_loop (x : List Int) (hn : x.length ≤ 100) (h0 : 0 < x.length) : ∀ (d i : Nat), i + d = max x.length 1 → ∃ b, Ev (fun k => stanzaref01_Begins.l0 k x (i : Int)) b := by
 intro d
 induction d with
 | zero =>
  intro i hi
  by_cases h1 : (x.length : Int) = 1
  ·exact ⟨true, Ev.step (fun k => by unfold stanzaref01_Begins.l0; rfl) (ev_neg (by omega) (ev_pos h1 (Ev.now _)))⟩
  ·by_cases c1 : rd x 0 = 224
   ·exact ⟨_, Ev.step (fun k => by unfold stanzaref01_Begins.l0; rfl) (ev_neg (by omega) (ev_neg h1 (ev_pos (by omega) (ev_pos c1 (ev_pos (by omega) (Ev.now _))))))⟩
   by_cases c2 : rd x 0 = 237
   ·exact ⟨_, Ev.step (fun k => by unfold stanzaref01_Begins.l0; rfl) (ev_neg (by omega) (ev_neg h1 (ev_pos (by omega) (ev_neg c1 (ev_pos c2 (ev_pos (by omega) (Ev.now _)))))))⟩
   by_cases c3 : rd x 0 = 240
   ·exact ⟨_, Ev.step (fun k => by unfold stanzaref01_Begins.l0; rfl) (ev_neg (by omega) (ev_neg h1 (ev_pos (by omega) (ev_neg c1 (ev_neg c2 (ev_pos c3 (ev_pos (by omega) (Ev.now _))))))))⟩
   by_cases c4 : rd x 0 = 244
   ·exact ⟨_, Ev.step (fun k => by unfold stanzaref01_Begins.l0; rfl) (ev_neg (by omega) (ev_neg h1 (ev_pos (by omega) (ev_neg c1 (ev_neg c2 (ev_neg c3 (ev_pos c4 (ev_pos (by omega) (Ev.now _)))))))))⟩
   ·exact ⟨true, Ev.step (fun k => by unfold stanzaref01_Begins.l0; rfl) (ev_neg (by omega) (ev_neg h1 (ev_pos (by omega) (ev_neg c1 (ev_neg c2 (ev_neg c3 (ev_neg c4 (Ev.now _))))))))⟩
 | succ d ih =>
  intro i hi
  by_cases c1 : rd x (i : Int) < 128
  ·exact ⟨false, Ev.step (fun k => by unfold stanzaref01_Begins.l0; rfl) (ev_pos (by omega) (ev_pos (by omega) (ev_pos c1 (Ev.now _))))⟩
  by_cases c2 : rd x (i : Int) > 191
  ·exact ⟨false, Ev.step (fun k => by unfold stanzaref01_Begins.l0; rfl) (ev_pos (by omega) (ev_pos (by omega) (ev_neg c1 (ev_pos c2 (Ev.now _)))))⟩
  obtain ⟨b, hb⟩ := ih (i + 1) (by omega)
  refine ⟨b, Ev.step (fun k => by unfold stanzaref01_Begins.l0; rfl) (ev_pos (by omega) (ev_pos (by omega) (ev_neg c1 (ev_neg c2 ?_))))⟩
  rw [w64 (by omega) (by omega)]
  exact hb
theorem begins_some (x : List Int) (hn : x.length ≤ 100) : ∃ b, Ev (fun k => stanzaref01_Begins.f k x) b := by
 unfold stanzaref01_Begins.f
 by_cases h : (x.length : Int) = 0
 ·exact ⟨false, ev_pos h (Ev.step (fun k => by unfold stanzaref01_Begins.j0; rfl) (ev_pos rfl (Ev.now _)))⟩
 ·obtain ⟨n, hl⟩ := length_some (rd x 0)
  by_cases h2 : (x.length : Int) > n
  ·refine ⟨false, ev_neg h (ev_pos (by omega) (ev_bind hl ?_))⟩
   rw [decide_eq_true h2]
   exact Ev.step (fun k => by unfold stanzaref01_Begins.j0; rfl) (ev_pos rfl (Ev.now _))
  ·obtain ⟨b, hb⟩ := begins_loop x hn (by omega) (x.length - 1) 1 (by omega)
   refine ⟨b, ev_neg h (ev_pos (by omega) (ev_bind hl ?_))⟩
   rw [decide_eq_false h2]
   exact Ev.step (fun k => by unfold stanzaref01_Begins.j0; rfl) (ev_neg (by decide) hb)
theorem one_l1 (x : List Int) (hx : x.length ≤ 1000000000000) (p n : Nat) (hp : p + n ≤ x.length) (hn : n ≤ 4) : ∀ (d i : Nat) (v : Int), i + d = n → ∃ r, Ev (fun k => stanzaref01_One.l1 k x (p : Int) (n : Int) v (i : Int)) (r, (p : Int), (n : Int)) := by
 intro d
 induction d with
 | zero => exact fun i v hi => ⟨v, Ev.step (fun k => by unfold stanzaref01_One.l1; rfl) (ev_neg (by omega) (Ev.now _))⟩
 | succ d ih =>
  intro i v hi
  obtain ⟨r, hr⟩ := ih (i + 1) _ (by omega)
  by_cases h : (i : Int) < (n : Int)
  ·refine ⟨r, Ev.step (fun k => by unfold stanzaref01_One.l1; rfl) (ev_pos h ?_)⟩
   rw [w64 (x := (p : Int) + (i : Int)) (by omega) (by omega), w64 (x := (i : Int) + 1) (by omega) (by omega)]
   exact ev_pos (by omega) (ev_pos (by omega) hr)
  ·exact absurd hi (by omega)
theorem one_end (x : List Int) (hx : x.length ≤ 1000000000000) (p n : Nat) (hq : p < x.length) (hp : p + n ≤ x.length) (hn : n ≤ 4) : ∃ (r : Int) (m : Nat), Ev (fun k => stanzaref01_One.j2 k x (p : Int) (n : Int)) (r, (p : Int), (m : Int)) ∧ 1 ≤ m ∧ m ≤ 4 ∧ p + m ≤ x.length := by
 by_cases h0 : (n : Int) = 0
 ·exact ⟨65533, 1, Ev.step (fun k => by unfold stanzaref01_One.j2; rfl) (ev_pos h0 (Ev.now _)), by omega, by omega, by omega⟩
 obtain ⟨t, ht⟩ := length_some (rd x (p : Int))
 by_cases h1 : (n : Int) < t
 ·exact ⟨65533, n, Ev.step (fun k => by unfold stanzaref01_One.j2; rfl) (ev_neg h0 (ev_pos (by omega) (ev_pos (by omega) (ev_bind ht (ev_pos h1 (Ev.now _)))))), by omega, by omega, by omega⟩
 ·obtain ⟨r, hr⟩ := one_l1 x hx p n hp hn (n - 1) 1 (Go.bits .and .i32 (wrap32 (rd x (p : Int))) (rd ([0, 127, 31, 15, 7] : List Int) (n : Int))) (by omega)
  refine ⟨r, n, Ev.step (fun k => by unfold stanzaref01_One.j2; rfl) (ev_neg h0 (ev_pos (by omega) (ev_pos (by omega) (ev_bind ht (ev_neg h1 (ev_let ?_)))))), by omega, by omega, by omega⟩
  exact ev_pos (show 0 ≤ (n : Int) by omega) (ev_pos (show (n : Int) < 5 by omega) hr)
theorem one_loop (x : List Int) (hx : x.length ≤ 1000000000000) (p : Nat) (hq : p < x.length) : ∀ (d n : Nat), n + d = 4 → p + n ≤ x.length → ∃ (r : Int) (m : Nat), Ev (fun k => stanzaref01_One.l0 k x (p : Int) (n : Int)) (r, (p : Int), (m : Int)) ∧ 1 ≤ m ∧ m ≤ 4 ∧ p + m ≤ x.length := by
 intro d
 induction d with
 | zero =>
  intro n hn hp
  obtain ⟨r, m, h, h2⟩ := one_end x hx p n hq hp (by omega)
  exact ⟨r, m, Ev.step (fun k => by unfold stanzaref01_One.l0; rfl) (ev_neg (by omega) h), h2⟩
 | succ d ih =>
  intro n hn hp
  have e1 : wrap64 ((x.length : Int) - (p : Int)) = (x.length : Int) - (p : Int) := w64 (by omega) (by omega)
  by_cases h : p + n < x.length
  ·have e2 : wrap64 (wrap64 ((p : Int) + (n : Int)) + 1) = ((p + n + 1 : Nat) : Int) := by rw [w64 (x := (p : Int) + (n : Int)) (by omega) (by omega), w64 (by omega) (by omega)]; rfl
   obtain ⟨b, hb⟩ := begins_some ((x.take (p + n + 1)).drop p) (by rw [List.length_drop, List.length_take]; omega)
   cases b
   ·obtain ⟨r, m, h3, h2⟩ := one_end x hx p n hq hp (by omega)
    refine ⟨r, m, Ev.step (fun k => by unfold stanzaref01_One.l0; rfl) (ev_pos (by omega) ?_), h2⟩
    rw [e1, e2, Int.toNat_natCast, Int.toNat_natCast]
    exact ev_pos (by omega) (ev_pos (by omega) (ev_pos (by omega) (ev_pos (by omega) (ev_bind hb (ev_neg (by decide) h3)))))
   ·obtain ⟨r, m, h3, h2⟩ := ih (n + 1) (by omega) (by omega)
    refine ⟨r, m, Ev.step (fun k => by unfold stanzaref01_One.l0; rfl) (ev_pos (by omega) ?_), h2⟩
    rw [e1, e2, Int.toNat_natCast, Int.toNat_natCast, w64 (x := (n : Int) + 1) (by omega) (by omega)]
    exact ev_pos (by omega) (ev_pos (by omega) (ev_pos (by omega) (ev_pos (by omega) (ev_bind hb (ev_pos rfl h3)))))
  ·obtain ⟨r, m, h3, h2⟩ := one_end x hx p n hq hp (by omega)
   refine ⟨r, m, Ev.step (fun k => by unfold stanzaref01_One.l0; rfl) (ev_pos (by omega) ?_), h2⟩
   rw [e1]
   exact ev_neg (by omega) h3
theorem one_ok (x : List Int) (hx : x.length ≤ 1000000000000) (p : Nat) (hq : p < x.length) : ∃ (r : Int) (m : Nat), Ev (fun k => stanzaref01_One.f k x (p : Int)) (r, (p : Int), (m : Int)) ∧ 1 ≤ m ∧ m ≤ 4 ∧ p + m ≤ x.length := by
 obtain ⟨r, m, h, h2⟩ := one_loop x hx p hq 4 0 rfl (by omega)
 unfold stanzaref01_One.f
 refine ⟨r, m, ev_neg (by omega) ?_, h2⟩
 rw [decide_eq_false (by omega)]
 exact Ev.step (fun k => by unfold stanzaref01_One.j0; rfl) (ev_neg (by decide) h)
/-- A row of signs that runs from p to e. -/
def Signs : List S50 → Nat → Nat → Prop
 | [], p, e => p = e
 | x :: s, p, e => x.f1 = (p : Int) ∧ ∃ m : Nat, x.f2 = (m : Int) ∧ 1 ≤ m ∧ m ≤ 4 ∧ Signs s (p + m) e
theorem all_loop (x : List Int) (hx : x.length ≤ 1000000000000) : ∀ (d p : Nat) (acc : List S50), x.length - p ≤ d → p ≤ x.length → acc.length ≤ p → ∃ t, Ev (fun k => stanzaref01_All.l0 k x acc (p : Int)) (acc ++ t) ∧ Signs t p x.length := by
 intro d
 induction d with
 | zero =>
  intro p acc hd hp ha
  exact ⟨[], by rw [List.append_nil]; exact Ev.step (fun k => by unfold stanzaref01_All.l0; rfl) (ev_neg (by omega) (Ev.now _)), by unfold Signs; omega⟩
 | succ d ih =>
  intro p acc hd hp ha
  by_cases h : p < x.length
  ·obtain ⟨r, m, h1, h2, h3, h4⟩ := one_ok x hx p h
   obtain ⟨t, ht, hs⟩ := ih (p + m) (acc ++ [(⟨r, (p : Int), (m : Int)⟩ : S50)]) (by omega) h4 (by rw [List.length_append, List.length_singleton]; omega)
   refine ⟨(⟨r, (p : Int), (m : Int)⟩ : S50) :: t, ?_, rfl, m, rfl, h2, h3, hs⟩
   rw [List.append_cons]
   refine Ev.step (fun k => by unfold stanzaref01_All.l0; rfl) (ev_pos (by omega) (ev_bind h1 (ev_pos (show acc.length < 5864062014805 by omega) ?_)))
   rw [show wrap64 ((p : Int) + (m : Int)) = ((p + m : Nat) : Int) by rw [w64 (by omega) (by omega)]; rfl]
   exact ht
  ·exact ⟨[], by rw [List.append_nil]; exact Ev.step (fun k => by unfold stanzaref01_All.l0; rfl) (ev_neg (by omega) (Ev.now _)), by unfold Signs; omega⟩
theorem all_ok (x : List Int) (hx : x.length ≤ 1000000000000) : ∃ t, Ev (fun k => stanzaref01_All.f k x) t ∧ Signs t 0 x.length := by
 obtain ⟨t, ht, hs⟩ := all_loop x hx x.length 0 [] (by omega) (by omega) (by simp)
 exact ⟨t, ht, hs⟩
end Go.Proofs.Ytigajcipjklknaa.Pure
end
section
/- Clusters of signs: what cells.Make answers, in plain words. -/
namespace Go.Proofs.Ytigajcipjklknaa.Pure
open Go.RowKit Go.Proofs.YtigajcipjklknaaW.PrintWords Go.Proofs.Ytigajcipjklknaa.F

def kindOf (r : Int) : Int := if r = 32 then 1 else if r = 9 then 2 else 0
theorem kind_ok (r : Int) : cells_kind.f r = some (kindOf r) := by
 unfold cells_kind.f kindOf
 split
 ·rfl
 ·split <;> rfl
def lenTo (s : List S50) (a : Nat) : Nat → Int
 | 0 => 0
 | d + 1 => lenTo s a d + (rd_T50 s ((a + d : Nat) : Int)).f2
def cellTo (t : Option (List (Int × Int × Int))) (s : List S50) (a : Nat) : Nat → Int
 | 0 => 0
 | d + 1 => mx (cellTo t s a d) (mn (tabOf t (rd_T50 s ((a + d : Nat) : Int)).f0) 2)
/-- The cluster of the d signs from a. -/
def clu (t : Option (List (Int × Int × Int))) (s : List S50) (a d : Nat) : S48 := ⟨(rd_T50 s (a : Int)).f1, lenTo s a d, cellTo t s a d, if d = 1 then kindOf (rd_T50 s (a : Int)).f0 else 0⟩
def CLs (t : Option (List (Int × Int × Int))) (s : List S50) : List Nat → List S48
 | a :: b :: r => clu t s a (b - a) :: CLs t s (b :: r)
 | _ => []
def cutB (m : List Int) (i : Nat) : Bool := i == 0 || (decide (i < m.length) && rd m (i : Int) != 0)
def cuts (m : List Int) (i : Nat) : List Nat := (List.range i).filter (cutB m)
def nats (l : List Nat) : List Int := l.map fun n : Nat => (n : Int)
theorem CLs_snoc (t : Option (List (Int × Int × Int))) (s : List S50) : ∀ (p : List Nat) (a i : Nat), CLs t s (p ++ [a, i]) = CLs t s (p ++ [a]) ++ [clu t s a (i - a)]
 | [], a, i => rfl
 | [x], a, i => rfl
 | x :: y :: p, a, i => by
  show clu t s x (y - x) :: CLs t s ((y :: p) ++ [a, i]) = clu t s x (y - x) :: (CLs t s ((y :: p) ++ [a]) ++ [clu t s a (i - a)])
  rw [CLs_snoc t s (y :: p) a i]
theorem CLs_length (t : Option (List (Int × Int × Int))) (s : List S50) : ∀ (p : List Nat), (CLs t s p).length = p.length - 1
 | [] => rfl
 | [x] => rfl
 | x :: y :: p => by
  show (CLs t s (y :: p)).length + 1 = _
  rw [CLs_length t s (y :: p)]
  simp
theorem cuts_succ (m : List Int) (i : Nat) : cuts m (i + 1) = cuts m i ++ (if cutB m i = true then [i] else []) := by
 unfold cuts
 rw [List.range_succ, List.filter_append]
 cases hb : cutB m i <;> simp [List.filter, hb]
theorem cuts_last (m : List Int) : ∀ i, 0 < i → ∃ p a, cuts m i = p ++ [a] ∧ a < i ∧ p.length < i
 | 0, h => absurd h (by omega)
 | 1, _ => ⟨[], 0, rfl, by omega, by simp⟩
 | i + 2, _ => by
  rw [cuts_succ]
  obtain ⟨p, a, h, h1, h2⟩ := cuts_last m (i + 1) (by omega)
  by_cases hb : cutB m (i + 1) = true
  ·rw [if_pos hb]
   refine ⟨cuts m (i + 1), i + 1, rfl, by omega, ?_⟩
   rw [h, List.length_append, List.length_singleton]; omega
  ·rw [if_neg hb, List.append_nil]
   exact ⟨p, a, h, by omega, by omega⟩

theorem last_ix {α : Type} (o : List α) (c : α) (hn : o.length ≤ 1000000000000) : wrap64 (((o ++ [c]).length : Int) - 1) = (o.length : Int) := by
 rw [List.length_append, List.length_singleton, w64 (by omega) (by omega)]; omega
theorem rd_lastC (o : List S48) (c : S48) : rd_T48 (o ++ [c]) (o.length : Int) = c := by
 unfold rd_T48
 rw [List.getD_eq_getElem?_getD, Int.toNat_natCast, List.getElem?_append_right (Nat.le_refl _), Nat.sub_self]; rfl
theorem rd_lastI (o : List Int) (c : Int) : rd (o ++ [c]) (o.length : Int) = c := by
 rw [rd_nat, List.getD_eq_getElem?_getD, List.getElem?_append_right (Nat.le_refl _), Nat.sub_self]; rfl
theorem set_last {α : Type} (o : List α) (c v : α) : (o ++ [c]).set (o.length : Int).toNat v = o ++ [v] := by
 rw [Int.toNat_natCast]
 rw [List.set_append_right _ _ (Nat.le_refl _), Nat.sub_self]; rfl
/-- One sign more to the last cluster. -/
def more (t : Option (List (Int × Int × Int))) (c : S48) (own : Prop) [Decidable own] (x : S50) : S48 := ⟨c.f0, wrap64 (c.f1 + x.f2), mx c.f2 (mn (tabOf t x.f0) 2), if own then c.f3 else 0⟩
theorem cells_j1f (s : List S50) (m : List Int) (t : Option (List (Int × Int × Int))) (o : List S48) (c : S48) (w : List Int) (a : Int) (i : Int) (x13 : List S50) (x14 x15 : Int) (x : S50) (h1 : o.length ≤ 1000000000000) (h2 : w.length ≤ 1000000000000) {r : List S48 × List Int}
  (H : Ev (fun k => cells_Make.l0 k s m t (o ++ [more t c (a = i) x]) (w ++ [a]) x13 x14 (wrap64 (x15 + 1))) r) :
  Ev (fun k => cells_Make.j1 k s m t (o ++ [c]) (w ++ [a]) i x13 x14 x15 false x.f0 x.f1 x.f2) r := by
 have e1 := last_ix o c h1
 have e2 := last_ix w a h2
 have l1 : (o.length : Int) < ((o ++ [c]).length : Int) := by rw [List.length_append, List.length_singleton]; omega
 have l2 : (w.length : Int) < ((w ++ [a]).length : Int) := by rw [List.length_append, List.length_singleton]; omega
 refine Ev.step (fun k => by unfold cells_Make.j1; rfl) (ev_neg (by decide) ?_)
 rw [e1, e2, rd_lastI]
 refine ev_pos (by omega) (ev_pos l1 (ev_pos (by omega) (ev_pos l2 ?_)))
 simp only [rd_lastC, set_last]
 by_cases ha : a = i
 ·refine ev_pos ha (ev_let (ev_bind' (show prop_Table_Of.f _ _ = some (tabOf t x.f0) from rfl) ?_))
  simp only [rd_lastC, set_last]
  unfold more at H
  rw [if_pos ha] at H
  exact H
 ·refine ev_neg ha (ev_let (ev_let ?_))
  simp only [rd_lastC, set_last]
  refine ev_bind' (show prop_Table_Of.f _ _ = some (tabOf t x.f0) from rfl) ?_
  unfold more at H
  rw [if_neg ha] at H
  exact H
theorem cells_j1t (s : List S50) (m : List Int) (t : Option (List (Int × Int × Int))) (o : List S48) (w : List Int) (i : Int) (x13 : List S50) (x14 x15 : Int) (x : S50) (h1 : o.length ≤ 1000000000000) (h2 : w.length ≤ 1000000000000) {r : List S48 × List Int}
  (H : Ev (fun k => cells_Make.l0 k s m t (o ++ [more t ⟨x.f1, 0, 0, kindOf x.f0⟩ (i = i) x]) (w ++ [i]) x13 x14 (wrap64 (x15 + 1))) r) :
  Ev (fun k => cells_Make.j1 k s m t o w i x13 x14 x15 true x.f0 x.f1 x.f2) r := by
 have e1 := last_ix o (⟨x.f1, 0, 0, kindOf x.f0⟩ : S48) h1
 have e2 := last_ix w i h2
 have l1 : (o.length : Int) < ((o ++ [(⟨x.f1, 0, 0, kindOf x.f0⟩ : S48)]).length : Int) := by rw [List.length_append, List.length_singleton]; omega
 have l2 : (w.length : Int) < ((w ++ [i]).length : Int) := by rw [List.length_append, List.length_singleton]; omega
 refine Ev.step (fun k => by unfold cells_Make.j1; rfl) (ev_pos rfl (ev_bind' (kind_ok x.f0) (ev_pos (show o.length < 4398046511104 by omega) (ev_let ?_))))
 refine ev_pos (show w.length < 17592186044416 by omega) (ev_let ?_)
 rw [e1, e2, rd_lastI]
 refine ev_pos (by omega) (ev_pos l1 (ev_pos (by omega) (ev_pos l2 (ev_pos rfl (ev_let ?_)))))
 simp only [rd_lastC, set_last]
 refine ev_bind' (show prop_Table_Of.f _ _ = some (tabOf t x.f0) from rfl) ?_
 unfold more at H
 rw [if_pos rfl] at H
 exact H
theorem lenTo_lt {s : List S50} (h : ∀ x ∈ s, 0 ≤ x.f2 ∧ x.f2 ≤ 4) (a : Nat) : ∀ d, 0 ≤ lenTo s a d ∧ lenTo s a d ≤ 4 * d
 | 0 => by unfold lenTo; omega
 | d + 1 => by
  have ih := lenTo_lt h a d
  unfold lenTo
  have : 0 ≤ (rd_T50 s ((a + d : Nat) : Int)).f2 ∧ (rd_T50 s ((a + d : Nat) : Int)).f2 ≤ 4 := by
   unfold rd_T50
   rw [List.getD_eq_getElem?_getD, Int.toNat_natCast]
   cases hq : s[a + d]? with
   | none => exact ⟨by decide, by decide⟩
   | some y => exact h y (List.mem_of_getElem? hq)
  omega
theorem more_own (t : Option (List (Int × Int × Int))) (s : List S50) (h : ∀ x ∈ s, 0 ≤ x.f2 ∧ x.f2 ≤ 4) (i : Nat) (j : Int) : more t ⟨(rd_T50 s (i : Int)).f1, 0, 0, kindOf (rd_T50 s (i : Int)).f0⟩ (j = j) (rd_T50 s (i : Int)) = clu t s i 1 := by
 unfold more clu
 rw [if_pos rfl, if_pos rfl]
 have h1 := lenTo_lt h i 1
 have : lenTo s i 1 = 0 + (rd_T50 s (i : Int)).f2 := rfl
 rw [← this, w64 (by omega) (by omega)]
 rfl
theorem more_old (t : Option (List (Int × Int × Int))) (s : List S50) (h : ∀ x ∈ s, 0 ≤ x.f2 ∧ x.f2 ≤ 4) {a i : Nat} (ha : a < i) (hi : i ≤ 1000000000000) : more t (clu t s a (i - a)) ((a : Int) = (i : Int)) (rd_T50 s (i : Int)) = clu t s a (i + 1 - a) := by
 unfold more
 rw [if_neg (by omega)]
 have hd : i + 1 - a = (i - a) + 1 := by omega
 have hi2 : a + (i - a) = i := by omega
 have h1 := lenTo_lt h a ((i - a) + 1)
 have e1 : lenTo s a ((i - a) + 1) = lenTo s a (i - a) + (rd_T50 s (i : Int)).f2 := by
  show lenTo s a (i - a) + (rd_T50 s ((a + (i - a) : Nat) : Int)).f2 = _
  rw [hi2]
 have e2 : cellTo t s a ((i - a) + 1) = mx (cellTo t s a (i - a)) (mn (tabOf t (rd_T50 s (i : Int)).f0) 2) := by
  show mx (cellTo t s a (i - a)) (mn (tabOf t (rd_T50 s ((a + (i - a) : Nat) : Int)).f0) 2) = _
  rw [hi2]
 have e3 : clu t s a (i - a + 1) = ⟨(rd_T50 s (a : Int)).f1, lenTo s a (i - a + 1), cellTo t s a (i - a + 1), 0⟩ := by
  unfold clu
  rw [if_neg (by omega)]
 rw [hd, e3, e1, e2]
 show (⟨_, wrap64 (lenTo s a (i - a) + (rd_T50 s (i : Int)).f2), _, _⟩ : S48) = _
 rw [← e1, w64 (by omega) (by omega)]
 rfl
theorem nats_snoc (p : List Nat) (a : Nat) : nats (p ++ [a]) = nats p ++ [(a : Int)] := by unfold nats; rw [List.map_append]; rfl
theorem nats_length (p : List Nat) : (nats p).length = p.length := List.length_map _
theorem cuts_le (m : List Int) (i : Nat) : (cuts m i).length ≤ i := by
 unfold cuts
 have := List.length_filter_le (cutB m) (List.range i)
 rwa [List.length_range] at this
theorem cells_loop (s : List S50) (h : ∀ x ∈ s, 0 ≤ x.f2 ∧ x.f2 ≤ 4) (hn : s.length ≤ 1000000000000) (m : List Int) (t : Option (List (Int × Int × Int))) : ∀ (d i : Nat), i + d = s.length →
  Ev (fun k => cells_Make.l0 k s m t (CLs t s (cuts m i ++ [i])) (nats (cuts m i)) s (s.length : Int) (i : Int)) (CLs t s (cuts m s.length ++ [s.length]), nats (cuts m s.length ++ [s.length])) := by
 intro d
 induction d with
 | zero =>
  intro i hi
  obtain rfl : i = s.length := by omega
  refine Ev.step (fun k => by unfold cells_Make.l0; rfl) (ev_neg (by omega) (ev_pos ?_ (ev_ret ?_)))
  ·rw [nats_length]; have := cuts_le m s.length; omega
  ·rw [nats_snoc]
 | succ d ih =>
  intro i hi
  have IH := ih (i + 1) (by omega)
  have hw : wrap64 ((i : Int) + 1) = ((i + 1 : Nat) : Int) := by rw [w64 (by omega) (by omega)]; rfl
  have cl := cuts_le m i
  have cut : cutB m i = true → Ev (fun k => cells_Make.j1 k s m t (CLs t s (cuts m i ++ [i])) (nats (cuts m i)) (i : Int) s (s.length : Int) (i : Int) true (rd_T50 s (i : Int)).f0 (rd_T50 s (i : Int)).f1 (rd_T50 s (i : Int)).f2) (CLs t s (cuts m s.length ++ [s.length]), nats (cuts m s.length ++ [s.length])) := by
   intro hc
   refine cells_j1t s m t _ _ _ _ _ _ _ (by rw [CLs_length, List.length_append, List.length_singleton]; omega) (by rw [nats_length]; omega) ?_
   rw [more_own t s h, hw]
   rw [cuts_succ, if_pos hc, List.append_assoc] at IH
   have := CLs_snoc t s (cuts m i) i (i + 1)
   rw [show i + 1 - i = 1 by omega] at this
   rw [← this, ← nats_snoc]
   exact IH
  have keep : 0 < i → cutB m i = false → Ev (fun k => cells_Make.j1 k s m t (CLs t s (cuts m i ++ [i])) (nats (cuts m i)) (i : Int) s (s.length : Int) (i : Int) false (rd_T50 s (i : Int)).f0 (rd_T50 s (i : Int)).f1 (rd_T50 s (i : Int)).f2) (CLs t s (cuts m s.length ++ [s.length]), nats (cuts m s.length ++ [s.length])) := by
   intro h0 hc
   obtain ⟨p, a, hp, ha, hl⟩ := cuts_last m i h0
   rw [cuts_succ, hc, if_neg (by decide), List.append_nil] at IH
   rw [hp] at IH cl ⊢
   rw [List.length_append, List.length_singleton] at cl
   rw [List.append_assoc] at IH ⊢
   have e1 := CLs_snoc t s p a i
   have e2 := CLs_snoc t s p a (i + 1)
   rw [show p ++ ([a] ++ [i]) = p ++ [a, i] from rfl, e1, nats_snoc]
   rw [show p ++ ([a] ++ [i + 1]) = p ++ [a, i + 1] from rfl, e2, nats_snoc] at IH
   refine cells_j1f s m t _ _ _ _ _ _ _ _ _ (by rw [CLs_length, List.length_append, List.length_singleton]; omega) (by rw [nats_length]; omega) ?_
   rw [more_old t s h ha (by omega), hw]
   exact IH
  refine Ev.step (fun k => by unfold cells_Make.l0; rfl) (ev_pos (by omega) (ev_pos (by omega) (ev_pos (by omega) ?_)))
  by_cases h0 : i = 0
  ·exact ev_pos (by omega) (cut (by unfold cutB; rw [h0]; rfl))
  refine ev_neg (by omega) ?_
  have hb0 : (i == 0) = false := by simpa using h0
  by_cases h1 : i < m.length
  ·refine ev_pos (by omega) ?_
   have hb : cutB m i = (rd m (i : Int) != 0) := by unfold cutB; rw [hb0, decide_eq_true h1]; simp
   cases hc : (rd m (i : Int) != 0)
   ·exact keep (by omega) (hb.trans hc)
   ·exact cut (hb.trans hc)
  ·exact ev_neg (by omega) (keep (by omega) (by unfold cutB; rw [hb0, decide_eq_false h1]; rfl))
theorem cells_ok (s : List S50) (h : ∀ x ∈ s, 0 ≤ x.f2 ∧ x.f2 ≤ 4) (hn : s.length ≤ 1000000000000) (m : List Int) (t : Option (List (Int × Int × Int))) :
  Ev (fun k => cells_Make.f k s m t) (CLs t s (cuts m s.length ++ [s.length]), nats (cuts m s.length ++ [s.length])) := by
 unfold cells_Make.f
 exact cells_loop s h hn m t s.length 0 (by omega)
end Go.Proofs.Ytigajcipjklknaa.Pure
end
section
/- A text of clusters: what items.Make answers, in plain words; the chapter's example. -/
namespace Go.Proofs.Ytigajcipjklknaa.Pure
open Go.RowKit Go.Proofs.YtigajcipjklknaaW.PrintWords Go.Proofs.Ytigajcipjklknaa.F

/-- What may be done ahead of sign i of n. -/
def oppB (br : List Int) (pt : List Bool) (n i : Nat) : Int := if i = n then 2 else if i = 0 ∨ br.length ≤ i then 0 else if rd br (i : Int) = 0 ∧ i < pt.length ∧ rdOf false pt (i : Int) = true then 3 else rd br (i : Int)
theorem items_j1t (s : List S50) (br : List Int) (pt : List Bool) (v : Int) (x : List Int) (x26 x27 : Int) (C : List S48) (o : List Int) (ho : o.length ≤ 1000000000000) {r : List S48 × List Int} (H : Ev (fun k => items_Make.l0 k s br pt x x26 (wrap64 (x27 + 1)) C (o ++ [0])) r) :
  Ev (fun k => items_Make.j1 k s br pt v x x26 x27 true C o) r :=
 Ev.step (fun k => by unfold items_Make.j1; rfl) (ev_pos rfl (ev_pos (by omega) H))
theorem items_j1f (s : List S50) (br : List Int) (pt : List Bool) (i n : Nat) (hi : i ≠ n) (h0 : i ≠ 0) (hb : i < br.length) (x : List Int) (x26 x27 : Int) (C : List S48) (o : List Int) (ho : o.length ≤ 1000000000000) {r : List S48 × List Int} (H : Ev (fun k => items_Make.l0 k s br pt x x26 (wrap64 (x27 + 1)) C (o ++ [oppB br pt n i])) r) :
  Ev (fun k => items_Make.j1 k s br pt (i : Int) x x26 x27 false C o) r := by
 have e : oppB br pt n i = if rd br (i : Int) = 0 ∧ i < pt.length ∧ rdOf false pt (i : Int) = true then 3 else rd br (i : Int) := by
  unfold oppB
  rw [if_neg hi, if_neg (by omega)]
 rw [e] at H
 have hl : o.length < 140737488355328 := by omega
 refine Ev.step (fun k => by unfold items_Make.j1; rfl) (ev_neg (by decide) (ev_pos (by omega) (ev_pos (by omega) ?_)))
 by_cases c1 : rd br (i : Int) = 0
 ·refine ev_pos c1 ?_
  by_cases c2 : i < pt.length
  ·refine ev_pos (by omega) ?_
   by_cases c3 : rdOf false pt (i : Int) = true
   ·rw [if_pos ⟨c1, c2, c3⟩] at H
    exact ev_pos c3 (ev_pos hl H)
   ·rw [if_neg (fun h => c3 h.2.2)] at H
    exact ev_neg c3 (ev_pos hl H)
  ·rw [if_neg (fun h => c2 h.2.1)] at H
   exact ev_neg (by omega) (ev_pos hl H)
 ·rw [if_neg (fun h => c1 h.1)] at H
  exact ev_neg c1 (ev_pos hl H)
theorem items_loop (s : List S50) (br : List Int) (pt : List Bool) (C : List S48) (P : List Nat) (hP : P.length ≤ 1000000000000) : ∀ (d k : Nat), k + d = P.length →
  Ev (fun q => items_Make.l0 q s br pt (nats P) (P.length : Int) (k : Int) C ((P.take k).map (oppB br pt s.length))) (C, P.map (oppB br pt s.length)) := by
 have nl := nats_length P
 intro d
 induction d with
 | zero =>
  intro k hk
  refine Ev.step (fun q => by unfold items_Make.l0; rfl) (ev_neg (by omega) (ev_ret ?_))
  rw [List.take_of_length_le (by omega)]
 | succ d ih =>
  intro k hk
  have IH := ih (k + 1) (by omega)
  have hlt : k < P.length := by omega
  have hr : rd (nats P) (k : Int) = ((P[k] : Nat) : Int) := by
   unfold nats
   rw [rd_nat, List.getD_eq_getElem?_getD, List.getElem?_map, List.getElem?_eq_getElem hlt]; rfl
  have ht : (P.take (k + 1)).map (oppB br pt s.length) = (P.take k).map (oppB br pt s.length) ++ [oppB br pt s.length P[k]] := by
   rw [List.take_add_one, List.map_append, List.getElem?_eq_getElem hlt]; rfl
  rw [ht] at IH
  have hw : wrap64 ((k : Int) + 1) = ((k + 1 : Nat) : Int) := by rw [w64 (by omega) (by omega)]; rfl
  have ho : ((P.take k).map (oppB br pt s.length)).length ≤ 1000000000000 := by rw [List.length_map, List.length_take]; omega
  generalize P[k] = i at hr IH
  generalize (P.take k).map (oppB br pt s.length) = o at ho IH
  refine Ev.step (fun q => by unfold items_Make.l0; rfl) (ev_pos (by omega) (ev_pos (by omega) (ev_pos (by omega) ?_)))
  rw [hr]
  by_cases c1 : i = s.length
  ·rw [show oppB br pt s.length i = 2 by unfold oppB; rw [if_pos c1]] at IH
   refine ev_pos (by omega) (ev_pos (by omega) ?_)
   rw [hw]
   exact IH
  refine ev_neg (by omega) ?_
  by_cases c2 : i = 0
  ·rw [show oppB br pt s.length i = 0 by unfold oppB; rw [if_neg c1, if_pos (Or.inl c2)]] at IH
   exact ev_pos (by omega) (items_j1t s br pt _ _ _ _ _ _ ho (by rw [hw]; exact IH))
  refine ev_neg (by omega) ?_
  by_cases c3 : br.length ≤ i
  ·rw [show oppB br pt s.length i = 0 by unfold oppB; rw [if_neg c1, if_pos (Or.inr c3)]] at IH
   rw [decide_eq_true (by omega)]
   exact items_j1t s br pt _ _ _ _ _ _ ho (by rw [hw]; exact IH)
  ·rw [decide_eq_false (by omega)]
   exact items_j1f s br pt i s.length c1 c2 (by omega) _ _ _ _ _ ho (by rw [hw]; exact IH)
theorem items_ok (s : List S50) (h : ∀ x ∈ s, 0 ≤ x.f2 ∧ x.f2 ≤ 4) (hn : s.length ≤ 1000000000) (m br : List Int) (pt : List Bool) (t : Option (List (Int × Int × Int))) :
  Ev (fun k => items_Make.f k s m br pt t) (CLs t s (cuts m s.length ++ [s.length]), (cuts m s.length ++ [s.length]).map (oppB br pt s.length)) := by
 unfold items_Make.f
 refine ev_bind (cells_ok s h (by omega) m t) ?_
 have hl := cuts_le m s.length
 have := items_loop s br pt (CLs t s (cuts m s.length ++ [s.length])) (cuts m s.length ++ [s.length]) (by rw [List.length_append, List.length_singleton]; omega) (cuts m s.length ++ [s.length]).length 0 (by omega)
 rw [← nats_length] at this
 exact this
end Go.Proofs.Ytigajcipjklknaa.Pure
end
section
/- The chapter's example of a text of clusters. -/
namespace Go.Proofs.Ytigajcipjklknaa.Pure
open Go.RowKit Go.Proofs.YtigajcipjklknaaW.PrintWords Go.Proofs.Ytigajcipjklknaa.F

theorem ay_c : prop_Make.c ([] : List S45) 1 = true := by decide
theorem awake11 : Ev (fun k => stanzalaw11_Awake.f k) true := by
 have h1 : Ev (fun k => items_Make.f k ([] : List S50) ([] : List Int) ([] : List Int) ([] : List Bool) (some [])) (([] : List S48), ([2] : List Int)) := items_ok [] (by decide) (by decide) [] [] [] (some [])
 have h2 : Ev (fun k => items_Make.f k ([(⟨97, 0, 1⟩ : S50), (⟨98, 1, 1⟩ : S50)] : List S50) ([0, 1, 2] : List Int) ([0, 0, 2] : List Int) ([false, true, false] : List Bool) (some [])) (([⟨0, 1, 0, 0⟩, ⟨1, 1, 0, 0⟩] : List S48), ([0, 3, 2] : List Int)) := items_ok [(⟨97, 0, 1⟩ : S50), (⟨98, 1, 1⟩ : S50)] (by decide) (by decide) [0, 1, 2] [0, 0, 2] [false, true, false] (some [])
 have h3 : Ev (fun k => items_Check.f k ([] : List S48) ([2] : List Int)) true := by
  unfold items_Check.f
  refine ev_pos (by decide +kernel) (ev_pos (by decide) (ev_pos (by decide) (ev_pos (by decide) (ev_neg (by decide) ?_))))
  refine Ev.step (fun k => by unfold items_Check.j0; rfl) (ev_neg (by decide) ?_)
  exact Ev.step (fun k => by unfold items_Check.l0; rfl) (ev_neg (by decide) (Ev.now _))
 have h4 : ∀ C, Ev (fun k => items_Parts.f k C ([0, 3, 2] : List Int)) [2] := by
  intro C
  unfold items_Parts.f
  have w : wrap64 (0 + 1) = 1 ∧ wrap64 (1 + 1) = 2 ∧ wrap64 (2 + 1) = 3 := by decide +kernel
  refine Ev.step (fun k => by unfold items_Parts.l0; rfl) (ev_pos (by decide) (ev_pos (by decide) (ev_pos (by decide) (ev_neg (by decide) ?_))))
  rw [w.1]
  refine Ev.step (fun k => by unfold items_Parts.l0; rfl) (ev_pos (by decide) (ev_pos (by decide) (ev_pos (by decide) (ev_neg (by decide) ?_))))
  rw [w.2.1]
  refine Ev.step (fun k => by unfold items_Parts.l0; rfl) (ev_pos (by decide) (ev_pos (by decide) (ev_pos (by decide) (ev_pos (by decide) (ev_pos (by decide) ?_)))))
  rw [w.2.2]
  exact Ev.step (fun k => by unfold items_Parts.l0; rfl) (ev_neg (by decide) (Ev.now _))
 unfold stanzalaw11_Awake.f
 refine ev_pos ay_c (ev_bind' (make_y ay_c) (ev_bind h1 (ev_bind h2 (ev_pos (by decide) (ev_pos (by decide) (ev_pos (by decide) ?_))))))
 refine ev_bind h3 (ev_pos rfl (ev_pos (by decide) (ev_pos (by decide) (ev_pos (by decide) (ev_bind (h4 _) (ev_ret rfl))))))
end Go.Proofs.Ytigajcipjklknaa.Pure
end
section
/- Texts of clusters and widths, as plain functions: what Para makes, columns, what is empty at a line's end, gaps. -/
namespace Go.Proofs.Ytigajcipjklknaa.Pure
open Go.RowKit Go.Proofs.YtigajcipjklknaaW.PrintWords Go.Proofs.Ytigajcipjklknaa.F

def cl (C : List S48) (i : Nat) : S48 := C.getD i z48
theorem rd_cl (C : List S48) (i : Nat) : rd_T48 C (i : Int) = cl C i := rfl
def bit (l : List S90) (i : Nat) : S90 := l.getD i z90
theorem rd_bit (l : List S90) (i : Nat) : rd_T90 l (i : Int) = bit l i := rfl
/-- a bit of small numbers -/
def Small (b : S90) : Prop := (0 ≤ b.f0 ∧ b.f0 ≤ 255) ∧ (0 ≤ b.f1 ∧ b.f1 ≤ 255) ∧ (0 ≤ b.f2 ∧ b.f2 ≤ 255) ∧ (0 ≤ b.f3 ∧ b.f3 ≤ 255)
theorem small_of {b : S90} (h : (Lit.int .u8 b.f0).wf = true ∧ (Lit.int .u8 b.f1).wf = true ∧ (Lit.int .u8 b.f2).wf = true ∧ (Lit.int .u8 b.f3).wf = true) : Small b := by
 rw [wfu8, wfu8, wfu8, wfu8] at h
 exact h
theorem bit_mem {l : List S90} {i : Nat} (h : i < l.length) : bit l i ∈ l := by
 unfold bit
 rw [List.getD_eq_getElem?_getD, List.getElem?_eq_getElem h]
 exact List.getElem_mem h
/-- where cluster i begins -/
def atl (l : List S90) : Nat → Int
 | 0 => 0
 | i + 1 => atl l i + (1 + (bit l i).f2 % 4)
def clus (l : List S90) (i : Nat) : S48 := ⟨atl l i, 1 + (bit l i).f2 % 4, (bit l i).f0 % 3, (bit l i).f1 % 3⟩
def opp (l : List S90) (i : Nat) : Int := if i = l.length then 2 else if i = 0 then 0 else (bit l (i - 1)).f3 % 4
/-- what Para makes of a list of at most 1000 bits -/
def CL (l : List S90) : List S48 := (List.range l.length).map (clus l)
def OP (l : List S90) : List Int := (List.range (l.length + 1)).map (opp l)
theorem CL_len (l : List S90) : (CL l).length = l.length := by simp [CL]
theorem OP_len (l : List S90) : (OP l).length = l.length + 1 := by simp [OP]
theorem cl_CL {l : List S90} {i : Nat} (h : i < l.length) : cl (CL l) i = clus l i := by
 unfold cl CL
 rw [List.getD_eq_getElem?_getD, List.getElem?_map, List.getElem?_range h]; rfl
theorem rd_OP {l : List S90} {i : Nat} (h : i ≤ l.length) : rd (OP l) (i : Int) = opp l i := rd_map_range (opp l) (by omega)
theorem atl_bd (l : List S90) (i : Nat) : (i : Int) ≤ atl l i ∧ atl l i ≤ 4 * i := by
 induction i with
 | zero => simp [atl]
 | succ i ih =>
  have := mod4 (bit l i).f2
  simp only [atl, Int.natCast_add, Int.natCast_one]
  omega
theorem opp_bd (l : List S90) (i : Nat) : 0 ≤ opp l i ∧ opp l i ≤ 3 := by
 unfold opp
 have := mod4 (bit l (i - 1)).f3
 split
 ·omega
 ·split <;> omega

/-- clusters whose cells and kinds are small, and at most 4000 of them -/
structure Good (C : List S48) : Prop where
 len : C.length ≤ 4000
 cells : ∀ i, 0 ≤ (cl C i).f2 ∧ (cl C i).f2 ≤ 2
 kind : ∀ i, 0 ≤ (cl C i).f3 ∧ (cl C i).f3 ≤ 2
theorem cl_out {C : List S48} {i : Nat} (h : C.length ≤ i) : cl C i = z48 := by
 unfold cl
 rw [List.getD_eq_getElem?_getD, List.getElem?_eq_none h]; rfl
theorem good_CL {l : List S90} (h : l.length ≤ 4000) : Good (CL l) := by
 refine ⟨by rw [CL_len]; exact h, fun i => ?_, fun i => ?_⟩
 ·by_cases hi : i < l.length
  ·rw [cl_CL hi]; exact mod3 _
  ·rw [cl_out (by rw [CL_len]; omega)]; exact ⟨Int.le_refl _, by decide⟩
 ·by_cases hi : i < l.length
  ·rw [cl_CL hi]; exact mod3 _
  ·rw [cl_out (by rw [CL_len]; omega)]; exact ⟨Int.le_refl _, by decide⟩

/-- the column behind a cluster -/
def nxt (c : S48) (x t : Int) : Int := if c.f3 = 2 then x + t - x % t else x + c.f2
/-- the column n clusters behind boundary 'from' -/
def col (C : List S48) (fr : Nat) (t : Int) : Nat → Int
 | 0 => 0
 | n + 1 => nxt (cl C (fr + n)) (col C fr t n) t
def emp (c : S48) : Bool := c.f3 == 1 || (c.f3 == 0 && c.f2 == 0)
/-- of n clusters behind 'from': how many are left without what is empty at the end -/
def trm (C : List S48) (fr : Nat) : Nat → Nat
 | 0 => 0
 | n + 1 => if emp (cl C (fr + n)) then trm C fr n else n + 1
def cel (C : List S48) (fr n : Nat) (e t : Int) : Int := col C fr t (trm C fr n) + if e = 3 then 1 else 0
/-- how many spaces there are among n clusters behind 'from' -/
def spc (C : List S48) (fr : Nat) : Nat → Nat
 | 0 => 0
 | n + 1 => spc C fr n + if (cl C (fr + n)).f3 = 1 then 1 else 0
def gap (C : List S48) (fr n : Nat) : Nat := spc C fr (trm C fr n)

theorem nxt_bd {c : S48} {x t : Int} (h0 : 0 ≤ c.f2 ∧ c.f2 ≤ 2) (_ : 0 ≤ x) (ht : 1 ≤ t ∧ t ≤ 64) : x ≤ nxt c x t ∧ nxt c x t ≤ x + 64 := by
 unfold nxt
 have h1 := Int.emod_nonneg x (by omega : t ≠ 0)
 have h2 := Int.emod_lt_of_pos x (by omega : 0 < t)
 split <;> omega
theorem col_bd {C : List S48} (g : Good C) (fr : Nat) {t : Int} (ht : 1 ≤ t ∧ t ≤ 64) (n : Nat) : 0 ≤ col C fr t n ∧ col C fr t n ≤ 64 * n := by
 induction n with
 | zero => simp [col]
 | succ n ih =>
  have := nxt_bd (g.cells (fr + n)) ih.1 ht
  simp only [col, Int.natCast_add, Int.natCast_one]
  omega
theorem col_mono {C : List S48} (g : Good C) (fr : Nat) {t : Int} (ht : 1 ≤ t ∧ t ≤ 64) {m n : Nat} (h : m ≤ n) : col C fr t m ≤ col C fr t n := by
 induction n with
 | zero => rw [show m = 0 from by omega]; exact Int.le_refl _
 | succ n ih =>
  rcases Nat.lt_or_ge n m with h1 | h1
  ·rw [show m = n + 1 from by omega]; exact Int.le_refl _
  ·have := nxt_bd (g.cells (fr + n)) (col_bd g fr ht n).1 ht
   have := ih h1
   simp only [col]
   omega
theorem trm_le (C : List S48) (fr n : Nat) : trm C fr n ≤ n := by
 induction n with
 | zero => exact Nat.le_refl _
 | succ n ih =>
  unfold trm
  split <;> omega
theorem trm_mono (C : List S48) (fr : Nat) {m n : Nat} (h : m ≤ n) : trm C fr m ≤ trm C fr n := by
 induction n with
 | zero => rw [show m = 0 from by omega]; exact Nat.le_refl _
 | succ n ih =>
  rcases Nat.lt_or_ge n m with h1 | h1
  ·rw [show m = n + 1 from by omega]; exact Nat.le_refl _
  ·have h2 := ih h1
   have h3 := trm_le C fr m
   rw [show trm C fr (n + 1) = if emp (cl C (fr + n)) then trm C fr n else n + 1 from rfl]
   split <;> omega
theorem trm_trm (C : List S48) (fr n : Nat) : trm C fr (trm C fr n) = trm C fr n := by
 induction n with
 | zero => rfl
 | succ n ih =>
  by_cases h : emp (cl C (fr + n)) = true
  ·rw [show trm C fr (n + 1) = trm C fr n from if_pos h]; exact ih
  ·rw [show trm C fr (n + 1) = n + 1 from if_neg h, show trm C fr (n + 1) = n + 1 from if_neg h]
theorem spc_le (C : List S48) (fr n : Nat) : spc C fr n ≤ n := by
 induction n with
 | zero => exact Nat.le_refl _
 | succ n ih =>
  unfold spc
  split <;> omega
theorem cel_bd {C : List S48} (g : Good C) (fr n : Nat) (e : Int) {t : Int} (ht : 1 ≤ t ∧ t ≤ 64) : 0 ≤ cel C fr n e t ∧ cel C fr n e t ≤ 64 * n + 1 := by
 have h1 := col_bd g fr ht (trm C fr n)
 have h2 := trm_le C fr n
 unfold cel
 split <;> omega
end Go.Proofs.Ytigajcipjklknaa.Pure
end
section
/- Para comes to the plain text of clusters. -/
namespace Go.Proofs.Ytigajcipjklknaa.Pure
open Go.RowKit Go.Proofs.YtigajcipjklknaaW.PrintWords Go.Proofs.Ytigajcipjklknaa.F

/-! ### Para -/
theorem para_l1 {l : List S90} (hl : l.length ≤ 1000) (hs : ∀ b ∈ l, Small b) : ∀ (d i : Nat), i + d = l.length →
  Ev (fun k => h3_Para.l1 k l (i : Int) (CL l) ((List.range i).map (opp l))) (CL l, OP l) := by
 intro d
 induction d with
 | zero =>
  intro i hi
  refine Ev.step (fun k => by unfold h3_Para.l1; rfl) (ev_neg (by rw [CL_len]; omega) (ev_pos (by simp; omega) (ev_ret ?_)))
  have : opp l i = 2 := by unfold opp; rw [if_pos (by omega)]
  rw [← this, map_range_snoc, show i + 1 = l.length + 1 from by omega]
  rfl
 | succ d ih =>
  intro i hi
  refine Ev.step (fun k => by unfold h3_Para.l1; rfl) (ev_pos (by rw [CL_len]; omega) ?_)
  have hn : wrap64 ((i : Int) + 1) = ((i + 1 : Nat) : Int) := by rw [w64 (by omega) (by omega)]; rfl
  have hlen : ((List.range i).map (opp l)).length < 140737488355328 := by simp; omega
  by_cases h0 : i = 0
  ·subst h0
   refine ev_neg (by omega) (ev_pos hlen ?_)
   rw [hn, show (0 : Int) = opp l 0 from by unfold opp; rw [if_neg (by omega)]; rfl, map_range_snoc]
   exact ih 1 (by omega)
  ·obtain ⟨j, rfl⟩ : ∃ j, i = j + 1 := ⟨i - 1, by omega⟩
   refine ev_pos (by omega) ?_
   rw [show wrap64 (((j + 1 : Nat) : Int) - 1) = (j : Int) from by rw [w64 (by omega) (by omega)]; omega]
   refine ev_pos (by omega) (ev_pos (by omega) (ev_pos hlen ?_))
   have hb := hs _ (bit_mem (show j < l.length from by omega))
   rw [hn, rd_bit, tmodp hb.2.2.2.1, show (bit l j).f3 % 4 = opp l (j + 1) from by unfold opp; rw [if_neg (by omega), if_neg (by omega)]; rfl, map_range_snoc]
   exact ih (j + 1 + 1) (by omega)
theorem para_j1 {l : List S90} (hl : l.length ≤ 1000) (hs : ∀ b ∈ l, Small b) : Ev (fun k => h3_Para.j1 k l (CL l)) (CL l, OP l) :=
 Ev.step (fun k => by unfold h3_Para.j1; rfl) (para_l1 hl hs l.length 0 (by omega))
theorem para_l0 {l : List S90} (hl : l.length ≤ 1000) (hs : ∀ b ∈ l, Small b) : ∀ (d i : Nat), i + d = l.length →
  Ev (fun k => h3_Para.l0 k l (atl l i) (i : Int) ((List.range i).map (clus l))) (CL l, OP l) := by
 intro d
 induction d with
 | zero =>
  intro i hi
  refine Ev.step (fun k => by unfold h3_Para.l0; rfl) (ev_neg (by omega) ?_)
  rw [show i = l.length from by omega]
  exact para_j1 hl hs
 | succ d ih =>
  intro i hi
  have ha := atl_bd l i
  have hb := hs _ (bit_mem (show i < l.length from by omega))
  have m4 := mod4 (bit l i).f2
  have m3 := mod3 (bit l i).f0
  refine Ev.step (fun k => by unfold h3_Para.l0; rfl) (ev_pos (by omega) (ev_pos (by omega) (ev_pos (by omega) (ev_pos (by simp; omega) ?_))))
  rw [rd_bit, tmodp hb.2.2.1.1, tmodp hb.1.1, tmodp hb.2.1.1, w64 (x := (bit l i).f2 % 4) (by omega) (by omega), w64 (x := 1 + (bit l i).f2 % 4) (by omega) (by omega), w64 (x := (bit l i).f0 % 3) (by omega) (by omega),
   w64 (x := (i : Int) + 1) (by omega) (by omega), w64 (x := atl l i + (1 + (bit l i).f2 % 4)) (by omega) (by omega)]
  rw [show (⟨atl l i, 1 + (bit l i).f2 % 4, (bit l i).f0 % 3, (bit l i).f1 % 3⟩ : S48) = clus l i from rfl, map_range_snoc]
  exact ih (i + 1) (by omega)
theorem para_ev {l : List S90} (hl : l.length ≤ 1000) (hs : ∀ b ∈ l, Small b) : Ev (fun k => h3_Para.f k l) (CL l, OP l) :=
 para_l0 hl hs l.length 0 (by omega)

end Go.Proofs.Ytigajcipjklknaa.Pure
end
section
/- What may be done at a place; where the parts end. -/
namespace Go.Proofs.Ytigajcipjklknaa.Pure
open Go.RowKit Go.Proofs.YtigajcipjklknaaW.PrintWords Go.Proofs.Ytigajcipjklknaa.F

def op (O : List Int) (i : Nat) : Int := O.getD i 0
theorem rd_op (O : List Int) (i : Nat) : rd O (i : Int) = op O i := rfl
def PT (O : List Int) : List Nat := (List.range O.length).filter (fun i => op O i = 2)
end Go.Proofs.Ytigajcipjklknaa.Pure
end
section
/- The code's items.Parts comes to the plain parts. -/
namespace Go.Proofs.Ytigajcipjklknaa.Pure
open Go.RowKit Go.Proofs.YtigajcipjklknaaW.PrintWords Go.Proofs.Ytigajcipjklknaa.F

theorem iparts_l0 {O : List Int} (hl : O.length ≤ 4001) : ∀ (d i : Nat), i + d = O.length →
  Ev (fun k => items_Parts.l0 k (((List.range i).filter (fun i => op O i = 2)).map (fun i : Nat => (i : Int))) O (O.length : Int) (i : Int)) ((PT O).map (fun i : Nat => (i : Int))) := by
 intro d
 induction d with
 | zero =>
  intro i hi
  refine Ev.step (fun k => by unfold items_Parts.l0; rfl) (ev_neg (by omega) (ev_ret ?_))
  rw [show i = O.length from by omega]
  rfl
 | succ d ih =>
  intro i hi
  have ih' := ih (i + 1) (by omega)
  rw [List.range_succ, List.filter_append, List.map_append] at ih'
  refine Ev.step (fun k => by unfold items_Parts.l0; rfl) (ev_pos (by omega) (ev_pos (by omega) (ev_pos (by omega) ?_)))
  rw [rd_op, show wrap64 ((i : Int) + 1) = ((i + 1 : Nat) : Int) from by rw [w64 (by omega) (by omega)]; rfl]
  by_cases h : op O i = 2
  ·refine ev_pos h (ev_pos ?_ ?_)
   ·have := List.length_filter_le (fun i => decide (op O i = 2)) (List.range i)
    rw [List.length_range] at this
    rw [List.length_map]
    omega
   ·simpa [h] using ih'
  ·refine ev_neg h ?_
   simpa [h] using ih'
theorem iparts_ev (C : List S48) {O : List Int} (hl : O.length ≤ 4001) : Ev (fun k => items_Parts.f k C O) ((PT O).map (fun i : Nat => (i : Int))) :=
 iparts_l0 hl O.length 0 (by omega)
end Go.Proofs.Ytigajcipjklknaa.Pure
end
section
/- The document's Parts comes to the plain parts. -/
namespace Go.Proofs.Ytigajcipjklknaa.Pure
open Go.RowKit Go.Proofs.YtigajcipjklknaaW.PrintWords Go.Proofs.Ytigajcipjklknaa.F

theorem rparts_l0 {C : List S48} {O : List Int} (hl : O.length ≤ 4001) : ∀ (d i : Nat), i + d = O.length →
  Ev (fun k => r0_Parts.l0 k (((List.range i).filter (fun i => op O i = 2)).map (fun i : Nat => (i : Int))) (i : Int) C O) ((PT O).map (fun i : Nat => (i : Int))) := by
 intro d
 induction d with
 | zero =>
  intro i hi
  refine Ev.step (fun k => by unfold r0_Parts.l0; rfl) (ev_neg (by omega) (ev_ret ?_))
  rw [show i = O.length from by omega]
  rfl
 | succ d ih =>
  intro i hi
  have ih' := ih (i + 1) (by omega)
  rw [List.range_succ, List.filter_append, List.map_append] at ih'
  refine Ev.step (fun k => by unfold r0_Parts.l0; rfl) (ev_pos (by omega) (ev_pos (by omega) ?_))
  rw [rd_op, show wrap64 ((i : Int) + 1) = ((i + 1 : Nat) : Int) from by rw [w64 (by omega) (by omega)]; rfl]
  by_cases h : op O i = 2
  ·refine ev_pos h (ev_pos ?_ ?_)
   ·have := List.length_filter_le (fun i => decide (op O i = 2)) (List.range i)
    rw [List.length_range] at this
    rw [List.length_map]
    omega
   ·simpa [h] using ih'
  ·refine ev_neg h ?_
   simpa [h] using ih'
theorem rparts_ev (C : List S48) {O : List Int} (hl : O.length ≤ 4001) : Ev (fun k => r0_Parts.f k C O) ((PT O).map (fun i : Nat => (i : Int))) :=
 rparts_l0 hl O.length 0 (by omega)
end Go.Proofs.Ytigajcipjklknaa.Pure
end
section
/- A text's places in bytes. -/
namespace Go.Proofs.Ytigajcipjklknaa.Pure
open Go.RowKit Go.Proofs.YtigajcipjklknaaW.PrintWords Go.Proofs.Ytigajcipjklknaa.F
theorem bytes_l0 {l : List S90} (hl : l.length ≤ 1000) : ∀ (d i : Nat), i + d = l.length →
  Ev (fun k => items_Bytes.l0 k (atl l i) (CL l) ((CL l).length : Int) (i : Int)) (atl l l.length) := by
 have hc := CL_len l
 intro d
 induction d with
 | zero =>
  intro i hi
  refine Ev.step (fun k => by unfold items_Bytes.l0; rfl) (ev_neg (by omega) (ev_ret ?_))
  rw [show i = l.length from by omega]
 | succ d ih =>
  intro i hi
  have ha := atl_bd l i
  have m4 := mod4 (bit l i).f2
  refine Ev.step (fun k => by unfold items_Bytes.l0; rfl) (ev_pos (by omega) (ev_pos (by omega) (ev_pos (by omega) ?_)))
  rw [rd_cl, cl_CL (by omega), show wrap64 ((i : Int) + 1) = ((i + 1 : Nat) : Int) from by rw [w64 (by omega) (by omega)]; rfl,
   show wrap64 (atl l i + (clus l i).f1) = atl l (i + 1) from by show wrap64 (atl l i + (1 + (bit l i).f2 % 4)) = atl l i + (1 + (bit l i).f2 % 4); exact w64 (by omega) (by omega)]
  exact ih (i + 1) (by omega)
theorem bytes_ev {l : List S90} (hl : l.length ≤ 1000) (O : List Int) : Ev (fun k => items_Bytes.f k (CL l) O) (atl l l.length) := by
 have := bytes_l0 hl l.length 0 (by omega)
 exact this
end Go.Proofs.Ytigajcipjklknaa.Pure
end
section
/- SameInts comes to the equality of lists. -/
namespace Go.Proofs.Ytigajcipjklknaa.Pure
open Go.RowKit Go.Proofs.YtigajcipjklknaaW.PrintWords Go.Proofs.Ytigajcipjklknaa.F
theorem same_loop (a b : List Int) (hl : a.length = b.length) (hm : (a.length : Int) ≤ 9223372036854775806) : ∀ (d i : Nat), i + d = a.length → (∀ j, j < i → a.getD j 0 = b.getD j 0) →
  Ev (fun k => stanzaref01_SameInts.l0 k a b (i : Int)) (decide (a = b)) := by
 intro d
 induction d with
 | zero =>
  intro i hi hs
  refine Ev.step (fun k => by unfold stanzaref01_SameInts.l0; rfl) (ev_neg (by omega) (ev_ret ?_))
  have hab : a = b := by
   refine List.ext_getElem hl (fun j h1 h2 => ?_)
   have := hs j (by omega)
   rwa [List.getD_eq_getElem?_getD, List.getD_eq_getElem?_getD, List.getElem?_eq_getElem h1, List.getElem?_eq_getElem h2] at this
  simp [hab]
 | succ d ih =>
  intro i hi hs
  refine Ev.step (fun k => by unfold stanzaref01_SameInts.l0; rfl) (ev_pos (by omega) (ev_pos (by omega) (ev_pos (by omega) ?_)))
  rw [rd_nat, rd_nat]
  by_cases he : a.getD i 0 = b.getD i 0
  ·refine ev_pos he ?_
   rw [show wrap64 ((i : Int) + 1) = ((i + 1 : Nat) : Int) from by rw [w64 (by omega) (by omega)]; rfl]
   refine ih (i + 1) (by omega) (fun j hj => ?_)
   rcases Nat.lt_succ_iff_lt_or_eq.1 hj with h | h
   ·exact hs j h
   ·exact h ▸ he
  ·refine ev_neg he (ev_ret ?_)
   have : a ≠ b := fun h => he (by rw [h])
   simp [this]
theorem same_ints (a b : List Int) (hm : (a.length : Int) ≤ 9223372036854775806) : Ev (fun k => stanzaref01_SameInts.f k a b) (decide (a = b)) := by
 unfold stanzaref01_SameInts.f
 by_cases hl : a.length = b.length
 ·exact ev_pos (by omega) (same_loop a b hl hm a.length 0 (by omega) (fun j hj => by omega))
 ·refine ev_neg (by omega) (ev_ret ?_)
  have : a ≠ b := fun h => hl (by rw [h])
  simp [this]

end Go.Proofs.Ytigajcipjklknaa.Pure
end
section
/- ItemsParts, plain: the parts, and the bytes, of any text of clusters. -/
namespace Go.Proofs.Ytigajcipjklknaa.Pure
open Go.RowKit Go.Proofs.YtigajcipjklknaaW.PrintWords Go.Proofs.Ytigajcipjklknaa.F

theorem ip_l0 {l : List S90} (hl : l.length ≤ 1000) : ∀ (d i : Nat), i + d = l.length →
  Ev (fun k => stanzalaw11_ItemsParts.l0 k (atl l i) (CL l) ((CL l).length : Int) (i : Int) (CL l) (OP l)) true := by
 have hc := CL_len l
 intro d
 induction d with
 | zero =>
  intro i hi
  have ho : (OP l).length ≤ 4001 := by rw [OP_len]; omega
  have hp : (PT (OP l)).length ≤ (OP l).length := by
   unfold PT
   have := List.length_filter_le (fun i => decide (op (OP l) i = 2)) (List.range (OP l).length)
   rwa [List.length_range] at this
  refine Ev.step (fun k => by unfold stanzalaw11_ItemsParts.l0; rfl) (ev_neg (by omega) (ev_bind (iparts_ev (CL l) ho) (ev_bind (rparts_ev (CL l) ho) (ev_bind (same_ints ((PT (OP l)).map (fun i : Nat => (i : Int))) ((PT (OP l)).map (fun i : Nat => (i : Int))) (by rw [List.length_map]; omega)) ?_))))
  refine ev_pos (by simp) (ev_bind (bytes_ev hl (OP l)) (ev_ret ?_))
  rw [show i = l.length from by omega]
  simp
 | succ d ih =>
  intro i hi
  have ha := atl_bd l i
  have m4 := mod4 (bit l i).f2
  refine Ev.step (fun k => by unfold stanzalaw11_ItemsParts.l0; rfl) (ev_pos (by omega) (ev_pos (by omega) (ev_pos (by omega) ?_)))
  rw [rd_cl, cl_CL (by omega), show wrap64 ((i : Int) + 1) = ((i + 1 : Nat) : Int) from by rw [w64 (by omega) (by omega)]; rfl,
   show wrap64 (atl l i + (clus l i).f1) = atl l (i + 1) from by show wrap64 (atl l i + (1 + (bit l i).f2 % 4)) = atl l i + (1 + (bit l i).f2 % 4); exact w64 (by omega) (by omega)]
  exact ih (i + 1) (by omega)
theorem ItemsParts : stanzalaw11_ItemsParts.Pure := by
 intro l h
 have : Ev (fun k => stanzalaw11_ItemsParts.f k l) true := by
  unfold stanzalaw11_ItemsParts.f
  refine ev_bind awake11 (ev_pos rfl ?_)
  by_cases hl : (l.length : Int) > 1000
  ·exact ev_pos hl (Ev.now _)
  exact ev_neg hl (ev_bind (para_ev (by omega) (fun b hb => small_of (h.2 b hb))) (ip_l0 (by omega) l.length 0 (by omega)))
 obtain ⟨k, hk⟩ := this
 exact ⟨k, hk k (Nat.le_refl k)⟩
end Go.Proofs.Ytigajcipjklknaa.Pure
end
