/- Plain proofs: what the printed functions compute. -/
import Derived.Test.YtigajcipjklknaaXCellsMakes0
import Derived.WalkKit
import Derived.Test.YtigajcipjklknaaVCellsMakes0
import Derived.Test.YtigajcipjklknaaVCellsMakes1
section
/- Helpers of the plain proofs: eventual values (Ev), wrapped numbers, lists. -/
namespace Go.Proofs.Ytigajcipjklknaa.Pure
open Go.RowKit Go.Proofs.YtigajcipjklknaaW.PrintWords
theorem ev_pos {α : Type} {c : Prop} [Decidable c] {a b : Nat → Option α} {r : α} (h : c) (H : Ev a r) : Ev (fun k => if c then a k else b k) r := by simpa [h] using H
theorem ev_neg {α : Type} {c : Prop} [Decidable c] {a b : Nat → Option α} {r : α} (h : ¬ c) (H : Ev b r) : Ev (fun k => if c then a k else b k) r := by simpa [h] using H
theorem ev_ret {α : Type} {x r : α} (h : x = r) : Ev (fun _ => some x) r := by subst h; exact Ev.now _
theorem ev_bind {α β : Type} {g : Nat → Option α} {f : Nat → α → Option β} {a : α} {r : β} (h : Ev g a) (k : Ev (fun n => f n a) r) : Ev (fun n => (g n).bind (f n)) r := Ev.bind h k
theorem ev_bind' {α β : Type} {o : Option α} {f : Nat → α → Option β} {a : α} {r : β} (h : o = some a) (k : Ev (fun n => f n a) r) : Ev (fun n => o.bind (f n)) r := by subst h; exact k
theorem ev_let {α β : Type} {a : α} {f : Nat → α → Option β} {r : β} (k : Ev (fun n => f n a) r) : Ev (fun n => (some a).bind (f n)) r := k
theorem w64 {x : Int} (h1 : -9223372036854775808 ≤ x) (h2 : x ≤ 9223372036854775807) : wrap64 x = x := by unfold wrap64; omega
theorem tmodp {a b : Int} (h : 0 ≤ a) : Int.tmod a b = a % b := Int.tmod_eq_emod_of_nonneg h
theorem wfu8 {x : Int} : (Lit.int .u8 x).wf = true ↔ 0 ≤ x ∧ x ≤ 255 := by simp [Lit.wf, IntKind.min, IntKind.max, IntKind.signed, IntKind.bits]
theorem u64mod {x n : Int} (h1 : 0 < n) (h2 : n ≤ 9223372036854775807) : wrap64 (Int.tmod (IntKind.u64.wrap x) (IntKind.u64.wrap n)) = (x % 18446744073709551616) % n := by
 have hw : ∀ y, IntKind.u64.wrap y = y % 18446744073709551616 := fun y => by simp [IntKind.wrap, IntKind.signed, IntKind.bits]
 rw [hw, hw, Int.emod_eq_of_lt (by omega) (by omega : n < 18446744073709551616), tmodp (by omega)]
 have h3 := Int.emod_nonneg (x % 18446744073709551616) (by omega : n ≠ 0)
 have h4 := Int.emod_lt_of_pos (x % 18446744073709551616) h1
 exact w64 (by omega) (by omega)
theorem rd_nat (xs : List Int) (n : Nat) : rd xs (n : Int) = xs.getD n 0 := rfl
end Go.Proofs.Ytigajcipjklknaa.Pure
end
section
/- What tables of ranges hold: the document's answer (Of), when a list is right; no condition but that lengths fit. -/
namespace Go.Proofs.Ytigajcipjklknaa.Pure
open Go.RowKit Go.Proofs.YtigajcipjklknaaW.PrintWords Go.Proofs.Ytigajcipjklknaa.F
theorem rd_range (xs : List S45) (i : Nat) (h : i < xs.length) : rd_T45 xs (i : Int) = xs[i] := by
 unfold rd_T45
 rw [List.getD_eq_getElem?_getD, Int.toNat_natCast, List.getElem?_eq_getElem h]
 rfl
theorem ofR_stay (l : List (Int × Int × Int)) (r a : Int) (h : ∀ y ∈ l, ¬ (y.1 ≤ r ∧ r ≤ y.2.1)) : l.foldl (fun a y => if y.1 ≤ r ∧ r ≤ y.2.1 then y.2.2 else a) a = a := by
 induction l with
 | nil => rfl
 | cons x l ih => rw [List.foldl_cons, if_neg (h x (by simp)), ih (fun y hy => h y (by simp [hy]))]
theorem ofR_cons {most last : Int} {x : Int × Int × Int} {l : List (Int × Int × Int)} (h : chkGo most last (x :: l) = true) (r : Int) : ofR (x :: l) r = if x.1 ≤ r ∧ r ≤ x.2.1 then x.2.2 else ofR l r := by
 have h2 : chkGo most x.2.1 l = true := by
  unfold chkGo at h
  split at h
  ·cases h
  ·exact h
 show List.foldl _ _ _ = _
 rw [List.foldl_cons]
 by_cases hc : x.1 ≤ r ∧ r ≤ x.2.1
 ·rw [if_pos hc, if_pos hc]
  refine ofR_stay l r _ (fun y hy => ?_)
  obtain ⟨m, hm⟩ := List.mem_iff_getElem?.1 hy
  have := chkGo_get h2 m y hm
  omega
 ·rw [if_neg hc, if_neg hc]
  rfl
theorem chkGo_tail {most last : Int} {x : Int × Int × Int} {l : List (Int × Int × Int)} (h : chkGo most last (x :: l) = true) : chkGo most x.2.1 l = true := by
 unfold chkGo at h
 split at h
 ·cases h
 ·exact h
theorem of_loop (l : List S45) (hn : l.length ≤ 100000) (r most : Int) : ∀ (d i : Nat) (last : Int), i + d = l.length → chkGo most last ((l.drop i).map prop_Make.t) = true →
  Ev (fun k => stanzaref01_Of.l0 k l r (i : Int)) (ofR ((l.drop i).map prop_Make.t) r) := by
 intro d
 induction d with
 | zero =>
  intro i last hi hc
  refine Ev.step (fun k => by unfold stanzaref01_Of.l0; rfl) (ev_neg (by omega) (ev_ret ?_))
  rw [List.drop_eq_nil_of_le (by omega)]
  rfl
 | succ d ih =>
  intro i last hi hc
  have hlt : i < l.length := by omega
  rw [List.drop_eq_getElem_cons hlt, List.map_cons] at hc ⊢
  rw [ofR_cons hc]
  have hi2 := ih (i + 1) _ (by omega) (chkGo_tail hc)
  have hw : wrap64 ((i : Int) + 1) = ((i + 1 : Nat) : Int) := by rw [w64 (by omega) (by omega)]; rfl
  refine Ev.step (fun k => by unfold stanzaref01_Of.l0; rfl) (ev_pos (by omega) (ev_pos (by omega) ?_))
  rw [rd_range l i hlt, hw]
  show Ev _ (if (l[i]).f0 ≤ r ∧ r ≤ (l[i]).f1 then (l[i]).f2 else _)
  by_cases h1 : (l[i]).f0 ≤ r
  ·refine ev_pos h1 ?_
   by_cases h2 : r ≤ (l[i]).f1
   ·rw [if_pos ⟨h1, h2⟩]; exact ev_pos h2 (Ev.now _)
   ·rw [if_neg (fun h => h2 h.2)]; exact ev_neg h2 hi2
  ·rw [if_neg (fun h => h1 h.1)]; exact ev_neg h1 hi2
theorem of_ref (l : List S45) (hn : l.length ≤ 100000) {most last : Int} (hc : chkGo most last (l.map prop_Make.t) = true) (r : Int) : Ev (fun k => stanzaref01_Of.f k l r) (ofR (l.map prop_Make.t) r) := by
 unfold stanzaref01_Of.f
 have := of_loop l hn r most l.length 0 last (by omega) (by simpa using hc)
 simpa using this
theorem tabOf_eq {l : List (Int × Int × Int)} {most : Int} (hc : chkGo most (-1) l = true) (r : Int) : tabOf (some l) r = ofR l r := by
 show (if r < 0 ∨ r > 1114111 then 0 else ofR l r) = _
 by_cases h : r < 0 ∨ r > 1114111
 ·rw [if_pos h]
  refine (ofR_none r (fun y hy => ?_)).symm
  obtain ⟨m, hm⟩ := List.mem_iff_getElem?.1 hy
  have := chkGo_get hc m y hm
  omega
 ·rw [if_neg h]
def endOf (l : List (Int × Int × Int)) : Int := match l.getLast? with
 | none => -1
 | some y => y.2.1
theorem chkGo_snoc {most : Int} : ∀ (l : List (Int × Int × Int)) (last : Int) (x : Int × Int × Int), chkGo most last l = true → (match l.getLast? with | none => last | some y => y.2.1) < x.1 → x.1 ≤ x.2.1 → x.2.1 ≤ 1114111 → 0 ≤ x.2.2 → x.2.2 < most → x.2.2 ≤ 255 → chkGo most last (l ++ [x]) = true
 | [], last, x, _, h1, h2, h3, h4, h5, h6 => by
  simp only [List.getLast?_nil] at h1
  show (if x.1 ≤ last ∨ x.2.1 < x.1 ∨ x.2.1 > 1114111 ∨ x.2.2 < 0 ∨ x.2.2 ≥ most ∨ x.2.2 > 255 then false else chkGo most x.2.1 []) = true
  rw [if_neg (by omega)]
  rfl
 | y :: l, last, x, h, h1, h2, h3, h4, h5, h6 => by
  have h' := h
  unfold chkGo at h
  split at h
  ·cases h
  ·rename_i hy
   rw [List.cons_append]
   unfold chkGo
   rw [if_neg hy]
   refine chkGo_snoc l y.2.1 x h ?_ h2 h3 h4 h5 h6
   cases l with
   | nil => simpa using h1
   | cons z l => rw [List.getLast?_cons_cons] at h1; cases hq : (z :: l).getLast? with
    | none => simp at hq
    | some q => rw [hq] at h1; exact h1
theorem make_y {l : List S45} {m : Int} (h : prop_Make.c l m = true) : prop_MakeY.f l m = some (some (l.map prop_Make.t)) := by unfold prop_MakeY.f; rw [if_pos h]
end Go.Proofs.Ytigajcipjklknaa.Pure
end
section
/- Signs of a text: All's row runs from the first byte to the last one, each sign with one to four bytes. -/
namespace Go.Proofs.Ytigajcipjklknaa.Pure
open Go.RowKit Go.Proofs.YtigajcipjklknaaW.PrintWords Go.Proofs.Ytigajcipjklknaa.F
theorem length_some (b : Int) : ∃ n, Ev (fun k => stanzaref01_length.f k b) n := by
 have j1 : ∀ (b : Int) (c : Bool), ∃ n, Ev (fun k => stanzaref01_length.j1 k b c) n := by
  intro b c
  cases c
  ·by_cases h1 : b ≥ 240
   ·by_cases h2 : b ≤ 244
    ·exact ⟨4, Ev.step (fun k => by unfold stanzaref01_length.j1; rfl) (ev_neg (by decide) (ev_pos h1 (ev_pos h2 (Ev.now _))))⟩
    ·exact ⟨0, Ev.step (fun k => by unfold stanzaref01_length.j1; rfl) (ev_neg (by decide) (ev_pos h1 (ev_neg h2 (Ev.now _))))⟩
   ·exact ⟨0, Ev.step (fun k => by unfold stanzaref01_length.j1; rfl) (ev_neg (by decide) (ev_neg h1 (Ev.now _)))⟩
  ·exact ⟨3, Ev.step (fun k => by unfold stanzaref01_length.j1; rfl) (ev_pos rfl (Ev.now _))⟩
 have j0 : ∀ (b : Int) (c : Bool), ∃ n, Ev (fun k => stanzaref01_length.j0 k b c) n := by
  intro b c
  cases c
  ·by_cases h1 : b ≥ 224
   ·obtain ⟨n, hn⟩ := j1 b (decide (b ≤ 239))
    exact ⟨n, Ev.step (fun k => by unfold stanzaref01_length.j0; rfl) (ev_neg (by decide) (ev_pos h1 hn))⟩
   ·obtain ⟨n, hn⟩ := j1 b false
    exact ⟨n, Ev.step (fun k => by unfold stanzaref01_length.j0; rfl) (ev_neg (by decide) (ev_neg h1 hn))⟩
  ·exact ⟨2, Ev.step (fun k => by unfold stanzaref01_length.j0; rfl) (ev_pos rfl (Ev.now _))⟩
 unfold stanzaref01_length.f
 by_cases h : b < 128
 ·exact ⟨1, ev_pos h (Ev.now _)⟩
 ·by_cases h2 : b ≥ 194
  ·obtain ⟨n, hn⟩ := j0 b (decide (b ≤ 223))
   exact ⟨n, ev_neg h (ev_pos h2 hn)⟩
  ·obtain ⟨n, hn⟩ := j0 b false
   exact ⟨n, ev_neg h (ev_neg h2 hn)⟩
theorem begins_loop (x : List Int) (hn : x.length ≤ 100) (h0 : 0 < x.length) : ∀ (d i : Nat), i + d = max x.length 1 → ∃ b, Ev (fun k => stanzaref01_Begins.l0 k x (i : Int)) b := by
 intro d
 induction d with
 | zero =>
  intro i hi
  by_cases h1 : (x.length : Int) = 1
  ·exact ⟨true, Ev.step (fun k => by unfold stanzaref01_Begins.l0; rfl) (ev_neg (by omega) (ev_pos h1 (Ev.now _)))⟩
  ·by_cases c1 : rd x 0 = 224
   ·exact ⟨_, Ev.step (fun k => by unfold stanzaref01_Begins.l0; rfl) (ev_neg (by omega) (ev_neg h1 (ev_pos (by omega) (ev_pos c1 (ev_pos (by omega) (Ev.now _))))))⟩
   by_cases c2 : rd x 0 = 237
   ·exact ⟨_, Ev.step (fun k => by unfold stanzaref01_Begins.l0; rfl) (ev_neg (by omega) (ev_neg h1 (ev_pos (by omega) (ev_neg c1 (ev_pos c2 (ev_pos (by omega) (Ev.now _)))))))⟩
   by_cases c3 : rd x 0 = 240
   ·exact ⟨_, Ev.step (fun k => by unfold stanzaref01_Begins.l0; rfl) (ev_neg (by omega) (ev_neg h1 (ev_pos (by omega) (ev_neg c1 (ev_neg c2 (ev_pos c3 (ev_pos (by omega) (Ev.now _))))))))⟩
   by_cases c4 : rd x 0 = 244
   ·exact ⟨_, Ev.step (fun k => by unfold stanzaref01_Begins.l0; rfl) (ev_neg (by omega) (ev_neg h1 (ev_pos (by omega) (ev_neg c1 (ev_neg c2 (ev_neg c3 (ev_pos c4 (ev_pos (by omega) (Ev.now _)))))))))⟩
   ·exact ⟨true, Ev.step (fun k => by unfold stanzaref01_Begins.l0; rfl) (ev_neg (by omega) (ev_neg h1 (ev_pos (by omega) (ev_neg c1 (ev_neg c2 (ev_neg c3 (ev_neg c4 (Ev.now _))))))))⟩
 | succ d ih =>
  intro i hi
  by_cases c1 : rd x (i : Int) < 128
  ·exact ⟨false, Ev.step (fun k => by unfold stanzaref01_Begins.l0; rfl) (ev_pos (by omega) (ev_pos (by omega) (ev_pos c1 (Ev.now _))))⟩
  by_cases c2 : rd x (i : Int) > 191
  ·exact ⟨false, Ev.step (fun k => by unfold stanzaref01_Begins.l0; rfl) (ev_pos (by omega) (ev_pos (by omega) (ev_neg c1 (ev_pos c2 (Ev.now _)))))⟩
  obtain ⟨b, hb⟩ := ih (i + 1) (by omega)
  refine ⟨b, Ev.step (fun k => by unfold stanzaref01_Begins.l0; rfl) (ev_pos (by omega) (ev_pos (by omega) (ev_neg c1 (ev_neg c2 ?_))))⟩
  rw [w64 (by omega) (by omega)]
  exact hb
theorem begins_some (x : List Int) (hn : x.length ≤ 100) : ∃ b, Ev (fun k => stanzaref01_Begins.f k x) b := by
 unfold stanzaref01_Begins.f
 by_cases h : (x.length : Int) = 0
 ·exact ⟨false, ev_pos h (Ev.step (fun k => by unfold stanzaref01_Begins.j0; rfl) (ev_pos rfl (Ev.now _)))⟩
 ·obtain ⟨n, hl⟩ := length_some (rd x 0)
  by_cases h2 : (x.length : Int) > n
  ·refine ⟨false, ev_neg h (ev_pos (by omega) (ev_bind hl ?_))⟩
   rw [decide_eq_true h2]
   exact Ev.step (fun k => by unfold stanzaref01_Begins.j0; rfl) (ev_pos rfl (Ev.now _))
  ·obtain ⟨b, hb⟩ := begins_loop x hn (by omega) (x.length - 1) 1 (by omega)
   refine ⟨b, ev_neg h (ev_pos (by omega) (ev_bind hl ?_))⟩
   rw [decide_eq_false h2]
   exact Ev.step (fun k => by unfold stanzaref01_Begins.j0; rfl) (ev_neg (by decide) hb)
theorem one_l1 (x : List Int) (hx : x.length ≤ 1000000000000) (p n : Nat) (hp : p + n ≤ x.length) (hn : n ≤ 4) : ∀ (d i : Nat) (v : Int), i + d = n → ∃ r, Ev (fun k => stanzaref01_One.l1 k x (p : Int) (n : Int) v (i : Int)) (r, (p : Int), (n : Int)) := by
 intro d
 induction d with
 | zero => exact fun i v hi => ⟨v, Ev.step (fun k => by unfold stanzaref01_One.l1; rfl) (ev_neg (by omega) (Ev.now _))⟩
 | succ d ih =>
  intro i v hi
  obtain ⟨r, hr⟩ := ih (i + 1) _ (by omega)
  by_cases h : (i : Int) < (n : Int)
  ·refine ⟨r, Ev.step (fun k => by unfold stanzaref01_One.l1; rfl) (ev_pos h ?_)⟩
   rw [w64 (x := (p : Int) + (i : Int)) (by omega) (by omega), w64 (x := (i : Int) + 1) (by omega) (by omega)]
   exact ev_pos (by omega) (ev_pos (by omega) hr)
  ·exact absurd hi (by omega)
theorem one_end (x : List Int) (hx : x.length ≤ 1000000000000) (p n : Nat) (hq : p < x.length) (hp : p + n ≤ x.length) (hn : n ≤ 4) : ∃ (r : Int) (m : Nat), Ev (fun k => stanzaref01_One.j2 k x (p : Int) (n : Int)) (r, (p : Int), (m : Int)) ∧ 1 ≤ m ∧ m ≤ 4 ∧ p + m ≤ x.length := by
 by_cases h0 : (n : Int) = 0
 ·exact ⟨65533, 1, Ev.step (fun k => by unfold stanzaref01_One.j2; rfl) (ev_pos h0 (Ev.now _)), by omega, by omega, by omega⟩
 obtain ⟨t, ht⟩ := length_some (rd x (p : Int))
 by_cases h1 : (n : Int) < t
 ·exact ⟨65533, n, Ev.step (fun k => by unfold stanzaref01_One.j2; rfl) (ev_neg h0 (ev_pos (by omega) (ev_pos (by omega) (ev_bind ht (ev_pos h1 (Ev.now _)))))), by omega, by omega, by omega⟩
 ·obtain ⟨r, hr⟩ := one_l1 x hx p n hp hn (n - 1) 1 (Go.bits .and .i32 (wrap32 (rd x (p : Int))) (rd ([0, 127, 31, 15, 7] : List Int) (n : Int))) (by omega)
  refine ⟨r, n, Ev.step (fun k => by unfold stanzaref01_One.j2; rfl) (ev_neg h0 (ev_pos (by omega) (ev_pos (by omega) (ev_bind ht (ev_neg h1 (ev_let ?_)))))), by omega, by omega, by omega⟩
  exact ev_pos (show 0 ≤ (n : Int) by omega) (ev_pos (show (n : Int) < 5 by omega) hr)
theorem one_loop (x : List Int) (hx : x.length ≤ 1000000000000) (p : Nat) (hq : p < x.length) : ∀ (d n : Nat), n + d = 4 → p + n ≤ x.length → ∃ (r : Int) (m : Nat), Ev (fun k => stanzaref01_One.l0 k x (p : Int) (n : Int)) (r, (p : Int), (m : Int)) ∧ 1 ≤ m ∧ m ≤ 4 ∧ p + m ≤ x.length := by
 intro d
 induction d with
 | zero =>
  intro n hn hp
  obtain ⟨r, m, h, h2⟩ := one_end x hx p n hq hp (by omega)
  exact ⟨r, m, Ev.step (fun k => by unfold stanzaref01_One.l0; rfl) (ev_neg (by omega) h), h2⟩
 | succ d ih =>
  intro n hn hp
  have e1 : wrap64 ((x.length : Int) - (p : Int)) = (x.length : Int) - (p : Int) := w64 (by omega) (by omega)
  by_cases h : p + n < x.length
  ·have e2 : wrap64 (wrap64 ((p : Int) + (n : Int)) + 1) = ((p + n + 1 : Nat) : Int) := by rw [w64 (x := (p : Int) + (n : Int)) (by omega) (by omega), w64 (by omega) (by omega)]; rfl
   obtain ⟨b, hb⟩ := begins_some ((x.take (p + n + 1)).drop p) (by rw [List.length_drop, List.length_take]; omega)
   cases b
   ·obtain ⟨r, m, h3, h2⟩ := one_end x hx p n hq hp (by omega)
    refine ⟨r, m, Ev.step (fun k => by unfold stanzaref01_One.l0; rfl) (ev_pos (by omega) ?_), h2⟩
    rw [e1, e2, Int.toNat_natCast, Int.toNat_natCast]
    exact ev_pos (by omega) (ev_pos (by omega) (ev_pos (by omega) (ev_pos (by omega) (ev_bind hb (ev_neg (by decide) h3)))))
   ·obtain ⟨r, m, h3, h2⟩ := ih (n + 1) (by omega) (by omega)
    refine ⟨r, m, Ev.step (fun k => by unfold stanzaref01_One.l0; rfl) (ev_pos (by omega) ?_), h2⟩
    rw [e1, e2, Int.toNat_natCast, Int.toNat_natCast, w64 (x := (n : Int) + 1) (by omega) (by omega)]
    exact ev_pos (by omega) (ev_pos (by omega) (ev_pos (by omega) (ev_pos (by omega) (ev_bind hb (ev_pos rfl h3)))))
  ·obtain ⟨r, m, h3, h2⟩ := one_end x hx p n hq hp (by omega)
   refine ⟨r, m, Ev.step (fun k => by unfold stanzaref01_One.l0; rfl) (ev_pos (by omega) ?_), h2⟩
   rw [e1]
   exact ev_neg (by omega) h3
theorem one_ok (x : List Int) (hx : x.length ≤ 1000000000000) (p : Nat) (hq : p < x.length) : ∃ (r : Int) (m : Nat), Ev (fun k => stanzaref01_One.f k x (p : Int)) (r, (p : Int), (m : Int)) ∧ 1 ≤ m ∧ m ≤ 4 ∧ p + m ≤ x.length := by
 obtain ⟨r, m, h, h2⟩ := one_loop x hx p hq 4 0 rfl (by omega)
 unfold stanzaref01_One.f
 refine ⟨r, m, ev_neg (by omega) ?_, h2⟩
 rw [decide_eq_false (by omega)]
 exact Ev.step (fun k => by unfold stanzaref01_One.j0; rfl) (ev_neg (by decide) h)
def Signs : List S50 → Nat → Nat → Prop
 | [], p, e => p = e
 | x :: s, p, e => x.f1 = (p : Int) ∧ ∃ m : Nat, x.f2 = (m : Int) ∧ 1 ≤ m ∧ m ≤ 4 ∧ Signs s (p + m) e
theorem all_loop (x : List Int) (hx : x.length ≤ 1000000000000) : ∀ (d p : Nat) (acc : List S50), x.length - p ≤ d → p ≤ x.length → acc.length ≤ p → ∃ t, Ev (fun k => stanzaref01_All.l0 k x acc (p : Int)) (acc ++ t) ∧ Signs t p x.length := by
 intro d
 induction d with
 | zero =>
  intro p acc hd hp ha
  exact ⟨[], by rw [List.append_nil]; exact Ev.step (fun k => by unfold stanzaref01_All.l0; rfl) (ev_neg (by omega) (Ev.now _)), by unfold Signs; omega⟩
 | succ d ih =>
  intro p acc hd hp ha
  by_cases h : p < x.length
  ·obtain ⟨r, m, h1, h2, h3, h4⟩ := one_ok x hx p h
   obtain ⟨t, ht, hs⟩ := ih (p + m) (acc ++ [(⟨r, (p : Int), (m : Int)⟩ : S50)]) (by omega) h4 (by rw [List.length_append, List.length_singleton]; omega)
   refine ⟨(⟨r, (p : Int), (m : Int)⟩ : S50) :: t, ?_, rfl, m, rfl, h2, h3, hs⟩
   rw [List.append_cons]
   refine Ev.step (fun k => by unfold stanzaref01_All.l0; rfl) (ev_pos (by omega) (ev_bind h1 (ev_pos (show acc.length < 5864062014805 by omega) ?_)))
   rw [show wrap64 ((p : Int) + (m : Int)) = ((p + m : Nat) : Int) by rw [w64 (by omega) (by omega)]; rfl]
   exact ht
  ·exact ⟨[], by rw [List.append_nil]; exact Ev.step (fun k => by unfold stanzaref01_All.l0; rfl) (ev_neg (by omega) (Ev.now _)), by unfold Signs; omega⟩
theorem all_ok (x : List Int) (hx : x.length ≤ 1000000000000) : ∃ t, Ev (fun k => stanzaref01_All.f k x) t ∧ Signs t 0 x.length := by
 obtain ⟨t, ht, hs⟩ := all_loop x hx x.length 0 [] (by omega) (by omega) (by simp)
 exact ⟨t, ht, hs⟩
end Go.Proofs.Ytigajcipjklknaa.Pure
end
section
/- Clusters of signs: what cells.Make answers, in plain words. -/
namespace Go.Proofs.Ytigajcipjklknaa.Pure
open Go.RowKit Go.Proofs.YtigajcipjklknaaW.PrintWords Go.Proofs.Ytigajcipjklknaa.F
def kindOf (r : Int) : Int := if r = 32 then 1 else if r = 9 then 2 else 0
theorem kind_ok (r : Int) : cells_kind.f r = some (kindOf r) := by
 unfold cells_kind.f kindOf
 split
 ·rfl
 ·split <;> rfl
def lenTo (s : List S50) (a : Nat) : Nat → Int
 | 0 => 0
 | d + 1 => lenTo s a d + (rd_T50 s ((a + d : Nat) : Int)).f2
def cellTo (t : Option (List (Int × Int × Int))) (s : List S50) (a : Nat) : Nat → Int
 | 0 => 0
 | d + 1 => mx (cellTo t s a d) (mn (tabOf t (rd_T50 s ((a + d : Nat) : Int)).f0) 2)
def clu (t : Option (List (Int × Int × Int))) (s : List S50) (a d : Nat) : S48 := ⟨(rd_T50 s (a : Int)).f1, lenTo s a d, cellTo t s a d, if d = 1 then kindOf (rd_T50 s (a : Int)).f0 else 0⟩
def CLs (t : Option (List (Int × Int × Int))) (s : List S50) : List Nat → List S48
 | a :: b :: r => clu t s a (b - a) :: CLs t s (b :: r)
 | _ => []
def cutB (m : List Int) (i : Nat) : Bool := i == 0 || (decide (i < m.length) && rd m (i : Int) != 0)
def cuts (m : List Int) (i : Nat) : List Nat := (List.range i).filter (cutB m)
def nats (l : List Nat) : List Int := l.map fun n : Nat => (n : Int)
theorem CLs_snoc (t : Option (List (Int × Int × Int))) (s : List S50) : ∀ (p : List Nat) (a i : Nat), CLs t s (p ++ [a, i]) = CLs t s (p ++ [a]) ++ [clu t s a (i - a)]
 | [], a, i => rfl
 | [x], a, i => rfl
 | x :: y :: p, a, i => by
  show clu t s x (y - x) :: CLs t s ((y :: p) ++ [a, i]) = clu t s x (y - x) :: (CLs t s ((y :: p) ++ [a]) ++ [clu t s a (i - a)])
  rw [CLs_snoc t s (y :: p) a i]
theorem CLs_length (t : Option (List (Int × Int × Int))) (s : List S50) : ∀ (p : List Nat), (CLs t s p).length = p.length - 1
 | [] => rfl
 | [x] => rfl
 | x :: y :: p => by
  show (CLs t s (y :: p)).length + 1 = _
  rw [CLs_length t s (y :: p)]
  simp
theorem cuts_succ (m : List Int) (i : Nat) : cuts m (i + 1) = cuts m i ++ (if cutB m i = true then [i] else []) := by
 unfold cuts
 rw [List.range_succ, List.filter_append]
 cases hb : cutB m i <;> simp [List.filter, hb]
theorem cuts_last (m : List Int) : ∀ i, 0 < i → ∃ p a, cuts m i = p ++ [a] ∧ a < i ∧ p.length < i
 | 0, h => absurd h (by omega)
 | 1, _ => ⟨[], 0, rfl, by omega, by simp⟩
 | i + 2, _ => by
  rw [cuts_succ]
  obtain ⟨p, a, h, h1, h2⟩ := cuts_last m (i + 1) (by omega)
  by_cases hb : cutB m (i + 1) = true
  ·rw [if_pos hb]
   refine ⟨cuts m (i + 1), i + 1, rfl, by omega, ?_⟩
   rw [h, List.length_append, List.length_singleton]; omega
  ·rw [if_neg hb, List.append_nil]
   exact ⟨p, a, h, by omega, by omega⟩
theorem last_ix {α : Type} (o : List α) (c : α) (hn : o.length ≤ 1000000000000) : wrap64 (((o ++ [c]).length : Int) - 1) = (o.length : Int) := by
 rw [List.length_append, List.length_singleton, w64 (by omega) (by omega)]; omega
theorem rd_lastC (o : List S48) (c : S48) : rd_T48 (o ++ [c]) (o.length : Int) = c := by
 unfold rd_T48
 rw [List.getD_eq_getElem?_getD, Int.toNat_natCast, List.getElem?_append_right (Nat.le_refl _), Nat.sub_self]; rfl
theorem rd_lastI (o : List Int) (c : Int) : rd (o ++ [c]) (o.length : Int) = c := by
 rw [rd_nat, List.getD_eq_getElem?_getD, List.getElem?_append_right (Nat.le_refl _), Nat.sub_self]; rfl
theorem set_last {α : Type} (o : List α) (c v : α) : (o ++ [c]).set (o.length : Int).toNat v = o ++ [v] := by
 rw [Int.toNat_natCast]
 rw [List.set_append_right _ _ (Nat.le_refl _), Nat.sub_self]; rfl
def more (t : Option (List (Int × Int × Int))) (c : S48) (own : Prop) [Decidable own] (x : S50) : S48 := ⟨c.f0, wrap64 (c.f1 + x.f2), mx c.f2 (mn (tabOf t x.f0) 2), if own then c.f3 else 0⟩
theorem cells_j1f (s : List S50) (m : List Int) (t : Option (List (Int × Int × Int))) (o : List S48) (c : S48) (w : List Int) (a : Int) (i : Int) (x13 : List S50) (x14 x15 : Int) (x : S50) (h1 : o.length ≤ 1000000000000) (h2 : w.length ≤ 1000000000000) {r : List S48 × List Int}
  (H : Ev (fun k => cells_Make.l0 k s m t (o ++ [more t c (a = i) x]) (w ++ [a]) x13 x14 (wrap64 (x15 + 1))) r) :
  Ev (fun k => cells_Make.j1 k s m t (o ++ [c]) (w ++ [a]) i x13 x14 x15 false x.f0 x.f1 x.f2) r := by
 have e1 := last_ix o c h1
 have e2 := last_ix w a h2
 have l1 : (o.length : Int) < ((o ++ [c]).length : Int) := by rw [List.length_append, List.length_singleton]; omega
 have l2 : (w.length : Int) < ((w ++ [a]).length : Int) := by rw [List.length_append, List.length_singleton]; omega
 refine Ev.step (fun k => by unfold cells_Make.j1; rfl) (ev_neg (by decide) ?_)
 rw [e1, e2, rd_lastI]
 refine ev_pos (by omega) (ev_pos l1 (ev_pos (by omega) (ev_pos l2 ?_)))
 simp only [rd_lastC, set_last]
 by_cases ha : a = i
 ·refine ev_pos ha (ev_let (ev_bind' (show prop_Table_Of.f _ _ = some (tabOf t x.f0) from rfl) ?_))
  simp only [rd_lastC, set_last]
  unfold more at H
  rw [if_pos ha] at H
  exact H
 ·refine ev_neg ha (ev_let (ev_let ?_))
  simp only [rd_lastC, set_last]
  refine ev_bind' (show prop_Table_Of.f _ _ = some (tabOf t x.f0) from rfl) ?_
  unfold more at H
  rw [if_neg ha] at H
  exact H
theorem cells_j1t (s : List S50) (m : List Int) (t : Option (List (Int × Int × Int))) (o : List S48) (w : List Int) (i : Int) (x13 : List S50) (x14 x15 : Int) (x : S50) (h1 : o.length ≤ 1000000000000) (h2 : w.length ≤ 1000000000000) {r : List S48 × List Int}
  (H : Ev (fun k => cells_Make.l0 k s m t (o ++ [more t ⟨x.f1, 0, 0, kindOf x.f0⟩ (i = i) x]) (w ++ [i]) x13 x14 (wrap64 (x15 + 1))) r) :
  Ev (fun k => cells_Make.j1 k s m t o w i x13 x14 x15 true x.f0 x.f1 x.f2) r := by
 have e1 := last_ix o (⟨x.f1, 0, 0, kindOf x.f0⟩ : S48) h1
 have e2 := last_ix w i h2
 have l1 : (o.length : Int) < ((o ++ [(⟨x.f1, 0, 0, kindOf x.f0⟩ : S48)]).length : Int) := by rw [List.length_append, List.length_singleton]; omega
 have l2 : (w.length : Int) < ((w ++ [i]).length : Int) := by rw [List.length_append, List.length_singleton]; omega
 refine Ev.step (fun k => by unfold cells_Make.j1; rfl) (ev_pos rfl (ev_bind' (kind_ok x.f0) (ev_pos (show o.length < 4398046511104 by omega) (ev_let ?_))))
 refine ev_pos (show w.length < 17592186044416 by omega) (ev_let ?_)
 rw [e1, e2, rd_lastI]
 refine ev_pos (by omega) (ev_pos l1 (ev_pos (by omega) (ev_pos l2 (ev_pos rfl (ev_let ?_)))))
 simp only [rd_lastC, set_last]
 refine ev_bind' (show prop_Table_Of.f _ _ = some (tabOf t x.f0) from rfl) ?_
 unfold more at H
 rw [if_pos rfl] at H
 exact H
theorem lenTo_lt {s : List S50} (h : ∀ x ∈ s, 0 ≤ x.f2 ∧ x.f2 ≤ 4) (a : Nat) : ∀ d, 0 ≤ lenTo s a d ∧ lenTo s a d ≤ 4 * d
 | 0 => by unfold lenTo; omega
 | d + 1 => by
  have ih := lenTo_lt h a d
  unfold lenTo
  have : 0 ≤ (rd_T50 s ((a + d : Nat) : Int)).f2 ∧ (rd_T50 s ((a + d : Nat) : Int)).f2 ≤ 4 := by
   unfold rd_T50
   rw [List.getD_eq_getElem?_getD, Int.toNat_natCast]
   cases hq : s[a + d]? with
   | none => exact ⟨by decide, by decide⟩
   | some y => exact h y (List.mem_of_getElem? hq)
  omega
theorem more_own (t : Option (List (Int × Int × Int))) (s : List S50) (h : ∀ x ∈ s, 0 ≤ x.f2 ∧ x.f2 ≤ 4) (i : Nat) (j : Int) : more t ⟨(rd_T50 s (i : Int)).f1, 0, 0, kindOf (rd_T50 s (i : Int)).f0⟩ (j = j) (rd_T50 s (i : Int)) = clu t s i 1 := by
 unfold more clu
 rw [if_pos rfl, if_pos rfl]
 have h1 := lenTo_lt h i 1
 have : lenTo s i 1 = 0 + (rd_T50 s (i : Int)).f2 := rfl
 rw [← this, w64 (by omega) (by omega)]
 rfl
theorem more_old (t : Option (List (Int × Int × Int))) (s : List S50) (h : ∀ x ∈ s, 0 ≤ x.f2 ∧ x.f2 ≤ 4) {a i : Nat} (ha : a < i) (hi : i ≤ 1000000000000) : more t (clu t s a (i - a)) ((a : Int) = (i : Int)) (rd_T50 s (i : Int)) = clu t s a (i + 1 - a) := by
 unfold more
 rw [if_neg (by omega)]
 have hd : i + 1 - a = (i - a) + 1 := by omega
 have hi2 : a + (i - a) = i := by omega
 have h1 := lenTo_lt h a ((i - a) + 1)
 have e1 : lenTo s a ((i - a) + 1) = lenTo s a (i - a) + (rd_T50 s (i : Int)).f2 := by
  show lenTo s a (i - a) + (rd_T50 s ((a + (i - a) : Nat) : Int)).f2 = _
  rw [hi2]
 have e2 : cellTo t s a ((i - a) + 1) = mx (cellTo t s a (i - a)) (mn (tabOf t (rd_T50 s (i : Int)).f0) 2) := by
  show mx (cellTo t s a (i - a)) (mn (tabOf t (rd_T50 s ((a + (i - a) : Nat) : Int)).f0) 2) = _
  rw [hi2]
 have e3 : clu t s a (i - a + 1) = ⟨(rd_T50 s (a : Int)).f1, lenTo s a (i - a + 1), cellTo t s a (i - a + 1), 0⟩ := by
  unfold clu
  rw [if_neg (by omega)]
 rw [hd, e3, e1, e2]
 show (⟨_, wrap64 (lenTo s a (i - a) + (rd_T50 s (i : Int)).f2), _, _⟩ : S48) = _
 rw [← e1, w64 (by omega) (by omega)]
 rfl
theorem nats_snoc (p : List Nat) (a : Nat) : nats (p ++ [a]) = nats p ++ [(a : Int)] := by unfold nats; rw [List.map_append]; rfl
theorem nats_length (p : List Nat) : (nats p).length = p.length := List.length_map _
theorem cuts_le (m : List Int) (i : Nat) : (cuts m i).length ≤ i := by
 unfold cuts
 have := List.length_filter_le (cutB m) (List.range i)
 rwa [List.length_range] at this
theorem cells_loop (s : List S50) (h : ∀ x ∈ s, 0 ≤ x.f2 ∧ x.f2 ≤ 4) (hn : s.length ≤ 1000000000000) (m : List Int) (t : Option (List (Int × Int × Int))) : ∀ (d i : Nat), i + d = s.length →
  Ev (fun k => cells_Make.l0 k s m t (CLs t s (cuts m i ++ [i])) (nats (cuts m i)) s (s.length : Int) (i : Int)) (CLs t s (cuts m s.length ++ [s.length]), nats (cuts m s.length ++ [s.length])) := by
 intro d
 induction d with
 | zero =>
  intro i hi
  obtain rfl : i = s.length := by omega
  refine Ev.step (fun k => by unfold cells_Make.l0; rfl) (ev_neg (by omega) (ev_pos ?_ (ev_ret ?_)))
  ·rw [nats_length]; have := cuts_le m s.length; omega
  ·rw [nats_snoc]
 | succ d ih =>
  intro i hi
  have IH := ih (i + 1) (by omega)
  have hw : wrap64 ((i : Int) + 1) = ((i + 1 : Nat) : Int) := by rw [w64 (by omega) (by omega)]; rfl
  have cl := cuts_le m i
  have cut : cutB m i = true → Ev (fun k => cells_Make.j1 k s m t (CLs t s (cuts m i ++ [i])) (nats (cuts m i)) (i : Int) s (s.length : Int) (i : Int) true (rd_T50 s (i : Int)).f0 (rd_T50 s (i : Int)).f1 (rd_T50 s (i : Int)).f2) (CLs t s (cuts m s.length ++ [s.length]), nats (cuts m s.length ++ [s.length])) := by
   intro hc
   refine cells_j1t s m t _ _ _ _ _ _ _ (by rw [CLs_length, List.length_append, List.length_singleton]; omega) (by rw [nats_length]; omega) ?_
   rw [more_own t s h, hw]
   rw [cuts_succ, if_pos hc, List.append_assoc] at IH
   have := CLs_snoc t s (cuts m i) i (i + 1)
   rw [show i + 1 - i = 1 by omega] at this
   rw [← this, ← nats_snoc]
   exact IH
  have keep : 0 < i → cutB m i = false → Ev (fun k => cells_Make.j1 k s m t (CLs t s (cuts m i ++ [i])) (nats (cuts m i)) (i : Int) s (s.length : Int) (i : Int) false (rd_T50 s (i : Int)).f0 (rd_T50 s (i : Int)).f1 (rd_T50 s (i : Int)).f2) (CLs t s (cuts m s.length ++ [s.length]), nats (cuts m s.length ++ [s.length])) := by
   intro h0 hc
   obtain ⟨p, a, hp, ha, hl⟩ := cuts_last m i h0
   rw [cuts_succ, hc, if_neg (by decide), List.append_nil] at IH
   rw [hp] at IH cl ⊢
   rw [List.length_append, List.length_singleton] at cl
   rw [List.append_assoc] at IH ⊢
   have e1 := CLs_snoc t s p a i
   have e2 := CLs_snoc t s p a (i + 1)
   rw [show p ++ ([a] ++ [i]) = p ++ [a, i] from rfl, e1, nats_snoc]
   rw [show p ++ ([a] ++ [i + 1]) = p ++ [a, i + 1] from rfl, e2, nats_snoc] at IH
   refine cells_j1f s m t _ _ _ _ _ _ _ _ _ (by rw [CLs_length, List.length_append, List.length_singleton]; omega) (by rw [nats_length]; omega) ?_
   rw [more_old t s h ha (by omega), hw]
   exact IH
  refine Ev.step (fun k => by unfold cells_Make.l0; rfl) (ev_pos (by omega) (ev_pos (by omega) (ev_pos (by omega) ?_)))
  by_cases h0 : i = 0
  ·exact ev_pos (by omega) (cut (by unfold cutB; rw [h0]; rfl))
  refine ev_neg (by omega) ?_
  have hb0 : (i == 0) = false := by simpa using h0
  by_cases h1 : i < m.length
  ·refine ev_pos (by omega) ?_
   have hb : cutB m i = (rd m (i : Int) != 0) := by unfold cutB; rw [hb0, decide_eq_true h1]; simp
   cases hc : (rd m (i : Int) != 0)
   ·exact keep (by omega) (hb.trans hc)
   ·exact cut (hb.trans hc)
  ·exact ev_neg (by omega) (keep (by omega) (by unfold cutB; rw [hb0, decide_eq_false h1]; rfl))
theorem cells_ok (s : List S50) (h : ∀ x ∈ s, 0 ≤ x.f2 ∧ x.f2 ≤ 4) (hn : s.length ≤ 1000000000000) (m : List Int) (t : Option (List (Int × Int × Int))) :
  Ev (fun k => cells_Make.f k s m t) (CLs t s (cuts m s.length ++ [s.length]), nats (cuts m s.length ++ [s.length])) := by
 unfold cells_Make.f
 exact cells_loop s h hn m t s.length 0 (by omega)
end Go.Proofs.Ytigajcipjklknaa.Pure
end
section
/- The chapter's example of clusters, words and widths that the laws make, where clusters begin. -/
namespace Go.Proofs.Ytigajcipjklknaa.Pure
open Go.RowKit Go.Proofs.YtigajcipjklknaaW.PrintWords Go.Proofs.Ytigajcipjklknaa.F
theorem ax_c : prop_Make.c [(⟨32, 126, 1⟩ : S45)] 3 = true := by decide
theorem awake10 : Ev (fun k => stanzalaw10_Awake.f k) true := by
 unfold stanzalaw10_Awake.f
 have hc := cells_ok [(⟨97, 0, 1⟩ : S50), (⟨769, 1, 2⟩ : S50), (⟨32, 3, 1⟩ : S50)] (by decide) (by decide) [0, 0, 1, 2] (some [(32, 126, 1)])
 rw [show (CLs (some [(32, 126, 1)]) [(⟨97, 0, 1⟩ : S50), (⟨769, 1, 2⟩ : S50), (⟨32, 3, 1⟩ : S50)] (cuts [0, 0, 1, 2] [(⟨97, 0, 1⟩ : S50), (⟨769, 1, 2⟩ : S50), (⟨32, 3, 1⟩ : S50)].length ++ [[(⟨97, 0, 1⟩ : S50), (⟨769, 1, 2⟩ : S50), (⟨32, 3, 1⟩ : S50)].length])) = [(⟨0, 3, 1, 0⟩ : S48), (⟨3, 1, 1, 1⟩ : S48)] from rfl] at hc
 refine ev_let (ev_pos ax_c (ev_bind' (make_y ax_c) (ev_bind hc ?_)))
 exact ev_pos (by decide) (ev_pos (by decide) (ev_pos (by decide) (ev_pos (by decide) (ev_pos (by decide) (ev_pos (by decide) (ev_pos (by decide) (ev_ret (by decide))))))))
def SG : List ByteArray := (h3_signs.f).getD []
theorem sg_some : h3_signs.f = some SG := rfl
theorem sg_len : SG.length = 14 := rfl
theorem sg_size : ∀ j < 14, (rdOf ByteArray.empty SG ((j : Nat) : Int)).size ≤ 4 := by decide +kernel
theorem words_loop (l : List Int) (hl : l.length ≤ 1000000) (h : ∀ y ∈ l, (Lit.int .u8 y).wf = true) : ∀ (d i : Nat) (acc : List Int), i + d = l.length → acc.length ≤ 4 * i → ∃ xs, Ev (fun k => h3_Words.l0 k l acc (i : Int)) xs ∧ xs.length ≤ 4 * l.length := by
 intro d
 induction d with
 | zero => exact fun i acc hi ha => ⟨acc, Ev.step (fun k => by unfold h3_Words.l0; rfl) (ev_neg (by omega) (Ev.now _)), by omega⟩
 | succ d ih =>
  intro i acc hi ha
  have hlt : i < l.length := by omega
  have hv : rd l (i : Int) = l[i] := by rw [rd_nat, List.getD_eq_getElem?_getD, List.getElem?_eq_getElem hlt]; rfl
  have hb := wfu8.1 (h l[i] (List.getElem_mem hlt))
  obtain ⟨j, hj, hj2⟩ : ∃ j : Nat, Int.tmod (wrap64 (rd l (i : Int))) 14 = (j : Int) ∧ j < 14 := by
   rw [hv, w64 (by omega) (by omega), tmodp hb.1]
   exact ⟨(l[i] % 14).toNat, by omega, by omega⟩
  have hs := sg_size j hj2
  obtain ⟨xs, hx, hxl⟩ := ih (i + 1) (acc ++ bytesOf (rdOf ByteArray.empty SG (j : Int))) (by omega) (by rw [List.length_append, bytesOf_length]; omega)
  refine ⟨xs, ?_, hxl⟩
  refine Ev.step (fun k => by unfold h3_Words.l0; rfl) (ev_pos (by omega) (ev_bind' sg_some (ev_pos (show 0 ≤ (i : Int) by omega) ?_)))
  rw [hj, w64 (x := (i : Int) + 1) (by omega) (by omega)]
  exact ev_pos (by omega) (ev_pos (by rw [sg_len]; omega) (ev_pos (by omega) hx))
theorem words_ok (l : List Int) (hl : l.length ≤ 1000000) (h : ∀ y ∈ l, (Lit.int .u8 y).wf = true) : ∃ xs, Ev (fun k => h3_Words.f k l) xs ∧ xs.length ≤ 4 * l.length := by
 unfold h3_Words.f
 exact words_loop l hl h l.length 0 [] (by omega) (by simp)
theorem opps_loop (l : List Int) (hl : l.length ≤ 140737488351232) : ∀ (d i : Nat), i + d = l.length → Ev (fun k => h3_Opps.l0 k l (l.take i) (i : Int)) l := by
 intro d
 induction d with
 | zero => exact fun i hi => Ev.step (fun k => by unfold h3_Opps.l0; rfl) (ev_neg (by omega) (ev_ret (List.take_of_length_le (by omega))))
 | succ d ih =>
  intro i hi
  have hlt : i < l.length := by omega
  have hv : l.take i ++ [rd l (i : Int)] = l.take (i + 1) := by rw [List.take_add_one, rd_nat, List.getD_eq_getElem?_getD, List.getElem?_eq_getElem hlt]; rfl
  refine Ev.step (fun k => by unfold h3_Opps.l0; rfl) (ev_pos (by omega) (ev_pos (by omega) (ev_pos (by rw [List.length_take]; omega) ?_)))
  rw [hv, w64 (by omega) (by omega)]
  exact ih (i + 1) (by omega)
theorem opps_ok (l : List Int) (hl : l.length ≤ 140737488351232) : Ev (fun k => h3_Opps.f k l) l := by
 unfold h3_Opps.f
 exact opps_loop l hl l.length 0 (by omega)
theorem cuts_zero (m : List Int) : ∀ n, ∃ q, cuts m n ++ [n] = 0 :: q
 | 0 => ⟨[], rfl⟩
 | n + 1 => by
  unfold cuts
  rw [List.range_succ_eq_map, List.filter_cons_of_pos rfl]
  exact ⟨_, rfl⟩
theorem cuts_mem {m : List Int} {n i : Nat} : i ∈ cuts m n ↔ i < n ∧ cutB m i = true := by
 unfold cuts
 rw [List.mem_filter, List.mem_range]
theorem cuts_sorted (m : List Int) (n : Nat) : (cuts m n ++ [n]).Pairwise (· < ·) := by
 refine List.pairwise_append.2 ⟨List.Pairwise.filter _ List.pairwise_lt_range, List.pairwise_singleton _ _, fun a ha b hb => ?_⟩
 rw [List.mem_singleton.1 hb]
 exact (cuts_mem.1 ha).1
theorem nats_rd (P : List Nat) (k : Nat) : rd (nats P) (k : Int) = ((P.getD k 0 : Nat) : Int) := by
 rw [rd_nat]
 unfold nats
 rw [List.getD_eq_getElem?_getD, List.getD_eq_getElem?_getD, List.getElem?_map]
 cases P[k]? <;> rfl
theorem lenTo_add (s : List S50) (a c : Nat) : ∀ d, lenTo s a (c + d) = lenTo s a c + lenTo s (a + c) d
 | 0 => by show lenTo s a c = lenTo s a c + 0; omega
 | d + 1 => by
  show lenTo s a (c + d) + (rd_T50 s ((a + (c + d) : Nat) : Int)).f2 = lenTo s a c + (lenTo s (a + c) d + (rd_T50 s ((a + c + d : Nat) : Int)).f2)
  rw [lenTo_add s a c d, Nat.add_assoc]; omega
theorem rd_scal (s : List S50) (x : S50) (i : Nat) : rd_T50 (x :: s) ((i + 1 : Nat) : Int) = rd_T50 s (i : Int) := rfl
theorem lenTo_cons (s : List S50) (x : S50) (a : Nat) : ∀ d, lenTo (x :: s) (a + 1) d = lenTo s a d
 | 0 => rfl
 | d + 1 => by
  show lenTo (x :: s) (a + 1) d + (rd_T50 (x :: s) ((a + 1 + d : Nat) : Int)).f2 = lenTo s a d + (rd_T50 s ((a + d : Nat) : Int)).f2
  rw [lenTo_cons s x a d, show a + 1 + d = (a + d) + 1 by omega, rd_scal]
theorem signs_all : ∀ (s : List S50) (p e : Nat), Signs s p e → s.length + p ≤ e ∧ (∀ x ∈ s, 1 ≤ x.f2 ∧ x.f2 ≤ 4) ∧ (p : Int) + lenTo s 0 s.length = (e : Int) ∧ ∀ j, j < s.length → (rd_T50 s (j : Int)).f1 = (p : Int) + lenTo s 0 j
 | [], p, e, h => by
  have : p = e := h
  refine ⟨by simp; omega, fun x hx => absurd hx (by simp), ?_, fun j hj => absurd hj (by simp)⟩
  show (p : Int) + 0 = _
  omega
 | x :: s, p, e, h => by
  obtain ⟨h1, m, h2, h3, h4, h5⟩ := h
  obtain ⟨a, b, c, d⟩ := signs_all s (p + m) e h5
  have key : ∀ j, lenTo (x :: s) 0 (j + 1) = (m : Int) + lenTo s 0 j := by
   intro j
   have := lenTo_add (x :: s) 0 1 j
   rw [Nat.zero_add, lenTo_cons s x 0 j, Nat.add_comm 1 j] at this
   rw [this]
   show (0 + x.f2) + _ = _
   rw [h2]; omega
  refine ⟨by rw [List.length_cons]; omega, fun y hy => ?_, ?_, fun j hj => ?_⟩
  ·rcases List.mem_cons.1 hy with rfl | hy
   ·omega
   ·exact b y hy
  ·rw [List.length_cons, key]; omega
  ·cases j with
   | zero => show x.f1 = (p : Int) + 0; omega
   | succ j =>
    rw [rd_scal, d j (by simpa using hj), key]; omega
end Go.Proofs.Ytigajcipjklknaa.Pure
end
section
/- A text of clusters: what items.Make answers, in plain words; the chapter's example. -/
namespace Go.Proofs.Ytigajcipjklknaa.Pure
open Go.RowKit Go.Proofs.YtigajcipjklknaaW.PrintWords Go.Proofs.Ytigajcipjklknaa.F
end Go.Proofs.Ytigajcipjklknaa.Pure
end
section
/- The document's own clusters (Clusters) and text of clusters (Make) come to the plain ones; two like texts are alike. -/
namespace Go.Proofs.Ytigajcipjklknaa.Pure
open Go.RowKit Go.Proofs.YtigajcipjklknaaW.PrintWords Go.Proofs.Ytigajcipjklknaa.F
theorem take_snoc {P : List Nat} {k : Nat} (h : k < P.length) : P.take (k + 1) = P.take k ++ [P.getD k 0] := by
 rw [List.take_add_one, List.getD_eq_getElem?_getD, List.getElem?_eq_getElem h]; rfl
theorem mxmn (v c : Int) {α : Type} {f : Int → Nat → Option α} {r : α} (H : Ev (f (mx c (mn v 2))) r) : Ev (fun k => if v > 2 then (if 2 > c then f 2 k else f c k) else (if v > c then f v k else f c k)) r := by
 by_cases h1 : v > 2
 ·rw [show mn v 2 = 2 by unfold mn; rw [if_pos h1]] at H
  by_cases h2 : 2 > c
  ·rw [show mx c 2 = 2 by unfold mx; rw [if_pos h2]] at H
   exact ev_pos h1 (ev_pos h2 H)
  ·rw [show mx c 2 = c by unfold mx; rw [if_neg h2]] at H
   exact ev_pos h1 (ev_neg h2 H)
 ·rw [show mn v 2 = v by unfold mn; rw [if_neg h1]] at H
  by_cases h2 : v > c
  ·rw [show mx c v = v by unfold mx; rw [if_pos h2]] at H
   exact ev_neg h1 (ev_pos h2 H)
  ·rw [show mx c v = c by unfold mx; rw [if_neg h2]] at H
   exact ev_neg h1 (ev_neg h2 H)
section
variable {s : List S50} (g5 : ∀ x ∈ s, 0 ≤ x.f2 ∧ x.f2 ≤ 4) (hn : s.length ≤ 1000000) {w : List S45} (hwl : w.length ≤ 100000) {most : Int} (hw : chkGo most (-1) (w.map prop_Make.t) = true)
include g5 hn hwl hw
theorem ref_l2 {P : List Nat} (so : P.Pairwise (· < ·)) (lP : P.length ≤ 1000002) (hend : ∀ x ∈ P, x ≤ s.length) {k : Nat} (hk : k + 1 < P.length) {r : List S48 × List Int}
  (H : Ev (fun q => r0_Clusters.l1 q s w (nats P) (CLs (some (w.map prop_Make.t)) s (P.take (k + 2))) ((k + 1 : Nat) : Int)) r) : ∀ (d j : Nat), P.getD k 0 + j + d = P.getD (k + 1) 0 →
  Ev (fun q => r0_Clusters.l2 q s w (nats P) (CLs (some (w.map prop_Make.t)) s (P.take (k + 1))) (k : Int) ((P.getD k 0 + j : Nat) : Int) (rd_T50 s ((P.getD k 0 : Nat) : Int)).f1 (lenTo s (P.getD k 0) j) (cellTo (some (w.map prop_Make.t)) s (P.getD k 0) j) 0) r := by
 have nl := nats_length P
 have w1 : wrap64 ((k : Int) + 1) = ((k + 1 : Nat) : Int) := by rw [w64 (by omega) (by omega)]; rfl
 have r1 := nats_rd P k
 have r2 := nats_rd P (k + 1)
 have hlt : P.getD k 0 < P.getD (k + 1) 0 := by
  rw [List.getD_eq_getElem?_getD, List.getD_eq_getElem?_getD, List.getElem?_eq_getElem (by omega), List.getElem?_eq_getElem (by omega)]
  exact List.pairwise_iff_getElem.1 so k (k + 1) (by omega) (by omega) (by omega)
 have hle : P.getD (k + 1) 0 ≤ s.length := by
  rw [List.getD_eq_getElem?_getD, List.getElem?_eq_getElem (by omega)]
  exact hend _ (List.getElem_mem (by omega))
 have hC : CLs (some (w.map prop_Make.t)) s (P.take (k + 2)) = CLs (some (w.map prop_Make.t)) s (P.take (k + 1)) ++ [clu (some (w.map prop_Make.t)) s (P.getD k 0) (P.getD (k + 1) 0 - P.getD k 0)] := by
  rw [take_snoc (k := k + 1) (by omega), take_snoc (k := k) (by omega), List.append_assoc]
  exact CLs_snoc _ s (P.take k) (P.getD k 0) (P.getD (k + 1) 0)
 have hcl : (CLs (some (w.map prop_Make.t)) s (P.take (k + 1))).length < 4398046511104 := by rw [CLs_length, List.length_take]; omega
 rw [hC] at H
 generalize CLs (some (w.map prop_Make.t)) s (P.take (k + 1)) = C at H hcl
 generalize P.getD k 0 = a at r1 hlt H
 generalize P.getD (k + 1) 0 = e at r2 hlt H hle
 intro d
 induction d with
 | zero =>
  intro j hj
  obtain rfl : j = e - a := by omega
  refine Ev.step (fun q => by unfold r0_Clusters.l2; rfl) ?_
  rw [w1, r1, r2]
  refine ev_pos (by omega) (ev_pos (by omega) (ev_neg (by omega) (ev_pos (by omega) (ev_pos (by omega) ?_))))
  rw [w64 (x := (a : Int) + 1) (by omega) (by omega)]
  by_cases h1 : e = a + 1
  ·refine ev_pos (by omega) (ev_pos (by omega) (ev_pos (by omega) ?_))
   have hd : e - a = 1 := by omega
   rw [hd] at H ⊢
   have hcl2 : clu (some (w.map prop_Make.t)) s a 1 = ⟨(rd_T50 s (a : Int)).f1, lenTo s a 1, cellTo (some (w.map prop_Make.t)) s a 1, kindOf (rd_T50 s (a : Int)).f0⟩ := rfl
   rw [hcl2] at H
   unfold kindOf at H
   by_cases c1 : (rd_T50 s (a : Int)).f0 = 32
   ·rw [if_pos c1] at H
    exact ev_pos c1 (ev_neg (by omega) (ev_pos hcl H))
   ·rw [if_neg c1] at H
    by_cases c2 : (rd_T50 s (a : Int)).f0 = 9
    ·rw [if_pos c2] at H
     exact ev_neg c1 (ev_pos c2 (ev_pos hcl H))
    ·rw [if_neg c2] at H
     exact ev_neg c1 (ev_neg c2 (ev_pos hcl H))
  ·have hcl2 : clu (some (w.map prop_Make.t)) s a (e - a) = ⟨(rd_T50 s (a : Int)).f1, lenTo s a (e - a), cellTo (some (w.map prop_Make.t)) s a (e - a), 0⟩ := by
    unfold clu
    rw [if_neg (by omega)]
   rw [hcl2] at H
   exact ev_neg (by omega) (ev_pos hcl H)
 | succ d ih =>
  intro j hj
  have IH := ih (j + 1) (by omega)
  have b1 := lenTo_lt g5 a (j + 1)
  refine Ev.step (fun q => by unfold r0_Clusters.l2; rfl) ?_
  rw [w1, r2]
  refine ev_pos (by omega) (ev_pos (by omega) (ev_pos (by omega) (ev_pos (by omega) (ev_pos (by omega) (ev_bind (of_ref w hwl hw _) ?_)))))
  have e1 : wrap64 (lenTo s a j + (rd_T50 s ((a + j : Nat) : Int)).f2) = lenTo s a (j + 1) := by
   show _ = lenTo s a j + (rd_T50 s ((a + j : Nat) : Int)).f2
   have : lenTo s a (j + 1) = lenTo s a j + (rd_T50 s ((a + j : Nat) : Int)).f2 := rfl
   exact w64 (by omega) (by omega)
  have e2 : wrap64 (((a + j : Nat) : Int) + 1) = ((a + (j + 1) : Nat) : Int) := by rw [w64 (by omega) (by omega)]; rfl
  rw [e1, e2]
  have hv : mx (cellTo (some (w.map prop_Make.t)) s a j) (mn (ofR (w.map prop_Make.t) (rd_T50 s ((a + j : Nat) : Int)).f0) 2) = cellTo (some (w.map prop_Make.t)) s a (j + 1) := by
   show _ = mx (cellTo (some (w.map prop_Make.t)) s a j) (mn (tabOf (some (w.map prop_Make.t)) (rd_T50 s ((a + j : Nat) : Int)).f0) 2)
   rw [tabOf_eq hw]
  exact mxmn _ _ (f := fun x q => r0_Clusters.l2 q s w (nats P) C (k : Int) ((a + (j + 1) : Nat) : Int) (rd_T50 s (a : Int)).f1 (lenTo s a (j + 1)) x 0) (by rw [hv]; exact IH)
theorem ref_l1 (m : List Int) : ∀ (d k : Nat) (P : List Nat), P = cuts m s.length ++ [s.length] → k + 1 + d = P.length →
  Ev (fun q => r0_Clusters.l1 q s w (nats P) (CLs (some (w.map prop_Make.t)) s (P.take (k + 1))) (k : Int)) (CLs (some (w.map prop_Make.t)) s P, nats P) := by
 intro d
 induction d with
 | zero =>
  intro k P hP hk
  have nl := nats_length P
  have pl : P.length ≤ s.length + 1 := by have := cuts_le m s.length; rw [hP, List.length_append, List.length_singleton]; omega
  refine Ev.step (fun q => by unfold r0_Clusters.l1; rfl) ?_
  rw [w64 (x := (k : Int) + 1) (by omega) (by omega)]
  refine ev_neg (by omega) (ev_ret ?_)
  rw [List.take_of_length_le (by omega)]
 | succ d ih =>
  intro k P hP hk
  have IH := ih (k + 1) P hP (by omega)
  have nl := nats_length P
  have pl : P.length ≤ s.length + 1 := by have := cuts_le m s.length; rw [hP, List.length_append, List.length_singleton]; omega
  have so := cuts_sorted m s.length
  rw [← hP] at so
  have hin : ∀ x ∈ P, x ≤ s.length := by
   intro x hx
   rw [hP] at hx
   rcases List.mem_append.1 hx with h | h
   ·have := (cuts_mem.1 h).1; omega
   ·have := List.mem_singleton.1 h; omega
  have hlt : P.getD k 0 < P.getD (k + 1) 0 := by
   rw [List.getD_eq_getElem?_getD, List.getD_eq_getElem?_getD, List.getElem?_eq_getElem (by omega), List.getElem?_eq_getElem (by omega)]
   exact List.pairwise_iff_getElem.1 so k (k + 1) (by omega) (by omega) (by omega)
  have hle : P.getD (k + 1) 0 ≤ s.length := by
   rw [List.getD_eq_getElem?_getD, List.getElem?_eq_getElem (by omega)]
   exact hin _ (List.getElem_mem (by omega))
  have := ref_l2 g5 hn hwl hw so (by omega) hin (k := k) (by omega) IH (P.getD (k + 1) 0 - P.getD k 0) 0 (by omega)
  refine Ev.step (fun q => by unfold r0_Clusters.l1; rfl) ?_
  rw [w64 (x := (k : Int) + 1) (by omega) (by omega), nats_rd]
  exact ev_pos (by omega) (ev_pos (by omega) (ev_pos (by omega) (ev_pos (by omega) (ev_pos (by omega) this))))
theorem ref_l0 (m : List Int) : ∀ (d i : Nat), i + d = s.length →
  Ev (fun q => r0_Clusters.l0 q s m w (nats (cuts m i)) (i : Int)) (CLs (some (w.map prop_Make.t)) s (cuts m s.length ++ [s.length]), nats (cuts m s.length ++ [s.length])) := by
 intro d
 induction d with
 | zero =>
  intro i hi
  obtain rfl : i = s.length := by omega
  have cl := cuts_le m s.length
  refine Ev.step (fun q => by unfold r0_Clusters.l0; rfl) (ev_neg (by omega) (ev_pos (by rw [nats_length]; omega) ?_))
  rw [← nats_snoc]
  have := ref_l1 g5 hn hwl hw m (cuts m s.length).length 0 (cuts m s.length ++ [s.length]) rfl (by rw [List.length_append, List.length_singleton]; omega)
  obtain ⟨q, hq⟩ := cuts_zero m s.length
  rw [hq] at this ⊢
  exact this
 | succ d ih =>
  intro i hi
  have IH := ih (i + 1) (by omega)
  have cl := cuts_le m i
  have hw1 : wrap64 ((i : Int) + 1) = ((i + 1 : Nat) : Int) := by rw [w64 (by omega) (by omega)]; rfl
  rw [cuts_succ] at IH
  refine Ev.step (fun q => by unfold r0_Clusters.l0; rfl) (ev_pos (by omega) ?_)
  rw [hw1]
  by_cases h0 : i = 0
  ·rw [if_pos (by unfold cutB; rw [h0]; rfl), nats_snoc] at IH
   exact ev_pos (by omega) (ev_pos (by rw [nats_length]; omega) IH)
  have hb0 : (i == 0) = false := by simpa using h0
  refine ev_neg (by omega) ?_
  by_cases h1 : i < m.length
  ·have hb : cutB m i = (rd m (i : Int) != 0) := by unfold cutB; rw [hb0, decide_eq_true h1]; simp
   refine ev_pos (by omega) (ev_pos (by omega) ?_)
   by_cases h2 : rd m (i : Int) = 0
   ·rw [hb, show (rd m (i : Int) != 0) = false by simpa using h2, if_neg (by decide), List.append_nil] at IH
    exact ev_pos h2 IH
   ·rw [hb, show (rd m (i : Int) != 0) = true by simpa using h2, if_pos rfl, nats_snoc] at IH
    exact ev_neg h2 (ev_pos (by rw [nats_length]; omega) IH)
  ·rw [show cutB m i = false by unfold cutB; rw [hb0, decide_eq_false h1]; rfl, if_neg (by decide), List.append_nil] at IH
   exact ev_neg (by omega) IH
theorem ref_ok (m : List Int) : Ev (fun q => r0_Clusters.f q s m w) (CLs (some (w.map prop_Make.t)) s (cuts m s.length ++ [s.length]), nats (cuts m s.length ++ [s.length])) := by
 unfold r0_Clusters.f
 exact ref_l0 g5 hn hwl hw m s.length 0 (by omega)
end
end Go.Proofs.Ytigajcipjklknaa.Pure
end
section
/- Ranges made right (Right): a list that the check lets through. -/
namespace Go.Proofs.Ytigajcipjklknaa.Pure
open Go.RowKit Go.Proofs.YtigajcipjklknaaW.PrintWords Go.Proofs.Ytigajcipjklknaa.F
theorem right_lo {e : Int} (h1 : -1 ≤ e) (h2 : e ≤ 1114111) (a : Int) : wrap64 (wrap64 (e + 1) + a % 4294967296 % 3000) = e + 1 + a % 4294967296 % 3000 := by
 have : 0 ≤ a % 4294967296 % 3000 ∧ a % 4294967296 % 3000 < 3000 := by omega
 generalize a % 4294967296 % 3000 = q at this
 rw [w64 (x := e + 1) (by omega) (by omega), w64 (by omega) (by omega)]
theorem right_hi {e : Int} (h1 : -1 ≤ e) (h2 : e ≤ 1200000) (a : Int) : wrap64 (e + a % 4294967296 % 600) = e + a % 4294967296 % 600 := by
 have : 0 ≤ a % 4294967296 % 600 ∧ a % 4294967296 % 600 < 600 := by omega
 generalize a % 4294967296 % 600 = q at this
 exact w64 (by omega) (by omega)
theorem w32s {e : Int} (h1 : 0 ≤ e) (h2 : e ≤ 1200000) : wrap32 e = e := by unfold wrap32; omega
theorem right_step (l : List S45) {most : Int} (h1 : 1 ≤ most) (h2 : most ≤ 255) {i : Nat} (hlt : i < l.length) (hx : i < 200) (m : List S45) (hm : m.length ≤ 200) {e : Int} (he1 : -1 ≤ e) (he2 : e ≤ 1114111) {p q t : Int}
  (hp : p = e + 1 + (l[i]).f0 % 4294967296 % 3000) (hq : q = p + (l[i]).f1 % 4294967296 % 600) (ht : t = ((l[i]).f2 % 18446744073709551616) % most) {r : List S45}
  (H : if q > 1114111 then r = m else Ev (fun k => stanzalaw02_Right.l0 k l most (m ++ [(⟨p, q, t⟩ : S45)]) q ((i + 1 : Nat) : Int)) r) :
  Ev (fun k => stanzalaw02_Right.l0 k l most m e (i : Int)) r := by
 have hp1 : -1 ≤ p ∧ p ≤ 1120000 := by omega
 have hq1 : 0 ≤ q ∧ q ≤ 1200000 := by omega
 have hp2 : 0 ≤ p := by omega
 have hne : IntKind.u64.wrap most ≠ 0 := by
  have hw : IntKind.u64.wrap most = most % 18446744073709551616 := by simp [IntKind.wrap, IntKind.signed, IntKind.bits]
  rw [hw]; omega
 have b1 : decide ((i : Int) < 200) = true := decide_eq_true (by omega)
 refine Ev.step (fun k => by unfold stanzalaw02_Right.l0; rfl) (ev_pos (by omega) ?_)
 rw [b1]
 refine Ev.step (fun k => by unfold stanzalaw02_Right.j1; rfl) (ev_pos rfl (ev_pos (by omega) (ev_pos (by omega) ?_)))
 rw [rd_range l i hlt, right_lo he1 he2, ← hp, right_hi (by omega) (by omega), ← hq, w32s hp2 (by omega), w32s hq1.1 hq1.2, u64mod (by omega) (by omega), ← ht]
 rw [w64 (x := (i : Int) + 1) (by omega) (by omega)]
 by_cases hb : q > 1114111
 ·rw [if_pos hb] at H
  subst H
  exact ev_pos hb (Ev.now _)
 ·rw [if_neg hb] at H
  exact ev_neg hb (ev_neg hne (ev_pos (by omega) H))
theorem right_loop (l : List S45) (hl : (l.length : Int) * 16 ≤ 140737488351232) (most : Int) (h1 : 1 ≤ most) (h2 : most ≤ 255) : ∀ (d i : Nat) (m : List S45) (e : Int), i + d = l.length → m.length ≤ i → m.length ≤ 200 → (i ≤ 200) → chkGo most (-1) (m.map prop_Make.t) = true → e = endOf (m.map prop_Make.t) → -1 ≤ e → e ≤ 1114111 →
  ∃ r, Ev (fun k => stanzalaw02_Right.l0 k l most m e (i : Int)) r ∧ chkGo most (-1) (r.map prop_Make.t) = true ∧ r.length ≤ 200 := by
 intro d
 induction d with
 | zero =>
  intro i m e hi hm1 hm2 hi2 hc he he1 he2
  refine ⟨m, Ev.step (fun k => by unfold stanzalaw02_Right.l0; rfl) (ev_neg (by omega) (Ev.step (fun k => by unfold stanzalaw02_Right.j1; rfl) (ev_neg (by decide) (Ev.now _)))), hc, hm2⟩
 | succ d ih =>
  intro i m e hi hm1 hm2 hi2 hc he he1 he2
  have hlt : i < l.length := by omega
  by_cases hx : i < 200
  ·obtain ⟨p, hp⟩ : ∃ p, p = e + 1 + (l[i]).f0 % 4294967296 % 3000 := ⟨_, rfl⟩
   obtain ⟨q, hq⟩ : ∃ q, q = p + (l[i]).f1 % 4294967296 % 600 := ⟨_, rfl⟩
   obtain ⟨t, ht⟩ : ∃ t, t = ((l[i]).f2 % 18446744073709551616) % most := ⟨_, rfl⟩
   have hp1 : e < p := by omega
   have hq1 : p ≤ q := by omega
   have ht1 : 0 ≤ t := by rw [ht]; exact Int.emod_nonneg _ (by omega)
   have ht2 : t < most := by rw [ht]; exact Int.emod_lt_of_pos _ (by omega)
   have step := fun {r} => right_step l h1 h2 hlt hx m hm2 he1 he2 hp hq ht (r := r)
   clear hp hq ht
   by_cases hb : q > 1114111
   ·exact ⟨m, step (by rw [if_pos hb]), hc, hm2⟩
   ·obtain ⟨r, hr, hrc, hrl⟩ := ih (i + 1) (m ++ [(⟨p, q, t⟩ : S45)]) q (by omega)
     (by rw [List.length_append]; exact Nat.succ_le_succ hm1) (by rw [List.length_append, List.length_singleton]; omega) (by omega)
     (by rw [List.map_append]; exact chkGo_snoc _ _ _ hc (show endOf (m.map prop_Make.t) < _ by rw [← he]; exact hp1) hq1 (show q ≤ 1114111 by omega) ht1 ht2 (show t ≤ 255 by omega))
     (by unfold endOf; rw [List.map_append, List.map_singleton, List.getLast?_concat]; rfl) (by omega) (by omega)
    exact ⟨r, step (by rw [if_neg hb]; exact hr), hrc, hrl⟩
  ·have b1 : decide ((i : Int) < 200) = false := decide_eq_false (by omega)
   refine ⟨m, Ev.step (fun k => by unfold stanzalaw02_Right.l0; rfl) (ev_pos (by omega) ?_), hc, hm2⟩
   rw [b1]
   exact Ev.step (fun k => by unfold stanzalaw02_Right.j1; rfl) (ev_neg (by decide) (Ev.now _))
theorem right_ok (l : List S45) (hl : (l.length : Int) * 16 ≤ 140737488351232) (most : Int) (h1 : 1 ≤ most) (h2 : most ≤ 255) : ∃ r, Ev (fun k => stanzalaw02_Right.f k l most) r ∧ chkGo most (-1) (r.map prop_Make.t) = true ∧ r.length ≤ 200 ∧ prop_Make.c r most = true := by
 obtain ⟨r, hr, hc, hn⟩ := right_loop l hl most h1 h2 l.length 0 [] (-1) (by omega) (by simp) (by simp) (by omega) rfl rfl (by omega) (by omega)
 refine ⟨r, ?_, hc, hn, ?_⟩
 ·unfold stanzalaw02_Right.f
  exact hr
 ·unfold prop_Make.c chkR
  rw [List.length_map, if_neg (by omega)]
  exact hc
end Go.Proofs.Ytigajcipjklknaa.Pure
end
section
/- SameInts comes to the equality of lists. -/
namespace Go.Proofs.Ytigajcipjklknaa.Pure
open Go.RowKit Go.Proofs.YtigajcipjklknaaW.PrintWords Go.Proofs.Ytigajcipjklknaa.F
theorem same_loop (a b : List Int) (hl : a.length = b.length) (hm : (a.length : Int) ≤ 9223372036854775806) : ∀ (d i : Nat), i + d = a.length → (∀ j, j < i → a.getD j 0 = b.getD j 0) →
  Ev (fun k => stanzaref01_SameInts.l0 k a b (i : Int)) (decide (a = b)) := by
 intro d
 induction d with
 | zero =>
  intro i hi hs
  refine Ev.step (fun k => by unfold stanzaref01_SameInts.l0; rfl) (ev_neg (by omega) (ev_ret ?_))
  have hab : a = b := by
   refine List.ext_getElem hl (fun j h1 h2 => ?_)
   have := hs j (by omega)
   rwa [List.getD_eq_getElem?_getD, List.getD_eq_getElem?_getD, List.getElem?_eq_getElem h1, List.getElem?_eq_getElem h2] at this
  simp [hab]
 | succ d ih =>
  intro i hi hs
  refine Ev.step (fun k => by unfold stanzaref01_SameInts.l0; rfl) (ev_pos (by omega) (ev_pos (by omega) (ev_pos (by omega) ?_)))
  rw [rd_nat, rd_nat]
  by_cases he : a.getD i 0 = b.getD i 0
  ·refine ev_pos he ?_
   rw [show wrap64 ((i : Int) + 1) = ((i + 1 : Nat) : Int) from by rw [w64 (by omega) (by omega)]; rfl]
   refine ih (i + 1) (by omega) (fun j hj => ?_)
   rcases Nat.lt_succ_iff_lt_or_eq.1 hj with h | h
   ·exact hs j h
   ·exact h ▸ he
  ·refine ev_neg he (ev_ret ?_)
   have : a ≠ b := fun h => he (by rw [h])
   simp [this]
theorem same_ints (a b : List Int) (hm : (a.length : Int) ≤ 9223372036854775806) : Ev (fun k => stanzaref01_SameInts.f k a b) (decide (a = b)) := by
 unfold stanzaref01_SameInts.f
 by_cases hl : a.length = b.length
 ·exact ev_pos (by omega) (same_loop a b hl hm a.length 0 (by omega) (fun j hj => by omega))
 ·refine ev_neg (by omega) (ev_ret ?_)
  have : a ≠ b := fun h => hl (by rw [h])
  simp [this]
end Go.Proofs.Ytigajcipjklknaa.Pure
end
section
/- CellsMakes, plain: the clusters of any text are the document's. -/
namespace Go.Proofs.Ytigajcipjklknaa.Pure
open Go.RowKit Go.Proofs.YtigajcipjklknaaW.PrintWords Go.Proofs.Ytigajcipjklknaa.F
theorem same_cl (C : List S48) (hC : C.length ≤ 1000000000000) : Ev (fun k => stanzalaw10_same.f k C C) true := by
 have l0 : ∀ (d i : Nat), i + d = C.length → Ev (fun k => stanzalaw10_same.l0 k C C (C.length : Int) (i : Int)) true := by
  intro d
  induction d with
  | zero => exact fun i hi => Ev.step (fun k => by unfold stanzalaw10_same.l0; rfl) (ev_neg (by omega) (ev_ret rfl))
  | succ d ih =>
   intro i hi
   refine Ev.step (fun k => by unfold stanzalaw10_same.l0; rfl) (ev_pos (by omega) (ev_pos (by omega) (ev_pos (by omega) (ev_pos (by omega) (ev_neg (by simp) ?_)))))
   rw [w64 (by omega) (by omega)]
   exact ih (i + 1) (by omega)
 unfold stanzalaw10_same.f
 exact ev_pos rfl (l0 C.length 0 (by omega))
theorem cm_round {w : List S45} (hwl : w.length ≤ 100000) (hw : chkGo 5 (-1) (w.map prop_Make.t) = true) (m mk : List Int) (hop : Ev (fun k => h3_Opps.f k mk) m) (x : List Int) (hx : x.length ≤ 2000) (X : List (List Int)) (i : Nat) (hi : i < X.length) (hX : rd_L8 X (i : Int) = x)
  (H : Ev (fun k => stanzalaw10_CellsMakes.l0 k mk w (some (w.map prop_Make.t)) X (X.length : Int) (wrap64 ((i : Int) + 1))) true) :
  Ev (fun k => stanzalaw10_CellsMakes.l0 k mk w (some (w.map prop_Make.t)) X (X.length : Int) (i : Int)) true := by
 obtain ⟨s, hs, hsg⟩ := all_ok x (by omega)
 obtain ⟨g1, g2, g3, g4⟩ := signs_all s 0 x.length hsg
 have g5 : ∀ x ∈ s, 0 ≤ x.f2 ∧ x.f2 ≤ 4 := fun x hx => by have := g2 x hx; omega
 have hcl := cuts_le m s.length
 have hPl : (cuts m s.length ++ [s.length]).length ≤ s.length + 1 := by rw [List.length_append, List.length_singleton]; omega
 have hk := cells_ok s g5 (by omega) m (some (w.map prop_Make.t))
 have hf := ref_ok g5 (by omega) hwl hw m
 have e1 := same_cl (CLs (some (w.map prop_Make.t)) s (cuts m s.length ++ [s.length])) (by rw [CLs_length]; omega)
 have e2 := same_ints (nats (cuts m s.length ++ [s.length])) (nats (cuts m s.length ++ [s.length])) (by rw [nats_length]; omega)
 refine Ev.step (fun k => by unfold stanzalaw10_CellsMakes.l0; rfl) (ev_pos (by omega) (ev_pos (by omega) (ev_pos (by omega) ?_)))
 rw [hX]
 exact ev_bind hs (ev_bind hop (ev_bind hk (ev_bind hop (ev_bind hf (ev_bind e1 (ev_pos rfl (ev_bind e2 (ev_pos (by simp) H))))))))
theorem CellsMakes : stanzalaw10_CellsMakes.Pure := by
 intro l0 l1 l2 l3 h0 h1 h2 h3
 have : Ev (fun k => stanzalaw10_CellsMakes.f k l0 l1 l2 l3) true := by
  unfold stanzalaw10_CellsMakes.f
  refine ev_bind awake10 (ev_pos rfl ?_)
  have jt : Ev (fun k => stanzalaw10_CellsMakes.j0 k l0 l1 l2 l3 true) true := Ev.step (fun k => by unfold stanzalaw10_CellsMakes.j0; rfl) (ev_pos rfl (Ev.now _))
  by_cases hl : (l0.length : Int) > 2000
  ·exact ev_pos hl jt
  refine ev_neg hl ?_
  by_cases hl1 : (l1.length : Int) > 500
  ·rw [decide_eq_true hl1]; exact jt
  rw [decide_eq_false hl1]
  obtain ⟨w, hr, hc, hn, hm⟩ := right_ok l3 (by have := h3.1; omega) 5 (by decide) (by decide)
  obtain ⟨b, hb, hbl⟩ := words_ok l1 (by omega) h1.2
  have hop := opps_ok l2 (by have := h2.1; omega)
  refine Ev.step (fun k => by unfold stanzalaw10_CellsMakes.j0; rfl) (ev_neg (by decide) (ev_bind hr (ev_pos hm (ev_bind' (make_y hm) (ev_bind hb (ev_let ?_))))))
  have w1 : wrap64 (((0 : Nat) : Int) + 1) = ((1 : Nat) : Int) := by decide +kernel
  have w2 : wrap64 (((1 : Nat) : Int) + 1) = ((2 : Nat) : Int) := by decide +kernel
  refine cm_round (by omega) hc l2 l2 hop l0 (by omega) [l0, b] 0 (by simp) rfl ?_
  rw [w1]
  refine cm_round (by omega) hc l2 l2 hop b (by omega) [l0, b] 1 (by simp) rfl ?_
  rw [w2]
  exact Ev.step (fun k => by unfold stanzalaw10_CellsMakes.l0; rfl) (ev_neg (show ¬ ((2 : Nat) : Int) < ((2 : Nat) : Int) by decide) (ev_ret rfl))
 obtain ⟨k, hk⟩ := this
 exact ⟨k, hk k (Nat.le_refl k)⟩
end Go.Proofs.Ytigajcipjklknaa.Pure
end
