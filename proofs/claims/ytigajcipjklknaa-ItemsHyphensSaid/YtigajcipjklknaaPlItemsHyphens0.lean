/- Plain proofs: what the printed functions compute. -/
import Derived.Test.YtigajcipjklknaaXItemsHyphens0
import Derived.WalkKit
import Derived.Test.YtigajcipjklknaaVItemsHyphens0
import Derived.Test.YtigajcipjklknaaVItemsHyphens1
import Derived.Test.YtigajcipjklknaaVItemsHyphens2
section
/- Helpers of the plain proofs: eventual values (Ev), wrapped numbers, lists. -/
namespace Go.Proofs.Ytigajcipjklknaa.Pure
open Go.RowKit Go.Proofs.YtigajcipjklknaaW.PrintWords
theorem ev_pos {α : Type} {c : Prop} [Decidable c] {a b : Nat → Option α} {r : α} (h : c) (H : Ev a r) : Ev (fun k => if c then a k else b k) r := by simpa [h] using H
theorem ev_neg {α : Type} {c : Prop} [Decidable c] {a b : Nat → Option α} {r : α} (h : ¬ c) (H : Ev b r) : Ev (fun k => if c then a k else b k) r := by simpa [h] using H
theorem ev_ret {α : Type} {x r : α} (h : x = r) : Ev (fun _ => some x) r := by subst h; exact Ev.now _
theorem ev_bind {α β : Type} {g : Nat → Option α} {f : Nat → α → Option β} {a : α} {r : β} (h : Ev g a) (k : Ev (fun n => f n a) r) : Ev (fun n => (g n).bind (f n)) r := Ev.bind h k
theorem ev_bind' {α β : Type} {o : Option α} {f : Nat → α → Option β} {a : α} {r : β} (h : o = some a) (k : Ev (fun n => f n a) r) : Ev (fun n => o.bind (f n)) r := by subst h; exact k
theorem ev_let {α β : Type} {a : α} {f : Nat → α → Option β} {r : β} (k : Ev (fun n => f n a) r) : Ev (fun n => (some a).bind (f n)) r := k
theorem w64 {x : Int} (h1 : -9223372036854775808 ≤ x) (h2 : x ≤ 9223372036854775807) : wrap64 x = x := by unfold wrap64; omega
theorem tmodp {a b : Int} (h : 0 ≤ a) : Int.tmod a b = a % b := Int.tmod_eq_emod_of_nonneg h
theorem wfu8 {x : Int} : (Lit.int .u8 x).wf = true ↔ 0 ≤ x ∧ x ≤ 255 := by simp [Lit.wf, IntKind.min, IntKind.max, IntKind.signed, IntKind.bits]
theorem rd_nat (xs : List Int) (n : Nat) : rd xs (n : Int) = xs.getD n 0 := rfl
end Go.Proofs.Ytigajcipjklknaa.Pure
end
section
/- What tables of ranges hold: the document's answer (Of), when a list is right; no condition but that lengths fit. -/
namespace Go.Proofs.Ytigajcipjklknaa.Pure
open Go.RowKit Go.Proofs.YtigajcipjklknaaW.PrintWords Go.Proofs.Ytigajcipjklknaa.F
theorem make_y {l : List S45} {m : Int} (h : prop_Make.c l m = true) : prop_MakeY.f l m = some (some (l.map prop_Make.t)) := by unfold prop_MakeY.f; rw [if_pos h]
end Go.Proofs.Ytigajcipjklknaa.Pure
end
section
/- Signs of a text: All's row runs from the first byte to the last one, each sign with one to four bytes. -/
namespace Go.Proofs.Ytigajcipjklknaa.Pure
open Go.RowKit Go.Proofs.YtigajcipjklknaaW.PrintWords Go.Proofs.Ytigajcipjklknaa.F
theorem length_some (b : Int) : ∃ n, Ev (fun k => stanzaref01_length.f k b) n := by
 have j1 : ∀ (b : Int) (c : Bool), ∃ n, Ev (fun k => stanzaref01_length.j1 k b c) n := by
  intro b c
  cases c
  ·by_cases h1 : b ≥ 240
   ·by_cases h2 : b ≤ 244
    ·exact ⟨4, Ev.step (fun k => by unfold stanzaref01_length.j1; rfl) (ev_neg (by decide) (ev_pos h1 (ev_pos h2 (Ev.now _))))⟩
    ·exact ⟨0, Ev.step (fun k => by unfold stanzaref01_length.j1; rfl) (ev_neg (by decide) (ev_pos h1 (ev_neg h2 (Ev.now _))))⟩
   ·exact ⟨0, Ev.step (fun k => by unfold stanzaref01_length.j1; rfl) (ev_neg (by decide) (ev_neg h1 (Ev.now _)))⟩
  ·exact ⟨3, Ev.step (fun k => by unfold stanzaref01_length.j1; rfl) (ev_pos rfl (Ev.now _))⟩
 have j0 : ∀ (b : Int) (c : Bool), ∃ n, Ev (fun k => stanzaref01_length.j0 k b c) n := by
  intro b c
  cases c
  ·by_cases h1 : b ≥ 224
   ·obtain ⟨n, hn⟩ := j1 b (decide (b ≤ 239))
    exact ⟨n, Ev.step (fun k => by unfold stanzaref01_length.j0; rfl) (ev_neg (by decide) (ev_pos h1 hn))⟩
   ·obtain ⟨n, hn⟩ := j1 b false
    exact ⟨n, Ev.step (fun k => by unfold stanzaref01_length.j0; rfl) (ev_neg (by decide) (ev_neg h1 hn))⟩
  ·exact ⟨2, Ev.step (fun k => by unfold stanzaref01_length.j0; rfl) (ev_pos rfl (Ev.now _))⟩
 unfold stanzaref01_length.f
 by_cases h : b < 128
 ·exact ⟨1, ev_pos h (Ev.now _)⟩
 ·by_cases h2 : b ≥ 194
  ·obtain ⟨n, hn⟩ := j0 b (decide (b ≤ 223))
   exact ⟨n, ev_neg h (ev_pos h2 hn)⟩
  ·obtain ⟨n, hn⟩ := j0 b false
   exact ⟨n, ev_neg h (ev_neg h2 hn)⟩
theorem begins_loop (x : List Int) (hn : x.length ≤ 100) (h0 : 0 < x.length) : ∀ (d i : Nat), i + d = max x.length 1 → ∃ b, Ev (fun k => stanzaref01_Begins.l0 k x (i : Int)) b := by
 intro d
 induction d with
 | zero =>
  intro i hi
  by_cases h1 : (x.length : Int) = 1
  ·exact ⟨true, Ev.step (fun k => by unfold stanzaref01_Begins.l0; rfl) (ev_neg (by omega) (ev_pos h1 (Ev.now _)))⟩
  ·by_cases c1 : rd x 0 = 224
   ·exact ⟨_, Ev.step (fun k => by unfold stanzaref01_Begins.l0; rfl) (ev_neg (by omega) (ev_neg h1 (ev_pos (by omega) (ev_pos c1 (ev_pos (by omega) (Ev.now _))))))⟩
   by_cases c2 : rd x 0 = 237
   ·exact ⟨_, Ev.step (fun k => by unfold stanzaref01_Begins.l0; rfl) (ev_neg (by omega) (ev_neg h1 (ev_pos (by omega) (ev_neg c1 (ev_pos c2 (ev_pos (by omega) (Ev.now _)))))))⟩
   by_cases c3 : rd x 0 = 240
   ·exact ⟨_, Ev.step (fun k => by unfold stanzaref01_Begins.l0; rfl) (ev_neg (by omega) (ev_neg h1 (ev_pos (by omega) (ev_neg c1 (ev_neg c2 (ev_pos c3 (ev_pos (by omega) (Ev.now _))))))))⟩
   by_cases c4 : rd x 0 = 244
   ·exact ⟨_, Ev.step (fun k => by unfold stanzaref01_Begins.l0; rfl) (ev_neg (by omega) (ev_neg h1 (ev_pos (by omega) (ev_neg c1 (ev_neg c2 (ev_neg c3 (ev_pos c4 (ev_pos (by omega) (Ev.now _)))))))))⟩
   ·exact ⟨true, Ev.step (fun k => by unfold stanzaref01_Begins.l0; rfl) (ev_neg (by omega) (ev_neg h1 (ev_pos (by omega) (ev_neg c1 (ev_neg c2 (ev_neg c3 (ev_neg c4 (Ev.now _))))))))⟩
 | succ d ih =>
  intro i hi
  by_cases c1 : rd x (i : Int) < 128
  ·exact ⟨false, Ev.step (fun k => by unfold stanzaref01_Begins.l0; rfl) (ev_pos (by omega) (ev_pos (by omega) (ev_pos c1 (Ev.now _))))⟩
  by_cases c2 : rd x (i : Int) > 191
  ·exact ⟨false, Ev.step (fun k => by unfold stanzaref01_Begins.l0; rfl) (ev_pos (by omega) (ev_pos (by omega) (ev_neg c1 (ev_pos c2 (Ev.now _)))))⟩
  obtain ⟨b, hb⟩ := ih (i + 1) (by omega)
  refine ⟨b, Ev.step (fun k => by unfold stanzaref01_Begins.l0; rfl) (ev_pos (by omega) (ev_pos (by omega) (ev_neg c1 (ev_neg c2 ?_))))⟩
  rw [w64 (by omega) (by omega)]
  exact hb
theorem begins_some (x : List Int) (hn : x.length ≤ 100) : ∃ b, Ev (fun k => stanzaref01_Begins.f k x) b := by
 unfold stanzaref01_Begins.f
 by_cases h : (x.length : Int) = 0
 ·exact ⟨false, ev_pos h (Ev.step (fun k => by unfold stanzaref01_Begins.j0; rfl) (ev_pos rfl (Ev.now _)))⟩
 ·obtain ⟨n, hl⟩ := length_some (rd x 0)
  by_cases h2 : (x.length : Int) > n
  ·refine ⟨false, ev_neg h (ev_pos (by omega) (ev_bind hl ?_))⟩
   rw [decide_eq_true h2]
   exact Ev.step (fun k => by unfold stanzaref01_Begins.j0; rfl) (ev_pos rfl (Ev.now _))
  ·obtain ⟨b, hb⟩ := begins_loop x hn (by omega) (x.length - 1) 1 (by omega)
   refine ⟨b, ev_neg h (ev_pos (by omega) (ev_bind hl ?_))⟩
   rw [decide_eq_false h2]
   exact Ev.step (fun k => by unfold stanzaref01_Begins.j0; rfl) (ev_neg (by decide) hb)
theorem one_l1 (x : List Int) (hx : x.length ≤ 1000000000000) (p n : Nat) (hp : p + n ≤ x.length) (hn : n ≤ 4) : ∀ (d i : Nat) (v : Int), i + d = n → ∃ r, Ev (fun k => stanzaref01_One.l1 k x (p : Int) (n : Int) v (i : Int)) (r, (p : Int), (n : Int)) := by
 intro d
 induction d with
 | zero => exact fun i v hi => ⟨v, Ev.step (fun k => by unfold stanzaref01_One.l1; rfl) (ev_neg (by omega) (Ev.now _))⟩
 | succ d ih =>
  intro i v hi
  obtain ⟨r, hr⟩ := ih (i + 1) _ (by omega)
  by_cases h : (i : Int) < (n : Int)
  ·refine ⟨r, Ev.step (fun k => by unfold stanzaref01_One.l1; rfl) (ev_pos h ?_)⟩
   rw [w64 (x := (p : Int) + (i : Int)) (by omega) (by omega), w64 (x := (i : Int) + 1) (by omega) (by omega)]
   exact ev_pos (by omega) (ev_pos (by omega) hr)
  ·exact absurd hi (by omega)
theorem one_end (x : List Int) (hx : x.length ≤ 1000000000000) (p n : Nat) (hq : p < x.length) (hp : p + n ≤ x.length) (hn : n ≤ 4) : ∃ (r : Int) (m : Nat), Ev (fun k => stanzaref01_One.j2 k x (p : Int) (n : Int)) (r, (p : Int), (m : Int)) ∧ 1 ≤ m ∧ m ≤ 4 ∧ p + m ≤ x.length := by
 by_cases h0 : (n : Int) = 0
 ·exact ⟨65533, 1, Ev.step (fun k => by unfold stanzaref01_One.j2; rfl) (ev_pos h0 (Ev.now _)), by omega, by omega, by omega⟩
 obtain ⟨t, ht⟩ := length_some (rd x (p : Int))
 by_cases h1 : (n : Int) < t
 ·exact ⟨65533, n, Ev.step (fun k => by unfold stanzaref01_One.j2; rfl) (ev_neg h0 (ev_pos (by omega) (ev_pos (by omega) (ev_bind ht (ev_pos h1 (Ev.now _)))))), by omega, by omega, by omega⟩
 ·obtain ⟨r, hr⟩ := one_l1 x hx p n hp hn (n - 1) 1 (Go.bits .and .i32 (wrap32 (rd x (p : Int))) (rd ([0, 127, 31, 15, 7] : List Int) (n : Int))) (by omega)
  refine ⟨r, n, Ev.step (fun k => by unfold stanzaref01_One.j2; rfl) (ev_neg h0 (ev_pos (by omega) (ev_pos (by omega) (ev_bind ht (ev_neg h1 (ev_let ?_)))))), by omega, by omega, by omega⟩
  exact ev_pos (show 0 ≤ (n : Int) by omega) (ev_pos (show (n : Int) < 5 by omega) hr)
theorem one_loop (x : List Int) (hx : x.length ≤ 1000000000000) (p : Nat) (hq : p < x.length) : ∀ (d n : Nat), n + d = 4 → p + n ≤ x.length → ∃ (r : Int) (m : Nat), Ev (fun k => stanzaref01_One.l0 k x (p : Int) (n : Int)) (r, (p : Int), (m : Int)) ∧ 1 ≤ m ∧ m ≤ 4 ∧ p + m ≤ x.length := by
 intro d
 induction d with
 | zero =>
  intro n hn hp
  obtain ⟨r, m, h, h2⟩ := one_end x hx p n hq hp (by omega)
  exact ⟨r, m, Ev.step (fun k => by unfold stanzaref01_One.l0; rfl) (ev_neg (by omega) h), h2⟩
 | succ d ih =>
  intro n hn hp
  have e1 : wrap64 ((x.length : Int) - (p : Int)) = (x.length : Int) - (p : Int) := w64 (by omega) (by omega)
  by_cases h : p + n < x.length
  ·have e2 : wrap64 (wrap64 ((p : Int) + (n : Int)) + 1) = ((p + n + 1 : Nat) : Int) := by rw [w64 (x := (p : Int) + (n : Int)) (by omega) (by omega), w64 (by omega) (by omega)]; rfl
   obtain ⟨b, hb⟩ := begins_some ((x.take (p + n + 1)).drop p) (by rw [List.length_drop, List.length_take]; omega)
   cases b
   ·obtain ⟨r, m, h3, h2⟩ := one_end x hx p n hq hp (by omega)
    refine ⟨r, m, Ev.step (fun k => by unfold stanzaref01_One.l0; rfl) (ev_pos (by omega) ?_), h2⟩
    rw [e1, e2, Int.toNat_natCast, Int.toNat_natCast]
    exact ev_pos (by omega) (ev_pos (by omega) (ev_pos (by omega) (ev_pos (by omega) (ev_bind hb (ev_neg (by decide) h3)))))
   ·obtain ⟨r, m, h3, h2⟩ := ih (n + 1) (by omega) (by omega)
    refine ⟨r, m, Ev.step (fun k => by unfold stanzaref01_One.l0; rfl) (ev_pos (by omega) ?_), h2⟩
    rw [e1, e2, Int.toNat_natCast, Int.toNat_natCast, w64 (x := (n : Int) + 1) (by omega) (by omega)]
    exact ev_pos (by omega) (ev_pos (by omega) (ev_pos (by omega) (ev_pos (by omega) (ev_bind hb (ev_pos rfl h3)))))
  ·obtain ⟨r, m, h3, h2⟩ := one_end x hx p n hq hp (by omega)
   refine ⟨r, m, Ev.step (fun k => by unfold stanzaref01_One.l0; rfl) (ev_pos (by omega) ?_), h2⟩
   rw [e1]
   exact ev_neg (by omega) h3
theorem one_ok (x : List Int) (hx : x.length ≤ 1000000000000) (p : Nat) (hq : p < x.length) : ∃ (r : Int) (m : Nat), Ev (fun k => stanzaref01_One.f k x (p : Int)) (r, (p : Int), (m : Int)) ∧ 1 ≤ m ∧ m ≤ 4 ∧ p + m ≤ x.length := by
 obtain ⟨r, m, h, h2⟩ := one_loop x hx p hq 4 0 rfl (by omega)
 unfold stanzaref01_One.f
 refine ⟨r, m, ev_neg (by omega) ?_, h2⟩
 rw [decide_eq_false (by omega)]
 exact Ev.step (fun k => by unfold stanzaref01_One.j0; rfl) (ev_neg (by decide) h)
def Signs : List S50 → Nat → Nat → Prop
 | [], p, e => p = e
 | x :: s, p, e => x.f1 = (p : Int) ∧ ∃ m : Nat, x.f2 = (m : Int) ∧ 1 ≤ m ∧ m ≤ 4 ∧ Signs s (p + m) e
theorem all_loop (x : List Int) (hx : x.length ≤ 1000000000000) : ∀ (d p : Nat) (acc : List S50), x.length - p ≤ d → p ≤ x.length → acc.length ≤ p → ∃ t, Ev (fun k => stanzaref01_All.l0 k x acc (p : Int)) (acc ++ t) ∧ Signs t p x.length := by
 intro d
 induction d with
 | zero =>
  intro p acc hd hp ha
  exact ⟨[], by rw [List.append_nil]; exact Ev.step (fun k => by unfold stanzaref01_All.l0; rfl) (ev_neg (by omega) (Ev.now _)), by unfold Signs; omega⟩
 | succ d ih =>
  intro p acc hd hp ha
  by_cases h : p < x.length
  ·obtain ⟨r, m, h1, h2, h3, h4⟩ := one_ok x hx p h
   obtain ⟨t, ht, hs⟩ := ih (p + m) (acc ++ [(⟨r, (p : Int), (m : Int)⟩ : S50)]) (by omega) h4 (by rw [List.length_append, List.length_singleton]; omega)
   refine ⟨(⟨r, (p : Int), (m : Int)⟩ : S50) :: t, ?_, rfl, m, rfl, h2, h3, hs⟩
   rw [List.append_cons]
   refine Ev.step (fun k => by unfold stanzaref01_All.l0; rfl) (ev_pos (by omega) (ev_bind h1 (ev_pos (show acc.length < 5864062014805 by omega) ?_)))
   rw [show wrap64 ((p : Int) + (m : Int)) = ((p + m : Nat) : Int) by rw [w64 (by omega) (by omega)]; rfl]
   exact ht
  ·exact ⟨[], by rw [List.append_nil]; exact Ev.step (fun k => by unfold stanzaref01_All.l0; rfl) (ev_neg (by omega) (Ev.now _)), by unfold Signs; omega⟩
theorem all_ok (x : List Int) (hx : x.length ≤ 1000000000000) : ∃ t, Ev (fun k => stanzaref01_All.f k x) t ∧ Signs t 0 x.length := by
 obtain ⟨t, ht, hs⟩ := all_loop x hx x.length 0 [] (by omega) (by omega) (by simp)
 exact ⟨t, ht, hs⟩
end Go.Proofs.Ytigajcipjklknaa.Pure
end
section
/- Clusters of signs: what cells.Make answers, in plain words. -/
namespace Go.Proofs.Ytigajcipjklknaa.Pure
open Go.RowKit Go.Proofs.YtigajcipjklknaaW.PrintWords Go.Proofs.Ytigajcipjklknaa.F
def kindOf (r : Int) : Int := if r = 32 then 1 else if r = 9 then 2 else 0
theorem kind_ok (r : Int) : cells_kind.f r = some (kindOf r) := by
 unfold cells_kind.f kindOf
 split
 ·rfl
 ·split <;> rfl
def lenTo (s : List S50) (a : Nat) : Nat → Int
 | 0 => 0
 | d + 1 => lenTo s a d + (rd_T50 s ((a + d : Nat) : Int)).f2
def cellTo (t : Option (List (Int × Int × Int))) (s : List S50) (a : Nat) : Nat → Int
 | 0 => 0
 | d + 1 => mx (cellTo t s a d) (mn (tabOf t (rd_T50 s ((a + d : Nat) : Int)).f0) 2)
def clu (t : Option (List (Int × Int × Int))) (s : List S50) (a d : Nat) : S48 := ⟨(rd_T50 s (a : Int)).f1, lenTo s a d, cellTo t s a d, if d = 1 then kindOf (rd_T50 s (a : Int)).f0 else 0⟩
def CLs (t : Option (List (Int × Int × Int))) (s : List S50) : List Nat → List S48
 | a :: b :: r => clu t s a (b - a) :: CLs t s (b :: r)
 | _ => []
def cutB (m : List Int) (i : Nat) : Bool := i == 0 || (decide (i < m.length) && rd m (i : Int) != 0)
def cuts (m : List Int) (i : Nat) : List Nat := (List.range i).filter (cutB m)
def nats (l : List Nat) : List Int := l.map fun n : Nat => (n : Int)
theorem CLs_snoc (t : Option (List (Int × Int × Int))) (s : List S50) : ∀ (p : List Nat) (a i : Nat), CLs t s (p ++ [a, i]) = CLs t s (p ++ [a]) ++ [clu t s a (i - a)]
 | [], a, i => rfl
 | [x], a, i => rfl
 | x :: y :: p, a, i => by
  show clu t s x (y - x) :: CLs t s ((y :: p) ++ [a, i]) = clu t s x (y - x) :: (CLs t s ((y :: p) ++ [a]) ++ [clu t s a (i - a)])
  rw [CLs_snoc t s (y :: p) a i]
theorem CLs_length (t : Option (List (Int × Int × Int))) (s : List S50) : ∀ (p : List Nat), (CLs t s p).length = p.length - 1
 | [] => rfl
 | [x] => rfl
 | x :: y :: p => by
  show (CLs t s (y :: p)).length + 1 = _
  rw [CLs_length t s (y :: p)]
  simp
theorem cuts_succ (m : List Int) (i : Nat) : cuts m (i + 1) = cuts m i ++ (if cutB m i = true then [i] else []) := by
 unfold cuts
 rw [List.range_succ, List.filter_append]
 cases hb : cutB m i <;> simp [List.filter, hb]
theorem cuts_last (m : List Int) : ∀ i, 0 < i → ∃ p a, cuts m i = p ++ [a] ∧ a < i ∧ p.length < i
 | 0, h => absurd h (by omega)
 | 1, _ => ⟨[], 0, rfl, by omega, by simp⟩
 | i + 2, _ => by
  rw [cuts_succ]
  obtain ⟨p, a, h, h1, h2⟩ := cuts_last m (i + 1) (by omega)
  by_cases hb : cutB m (i + 1) = true
  ·rw [if_pos hb]
   refine ⟨cuts m (i + 1), i + 1, rfl, by omega, ?_⟩
   rw [h, List.length_append, List.length_singleton]; omega
  ·rw [if_neg hb, List.append_nil]
   exact ⟨p, a, h, by omega, by omega⟩
theorem last_ix {α : Type} (o : List α) (c : α) (hn : o.length ≤ 1000000000000) : wrap64 (((o ++ [c]).length : Int) - 1) = (o.length : Int) := by
 rw [List.length_append, List.length_singleton, w64 (by omega) (by omega)]; omega
theorem rd_lastC (o : List S48) (c : S48) : rd_T48 (o ++ [c]) (o.length : Int) = c := by
 unfold rd_T48
 rw [List.getD_eq_getElem?_getD, Int.toNat_natCast, List.getElem?_append_right (Nat.le_refl _), Nat.sub_self]; rfl
theorem rd_lastI (o : List Int) (c : Int) : rd (o ++ [c]) (o.length : Int) = c := by
 rw [rd_nat, List.getD_eq_getElem?_getD, List.getElem?_append_right (Nat.le_refl _), Nat.sub_self]; rfl
theorem set_last {α : Type} (o : List α) (c v : α) : (o ++ [c]).set (o.length : Int).toNat v = o ++ [v] := by
 rw [Int.toNat_natCast]
 rw [List.set_append_right _ _ (Nat.le_refl _), Nat.sub_self]; rfl
def more (t : Option (List (Int × Int × Int))) (c : S48) (own : Prop) [Decidable own] (x : S50) : S48 := ⟨c.f0, wrap64 (c.f1 + x.f2), mx c.f2 (mn (tabOf t x.f0) 2), if own then c.f3 else 0⟩
theorem cells_j1f (s : List S50) (m : List Int) (t : Option (List (Int × Int × Int))) (o : List S48) (c : S48) (w : List Int) (a : Int) (i : Int) (x13 : List S50) (x14 x15 : Int) (x : S50) (h1 : o.length ≤ 1000000000000) (h2 : w.length ≤ 1000000000000) {r : List S48 × List Int}
  (H : Ev (fun k => cells_Make.l0 k s m t (o ++ [more t c (a = i) x]) (w ++ [a]) x13 x14 (wrap64 (x15 + 1))) r) :
  Ev (fun k => cells_Make.j1 k s m t (o ++ [c]) (w ++ [a]) i x13 x14 x15 false x.f0 x.f1 x.f2) r := by
 have e1 := last_ix o c h1
 have e2 := last_ix w a h2
 have l1 : (o.length : Int) < ((o ++ [c]).length : Int) := by rw [List.length_append, List.length_singleton]; omega
 have l2 : (w.length : Int) < ((w ++ [a]).length : Int) := by rw [List.length_append, List.length_singleton]; omega
 refine Ev.step (fun k => by unfold cells_Make.j1; rfl) (ev_neg (by decide) ?_)
 rw [e1, e2, rd_lastI]
 refine ev_pos (by omega) (ev_pos l1 (ev_pos (by omega) (ev_pos l2 ?_)))
 simp only [rd_lastC, set_last]
 by_cases ha : a = i
 ·refine ev_pos ha (ev_let (ev_bind' (show prop_Table_Of.f _ _ = some (tabOf t x.f0) from rfl) ?_))
  simp only [rd_lastC, set_last]
  unfold more at H
  rw [if_pos ha] at H
  exact H
 ·refine ev_neg ha (ev_let (ev_let ?_))
  simp only [rd_lastC, set_last]
  refine ev_bind' (show prop_Table_Of.f _ _ = some (tabOf t x.f0) from rfl) ?_
  unfold more at H
  rw [if_neg ha] at H
  exact H
theorem cells_j1t (s : List S50) (m : List Int) (t : Option (List (Int × Int × Int))) (o : List S48) (w : List Int) (i : Int) (x13 : List S50) (x14 x15 : Int) (x : S50) (h1 : o.length ≤ 1000000000000) (h2 : w.length ≤ 1000000000000) {r : List S48 × List Int}
  (H : Ev (fun k => cells_Make.l0 k s m t (o ++ [more t ⟨x.f1, 0, 0, kindOf x.f0⟩ (i = i) x]) (w ++ [i]) x13 x14 (wrap64 (x15 + 1))) r) :
  Ev (fun k => cells_Make.j1 k s m t o w i x13 x14 x15 true x.f0 x.f1 x.f2) r := by
 have e1 := last_ix o (⟨x.f1, 0, 0, kindOf x.f0⟩ : S48) h1
 have e2 := last_ix w i h2
 have l1 : (o.length : Int) < ((o ++ [(⟨x.f1, 0, 0, kindOf x.f0⟩ : S48)]).length : Int) := by rw [List.length_append, List.length_singleton]; omega
 have l2 : (w.length : Int) < ((w ++ [i]).length : Int) := by rw [List.length_append, List.length_singleton]; omega
 refine Ev.step (fun k => by unfold cells_Make.j1; rfl) (ev_pos rfl (ev_bind' (kind_ok x.f0) (ev_pos (show o.length < 4398046511104 by omega) (ev_let ?_))))
 refine ev_pos (show w.length < 17592186044416 by omega) (ev_let ?_)
 rw [e1, e2, rd_lastI]
 refine ev_pos (by omega) (ev_pos l1 (ev_pos (by omega) (ev_pos l2 (ev_pos rfl (ev_let ?_)))))
 simp only [rd_lastC, set_last]
 refine ev_bind' (show prop_Table_Of.f _ _ = some (tabOf t x.f0) from rfl) ?_
 unfold more at H
 rw [if_pos rfl] at H
 exact H
theorem lenTo_lt {s : List S50} (h : ∀ x ∈ s, 0 ≤ x.f2 ∧ x.f2 ≤ 4) (a : Nat) : ∀ d, 0 ≤ lenTo s a d ∧ lenTo s a d ≤ 4 * d
 | 0 => by unfold lenTo; omega
 | d + 1 => by
  have ih := lenTo_lt h a d
  unfold lenTo
  have : 0 ≤ (rd_T50 s ((a + d : Nat) : Int)).f2 ∧ (rd_T50 s ((a + d : Nat) : Int)).f2 ≤ 4 := by
   unfold rd_T50
   rw [List.getD_eq_getElem?_getD, Int.toNat_natCast]
   cases hq : s[a + d]? with
   | none => exact ⟨by decide, by decide⟩
   | some y => exact h y (List.mem_of_getElem? hq)
  omega
theorem more_own (t : Option (List (Int × Int × Int))) (s : List S50) (h : ∀ x ∈ s, 0 ≤ x.f2 ∧ x.f2 ≤ 4) (i : Nat) (j : Int) : more t ⟨(rd_T50 s (i : Int)).f1, 0, 0, kindOf (rd_T50 s (i : Int)).f0⟩ (j = j) (rd_T50 s (i : Int)) = clu t s i 1 := by
 unfold more clu
 rw [if_pos rfl, if_pos rfl]
 have h1 := lenTo_lt h i 1
 have : lenTo s i 1 = 0 + (rd_T50 s (i : Int)).f2 := rfl
 rw [← this, w64 (by omega) (by omega)]
 rfl
theorem more_old (t : Option (List (Int × Int × Int))) (s : List S50) (h : ∀ x ∈ s, 0 ≤ x.f2 ∧ x.f2 ≤ 4) {a i : Nat} (ha : a < i) (hi : i ≤ 1000000000000) : more t (clu t s a (i - a)) ((a : Int) = (i : Int)) (rd_T50 s (i : Int)) = clu t s a (i + 1 - a) := by
 unfold more
 rw [if_neg (by omega)]
 have hd : i + 1 - a = (i - a) + 1 := by omega
 have hi2 : a + (i - a) = i := by omega
 have h1 := lenTo_lt h a ((i - a) + 1)
 have e1 : lenTo s a ((i - a) + 1) = lenTo s a (i - a) + (rd_T50 s (i : Int)).f2 := by
  show lenTo s a (i - a) + (rd_T50 s ((a + (i - a) : Nat) : Int)).f2 = _
  rw [hi2]
 have e2 : cellTo t s a ((i - a) + 1) = mx (cellTo t s a (i - a)) (mn (tabOf t (rd_T50 s (i : Int)).f0) 2) := by
  show mx (cellTo t s a (i - a)) (mn (tabOf t (rd_T50 s ((a + (i - a) : Nat) : Int)).f0) 2) = _
  rw [hi2]
 have e3 : clu t s a (i - a + 1) = ⟨(rd_T50 s (a : Int)).f1, lenTo s a (i - a + 1), cellTo t s a (i - a + 1), 0⟩ := by
  unfold clu
  rw [if_neg (by omega)]
 rw [hd, e3, e1, e2]
 show (⟨_, wrap64 (lenTo s a (i - a) + (rd_T50 s (i : Int)).f2), _, _⟩ : S48) = _
 rw [← e1, w64 (by omega) (by omega)]
 rfl
theorem nats_snoc (p : List Nat) (a : Nat) : nats (p ++ [a]) = nats p ++ [(a : Int)] := by unfold nats; rw [List.map_append]; rfl
theorem nats_length (p : List Nat) : (nats p).length = p.length := List.length_map _
theorem cuts_le (m : List Int) (i : Nat) : (cuts m i).length ≤ i := by
 unfold cuts
 have := List.length_filter_le (cutB m) (List.range i)
 rwa [List.length_range] at this
theorem cells_loop (s : List S50) (h : ∀ x ∈ s, 0 ≤ x.f2 ∧ x.f2 ≤ 4) (hn : s.length ≤ 1000000000000) (m : List Int) (t : Option (List (Int × Int × Int))) : ∀ (d i : Nat), i + d = s.length →
  Ev (fun k => cells_Make.l0 k s m t (CLs t s (cuts m i ++ [i])) (nats (cuts m i)) s (s.length : Int) (i : Int)) (CLs t s (cuts m s.length ++ [s.length]), nats (cuts m s.length ++ [s.length])) := by
 intro d
 induction d with
 | zero =>
  intro i hi
  obtain rfl : i = s.length := by omega
  refine Ev.step (fun k => by unfold cells_Make.l0; rfl) (ev_neg (by omega) (ev_pos ?_ (ev_ret ?_)))
  ·rw [nats_length]; have := cuts_le m s.length; omega
  ·rw [nats_snoc]
 | succ d ih =>
  intro i hi
  have IH := ih (i + 1) (by omega)
  have hw : wrap64 ((i : Int) + 1) = ((i + 1 : Nat) : Int) := by rw [w64 (by omega) (by omega)]; rfl
  have cl := cuts_le m i
  have cut : cutB m i = true → Ev (fun k => cells_Make.j1 k s m t (CLs t s (cuts m i ++ [i])) (nats (cuts m i)) (i : Int) s (s.length : Int) (i : Int) true (rd_T50 s (i : Int)).f0 (rd_T50 s (i : Int)).f1 (rd_T50 s (i : Int)).f2) (CLs t s (cuts m s.length ++ [s.length]), nats (cuts m s.length ++ [s.length])) := by
   intro hc
   refine cells_j1t s m t _ _ _ _ _ _ _ (by rw [CLs_length, List.length_append, List.length_singleton]; omega) (by rw [nats_length]; omega) ?_
   rw [more_own t s h, hw]
   rw [cuts_succ, if_pos hc, List.append_assoc] at IH
   have := CLs_snoc t s (cuts m i) i (i + 1)
   rw [show i + 1 - i = 1 by omega] at this
   rw [← this, ← nats_snoc]
   exact IH
  have keep : 0 < i → cutB m i = false → Ev (fun k => cells_Make.j1 k s m t (CLs t s (cuts m i ++ [i])) (nats (cuts m i)) (i : Int) s (s.length : Int) (i : Int) false (rd_T50 s (i : Int)).f0 (rd_T50 s (i : Int)).f1 (rd_T50 s (i : Int)).f2) (CLs t s (cuts m s.length ++ [s.length]), nats (cuts m s.length ++ [s.length])) := by
   intro h0 hc
   obtain ⟨p, a, hp, ha, hl⟩ := cuts_last m i h0
   rw [cuts_succ, hc, if_neg (by decide), List.append_nil] at IH
   rw [hp] at IH cl ⊢
   rw [List.length_append, List.length_singleton] at cl
   rw [List.append_assoc] at IH ⊢
   have e1 := CLs_snoc t s p a i
   have e2 := CLs_snoc t s p a (i + 1)
   rw [show p ++ ([a] ++ [i]) = p ++ [a, i] from rfl, e1, nats_snoc]
   rw [show p ++ ([a] ++ [i + 1]) = p ++ [a, i + 1] from rfl, e2, nats_snoc] at IH
   refine cells_j1f s m t _ _ _ _ _ _ _ _ _ (by rw [CLs_length, List.length_append, List.length_singleton]; omega) (by rw [nats_length]; omega) ?_
   rw [more_old t s h ha (by omega), hw]
   exact IH
  refine Ev.step (fun k => by unfold cells_Make.l0; rfl) (ev_pos (by omega) (ev_pos (by omega) (ev_pos (by omega) ?_)))
  by_cases h0 : i = 0
  ·exact ev_pos (by omega) (cut (by unfold cutB; rw [h0]; rfl))
  refine ev_neg (by omega) ?_
  have hb0 : (i == 0) = false := by simpa using h0
  by_cases h1 : i < m.length
  ·refine ev_pos (by omega) ?_
   have hb : cutB m i = (rd m (i : Int) != 0) := by unfold cutB; rw [hb0, decide_eq_true h1]; simp
   cases hc : (rd m (i : Int) != 0)
   ·exact keep (by omega) (hb.trans hc)
   ·exact cut (hb.trans hc)
  ·exact ev_neg (by omega) (keep (by omega) (by unfold cutB; rw [hb0, decide_eq_false h1]; rfl))
theorem cells_ok (s : List S50) (h : ∀ x ∈ s, 0 ≤ x.f2 ∧ x.f2 ≤ 4) (hn : s.length ≤ 1000000000000) (m : List Int) (t : Option (List (Int × Int × Int))) :
  Ev (fun k => cells_Make.f k s m t) (CLs t s (cuts m s.length ++ [s.length]), nats (cuts m s.length ++ [s.length])) := by
 unfold cells_Make.f
 exact cells_loop s h hn m t s.length 0 (by omega)
end Go.Proofs.Ytigajcipjklknaa.Pure
end
section
/- A text of clusters: what items.Make answers, in plain words; the chapter's example. -/
namespace Go.Proofs.Ytigajcipjklknaa.Pure
open Go.RowKit Go.Proofs.YtigajcipjklknaaW.PrintWords Go.Proofs.Ytigajcipjklknaa.F
def oppB (br : List Int) (pt : List Bool) (n i : Nat) : Int := if i = n then 2 else if i = 0 ∨ br.length ≤ i then 0 else if rd br (i : Int) = 0 ∧ i < pt.length ∧ rdOf false pt (i : Int) = true then 3 else rd br (i : Int)
theorem items_j1t (s : List S50) (br : List Int) (pt : List Bool) (v : Int) (x : List Int) (x26 x27 : Int) (C : List S48) (o : List Int) (ho : o.length ≤ 1000000000000) {r : List S48 × List Int} (H : Ev (fun k => items_Make.l0 k s br pt x x26 (wrap64 (x27 + 1)) C (o ++ [0])) r) :
  Ev (fun k => items_Make.j1 k s br pt v x x26 x27 true C o) r :=
 Ev.step (fun k => by unfold items_Make.j1; rfl) (ev_pos rfl (ev_pos (by omega) H))
theorem items_j1f (s : List S50) (br : List Int) (pt : List Bool) (i n : Nat) (hi : i ≠ n) (h0 : i ≠ 0) (hb : i < br.length) (x : List Int) (x26 x27 : Int) (C : List S48) (o : List Int) (ho : o.length ≤ 1000000000000) {r : List S48 × List Int} (H : Ev (fun k => items_Make.l0 k s br pt x x26 (wrap64 (x27 + 1)) C (o ++ [oppB br pt n i])) r) :
  Ev (fun k => items_Make.j1 k s br pt (i : Int) x x26 x27 false C o) r := by
 have e : oppB br pt n i = if rd br (i : Int) = 0 ∧ i < pt.length ∧ rdOf false pt (i : Int) = true then 3 else rd br (i : Int) := by
  unfold oppB
  rw [if_neg hi, if_neg (by omega)]
 rw [e] at H
 have hl : o.length < 140737488355328 := by omega
 refine Ev.step (fun k => by unfold items_Make.j1; rfl) (ev_neg (by decide) (ev_pos (by omega) (ev_pos (by omega) ?_)))
 by_cases c1 : rd br (i : Int) = 0
 ·refine ev_pos c1 ?_
  by_cases c2 : i < pt.length
  ·refine ev_pos (by omega) ?_
   by_cases c3 : rdOf false pt (i : Int) = true
   ·rw [if_pos ⟨c1, c2, c3⟩] at H
    exact ev_pos c3 (ev_pos hl H)
   ·rw [if_neg (fun h => c3 h.2.2)] at H
    exact ev_neg c3 (ev_pos hl H)
  ·rw [if_neg (fun h => c2 h.2.1)] at H
   exact ev_neg (by omega) (ev_pos hl H)
 ·rw [if_neg (fun h => c1 h.1)] at H
  exact ev_neg c1 (ev_pos hl H)
theorem items_loop (s : List S50) (br : List Int) (pt : List Bool) (C : List S48) (P : List Nat) (hP : P.length ≤ 1000000000000) : ∀ (d k : Nat), k + d = P.length →
  Ev (fun q => items_Make.l0 q s br pt (nats P) (P.length : Int) (k : Int) C ((P.take k).map (oppB br pt s.length))) (C, P.map (oppB br pt s.length)) := by
 have nl := nats_length P
 intro d
 induction d with
 | zero =>
  intro k hk
  refine Ev.step (fun q => by unfold items_Make.l0; rfl) (ev_neg (by omega) (ev_ret ?_))
  rw [List.take_of_length_le (by omega)]
 | succ d ih =>
  intro k hk
  have IH := ih (k + 1) (by omega)
  have hlt : k < P.length := by omega
  have hr : rd (nats P) (k : Int) = ((P[k] : Nat) : Int) := by
   unfold nats
   rw [rd_nat, List.getD_eq_getElem?_getD, List.getElem?_map, List.getElem?_eq_getElem hlt]; rfl
  have ht : (P.take (k + 1)).map (oppB br pt s.length) = (P.take k).map (oppB br pt s.length) ++ [oppB br pt s.length P[k]] := by
   rw [List.take_add_one, List.map_append, List.getElem?_eq_getElem hlt]; rfl
  rw [ht] at IH
  have hw : wrap64 ((k : Int) + 1) = ((k + 1 : Nat) : Int) := by rw [w64 (by omega) (by omega)]; rfl
  have ho : ((P.take k).map (oppB br pt s.length)).length ≤ 1000000000000 := by rw [List.length_map, List.length_take]; omega
  generalize P[k] = i at hr IH
  generalize (P.take k).map (oppB br pt s.length) = o at ho IH
  refine Ev.step (fun q => by unfold items_Make.l0; rfl) (ev_pos (by omega) (ev_pos (by omega) (ev_pos (by omega) ?_)))
  rw [hr]
  by_cases c1 : i = s.length
  ·rw [show oppB br pt s.length i = 2 by unfold oppB; rw [if_pos c1]] at IH
   refine ev_pos (by omega) (ev_pos (by omega) ?_)
   rw [hw]
   exact IH
  refine ev_neg (by omega) ?_
  by_cases c2 : i = 0
  ·rw [show oppB br pt s.length i = 0 by unfold oppB; rw [if_neg c1, if_pos (Or.inl c2)]] at IH
   exact ev_pos (by omega) (items_j1t s br pt _ _ _ _ _ _ ho (by rw [hw]; exact IH))
  refine ev_neg (by omega) ?_
  by_cases c3 : br.length ≤ i
  ·rw [show oppB br pt s.length i = 0 by unfold oppB; rw [if_neg c1, if_pos (Or.inr c3)]] at IH
   rw [decide_eq_true (by omega)]
   exact items_j1t s br pt _ _ _ _ _ _ ho (by rw [hw]; exact IH)
  ·rw [decide_eq_false (by omega)]
   exact items_j1f s br pt i s.length c1 c2 (by omega) _ _ _ _ _ ho (by rw [hw]; exact IH)
theorem items_ok (s : List S50) (h : ∀ x ∈ s, 0 ≤ x.f2 ∧ x.f2 ≤ 4) (hn : s.length ≤ 1000000000) (m br : List Int) (pt : List Bool) (t : Option (List (Int × Int × Int))) :
  Ev (fun k => items_Make.f k s m br pt t) (CLs t s (cuts m s.length ++ [s.length]), (cuts m s.length ++ [s.length]).map (oppB br pt s.length)) := by
 unfold items_Make.f
 refine ev_bind (cells_ok s h (by omega) m t) ?_
 have hl := cuts_le m s.length
 have := items_loop s br pt (CLs t s (cuts m s.length ++ [s.length])) (cuts m s.length ++ [s.length]) (by rw [List.length_append, List.length_singleton]; omega) (cuts m s.length ++ [s.length]).length 0 (by omega)
 rw [← nats_length] at this
 exact this
end Go.Proofs.Ytigajcipjklknaa.Pure
end
section
/- The chapter's example of a text of clusters. -/
namespace Go.Proofs.Ytigajcipjklknaa.Pure
open Go.RowKit Go.Proofs.YtigajcipjklknaaW.PrintWords Go.Proofs.Ytigajcipjklknaa.F
theorem ay_c : prop_Make.c ([] : List S45) 1 = true := by decide
theorem awake11 : Ev (fun k => stanzalaw11_Awake.f k) true := by
 have h1 : Ev (fun k => items_Make.f k ([] : List S50) ([] : List Int) ([] : List Int) ([] : List Bool) (some [])) (([] : List S48), ([2] : List Int)) := items_ok [] (by decide) (by decide) [] [] [] (some [])
 have h2 : Ev (fun k => items_Make.f k ([(⟨97, 0, 1⟩ : S50), (⟨98, 1, 1⟩ : S50)] : List S50) ([0, 1, 2] : List Int) ([0, 0, 2] : List Int) ([false, true, false] : List Bool) (some [])) (([⟨0, 1, 0, 0⟩, ⟨1, 1, 0, 0⟩] : List S48), ([0, 3, 2] : List Int)) := items_ok [(⟨97, 0, 1⟩ : S50), (⟨98, 1, 1⟩ : S50)] (by decide) (by decide) [0, 1, 2] [0, 0, 2] [false, true, false] (some [])
 have h3 : Ev (fun k => items_Check.f k ([] : List S48) ([2] : List Int)) true := by
  unfold items_Check.f
  refine ev_pos (by decide +kernel) (ev_pos (by decide) (ev_pos (by decide) (ev_pos (by decide) (ev_neg (by decide) ?_))))
  refine Ev.step (fun k => by unfold items_Check.j0; rfl) (ev_neg (by decide) ?_)
  exact Ev.step (fun k => by unfold items_Check.l0; rfl) (ev_neg (by decide) (Ev.now _))
 have h4 : ∀ C, Ev (fun k => items_Parts.f k C ([0, 3, 2] : List Int)) [2] := by
  intro C
  unfold items_Parts.f
  have w : wrap64 (0 + 1) = 1 ∧ wrap64 (1 + 1) = 2 ∧ wrap64 (2 + 1) = 3 := by decide +kernel
  refine Ev.step (fun k => by unfold items_Parts.l0; rfl) (ev_pos (by decide) (ev_pos (by decide) (ev_pos (by decide) (ev_neg (by decide) ?_))))
  rw [w.1]
  refine Ev.step (fun k => by unfold items_Parts.l0; rfl) (ev_pos (by decide) (ev_pos (by decide) (ev_pos (by decide) (ev_neg (by decide) ?_))))
  rw [w.2.1]
  refine Ev.step (fun k => by unfold items_Parts.l0; rfl) (ev_pos (by decide) (ev_pos (by decide) (ev_pos (by decide) (ev_pos (by decide) (ev_pos (by decide) ?_)))))
  rw [w.2.2]
  exact Ev.step (fun k => by unfold items_Parts.l0; rfl) (ev_neg (by decide) (Ev.now _))
 unfold stanzalaw11_Awake.f
 refine ev_pos ay_c (ev_bind' (make_y ay_c) (ev_bind h1 (ev_bind h2 (ev_pos (by decide) (ev_pos (by decide) (ev_pos (by decide) ?_))))))
 refine ev_bind h3 (ev_pos rfl (ev_pos (by decide) (ev_pos (by decide) (ev_pos (by decide) (ev_bind (h4 _) (ev_ret rfl))))))
end Go.Proofs.Ytigajcipjklknaa.Pure
end
section
/- The chapter's example of clusters, words and widths that the laws make, where clusters begin. -/
namespace Go.Proofs.Ytigajcipjklknaa.Pure
open Go.RowKit Go.Proofs.YtigajcipjklknaaW.PrintWords Go.Proofs.Ytigajcipjklknaa.F
def SG : List ByteArray := (h3_signs.f).getD []
theorem sg_some : h3_signs.f = some SG := rfl
theorem sg_len : SG.length = 14 := rfl
theorem sg_size : ∀ j < 14, (rdOf ByteArray.empty SG ((j : Nat) : Int)).size ≤ 4 := by decide +kernel
theorem words_loop (l : List Int) (hl : l.length ≤ 1000000) (h : ∀ y ∈ l, (Lit.int .u8 y).wf = true) : ∀ (d i : Nat) (acc : List Int), i + d = l.length → acc.length ≤ 4 * i → ∃ xs, Ev (fun k => h3_Words.l0 k l acc (i : Int)) xs ∧ xs.length ≤ 4 * l.length := by
 intro d
 induction d with
 | zero => exact fun i acc hi ha => ⟨acc, Ev.step (fun k => by unfold h3_Words.l0; rfl) (ev_neg (by omega) (Ev.now _)), by omega⟩
 | succ d ih =>
  intro i acc hi ha
  have hlt : i < l.length := by omega
  have hv : rd l (i : Int) = l[i] := by rw [rd_nat, List.getD_eq_getElem?_getD, List.getElem?_eq_getElem hlt]; rfl
  have hb := wfu8.1 (h l[i] (List.getElem_mem hlt))
  obtain ⟨j, hj, hj2⟩ : ∃ j : Nat, Int.tmod (wrap64 (rd l (i : Int))) 14 = (j : Int) ∧ j < 14 := by
   rw [hv, w64 (by omega) (by omega), tmodp hb.1]
   exact ⟨(l[i] % 14).toNat, by omega, by omega⟩
  have hs := sg_size j hj2
  obtain ⟨xs, hx, hxl⟩ := ih (i + 1) (acc ++ bytesOf (rdOf ByteArray.empty SG (j : Int))) (by omega) (by rw [List.length_append, bytesOf_length]; omega)
  refine ⟨xs, ?_, hxl⟩
  refine Ev.step (fun k => by unfold h3_Words.l0; rfl) (ev_pos (by omega) (ev_bind' sg_some (ev_pos (show 0 ≤ (i : Int) by omega) ?_)))
  rw [hj, w64 (x := (i : Int) + 1) (by omega) (by omega)]
  exact ev_pos (by omega) (ev_pos (by rw [sg_len]; omega) (ev_pos (by omega) hx))
theorem words_ok (l : List Int) (hl : l.length ≤ 1000000) (h : ∀ y ∈ l, (Lit.int .u8 y).wf = true) : ∃ xs, Ev (fun k => h3_Words.f k l) xs ∧ xs.length ≤ 4 * l.length := by
 unfold h3_Words.f
 exact words_loop l hl h l.length 0 [] (by omega) (by simp)
theorem opps_loop (l : List Int) (hl : l.length ≤ 140737488351232) : ∀ (d i : Nat), i + d = l.length → Ev (fun k => h3_Opps.l0 k l (l.take i) (i : Int)) l := by
 intro d
 induction d with
 | zero => exact fun i hi => Ev.step (fun k => by unfold h3_Opps.l0; rfl) (ev_neg (by omega) (ev_ret (List.take_of_length_le (by omega))))
 | succ d ih =>
  intro i hi
  have hlt : i < l.length := by omega
  have hv : l.take i ++ [rd l (i : Int)] = l.take (i + 1) := by rw [List.take_add_one, rd_nat, List.getD_eq_getElem?_getD, List.getElem?_eq_getElem hlt]; rfl
  refine Ev.step (fun k => by unfold h3_Opps.l0; rfl) (ev_pos (by omega) (ev_pos (by omega) (ev_pos (by rw [List.length_take]; omega) ?_)))
  rw [hv, w64 (by omega) (by omega)]
  exact ih (i + 1) (by omega)
theorem opps_ok (l : List Int) (hl : l.length ≤ 140737488351232) : Ev (fun k => h3_Opps.f k l) l := by
 unfold h3_Opps.f
 exact opps_loop l hl l.length 0 (by omega)
theorem cuts_zero (m : List Int) : ∀ n, ∃ q, cuts m n ++ [n] = 0 :: q
 | 0 => ⟨[], rfl⟩
 | n + 1 => by
  unfold cuts
  rw [List.range_succ_eq_map, List.filter_cons_of_pos rfl]
  exact ⟨_, rfl⟩
theorem lenTo_add (s : List S50) (a c : Nat) : ∀ d, lenTo s a (c + d) = lenTo s a c + lenTo s (a + c) d
 | 0 => by show lenTo s a c = lenTo s a c + 0; omega
 | d + 1 => by
  show lenTo s a (c + d) + (rd_T50 s ((a + (c + d) : Nat) : Int)).f2 = lenTo s a c + (lenTo s (a + c) d + (rd_T50 s ((a + c + d : Nat) : Int)).f2)
  rw [lenTo_add s a c d, Nat.add_assoc]; omega
theorem rd_scal (s : List S50) (x : S50) (i : Nat) : rd_T50 (x :: s) ((i + 1 : Nat) : Int) = rd_T50 s (i : Int) := rfl
theorem lenTo_cons (s : List S50) (x : S50) (a : Nat) : ∀ d, lenTo (x :: s) (a + 1) d = lenTo s a d
 | 0 => rfl
 | d + 1 => by
  show lenTo (x :: s) (a + 1) d + (rd_T50 (x :: s) ((a + 1 + d : Nat) : Int)).f2 = lenTo s a d + (rd_T50 s ((a + d : Nat) : Int)).f2
  rw [lenTo_cons s x a d, show a + 1 + d = (a + d) + 1 by omega, rd_scal]
theorem signs_all : ∀ (s : List S50) (p e : Nat), Signs s p e → s.length + p ≤ e ∧ (∀ x ∈ s, 1 ≤ x.f2 ∧ x.f2 ≤ 4) ∧ (p : Int) + lenTo s 0 s.length = (e : Int) ∧ ∀ j, j < s.length → (rd_T50 s (j : Int)).f1 = (p : Int) + lenTo s 0 j
 | [], p, e, h => by
  have : p = e := h
  refine ⟨by simp; omega, fun x hx => absurd hx (by simp), ?_, fun j hj => absurd hj (by simp)⟩
  show (p : Int) + 0 = _
  omega
 | x :: s, p, e, h => by
  obtain ⟨h1, m, h2, h3, h4, h5⟩ := h
  obtain ⟨a, b, c, d⟩ := signs_all s (p + m) e h5
  have key : ∀ j, lenTo (x :: s) 0 (j + 1) = (m : Int) + lenTo s 0 j := by
   intro j
   have := lenTo_add (x :: s) 0 1 j
   rw [Nat.zero_add, lenTo_cons s x 0 j, Nat.add_comm 1 j] at this
   rw [this]
   show (0 + x.f2) + _ = _
   rw [h2]; omega
  refine ⟨by rw [List.length_cons]; omega, fun y hy => ?_, ?_, fun j hj => ?_⟩
  ·rcases List.mem_cons.1 hy with rfl | hy
   ·omega
   ·exact b y hy
  ·rw [List.length_cons, key]; omega
  ·cases j with
   | zero => show x.f1 = (p : Int) + 0; omega
   | succ j =>
    rw [rd_scal, d j (by simpa using hj), key]; omega
end Go.Proofs.Ytigajcipjklknaa.Pure
end
section
/- ItemsHyphens, plain: points change nothing where there is something to be done already, and at the ends. -/
namespace Go.Proofs.Ytigajcipjklknaa.Pure
open Go.RowKit Go.Proofs.YtigajcipjklknaaW.PrintWords Go.Proofs.Ytigajcipjklknaa.F
theorem hy_rd (P : List Nat) (g : Nat → Int) {k : Nat} (h : k < P.length) : rd (P.map g) (k : Int) = g (P.getD k 0) := by
 rw [rd_nat, List.getD_eq_getElem?_getD, List.getD_eq_getElem?_getD, List.getElem?_map, List.getElem?_eq_getElem h]; rfl
theorem hy_opp (br : List Int) (pt : List Bool) (n i : Nat) (h : oppB br [] n i ≠ oppB br pt n i) : oppB br [] n i = 0 ∧ oppB br pt n i = 3 ∧ i ≠ 0 ∧ i ≠ n := by
 by_cases h1 : i = n
 ·exact absurd (by unfold oppB; rw [if_pos h1, if_pos h1]) h
 by_cases h2 : i = 0 ∨ br.length ≤ i
 ·exact absurd (by unfold oppB; rw [if_neg h1, if_neg h1, if_pos h2, if_pos h2]) h
 have e1 : oppB br [] n i = rd br (i : Int) := by
  unfold oppB
  rw [if_neg h1, if_neg h2, if_neg (fun hh => absurd hh.2.1 (Nat.not_lt_zero i))]
 by_cases h3 : rd br (i : Int) = 0 ∧ i < pt.length ∧ rdOf false pt (i : Int) = true
 ·refine ⟨by rw [e1]; exact h3.1, by unfold oppB; rw [if_neg h1, if_neg h2, if_pos h3], fun hh => h2 (Or.inl hh), h1⟩
 ·exact absurd (by rw [e1]; unfold oppB; rw [if_neg h1, if_neg h2, if_neg h3]) h
theorem hy_loop (br : List Int) (pt : List Bool) (n : Nat) (P : List Nat) (C1 C2 : List S48) (hP : P.length ≤ 1000000) (p0 : P.getD 0 0 = 0) (pl : P.getD (P.length - 1) 0 = n) : ∀ (d k : Nat), k + d = P.length →
  Ev (fun q => stanzalaw11_ItemsHyphens.l0 q ((P.map (oppB br [] n)).length : Int) (k : Int) C1 (P.map (oppB br [] n)) C2 (P.map (oppB br pt n))) true := by
 have l1 : (P.map (oppB br [] n)).length = P.length := List.length_map _
 have l2 : (P.map (oppB br pt n)).length = P.length := List.length_map _
 intro d
 induction d with
 | zero => exact fun k hk => Ev.step (fun q => by unfold stanzalaw11_ItemsHyphens.l0; rfl) (ev_neg (by omega) (ev_ret rfl))
 | succ d ih =>
  intro k hk
  have IH := ih (k + 1) (by omega)
  have q1 : (k : Int) < ((P.map (oppB br [] n)).length : Int) := by rw [l1]; exact Int.ofNat_lt.2 (by clear IH ih; omega)
  have q2 : 0 ≤ (k : Int) := Int.natCast_nonneg k
  have q3 := q1
  have q4 : (k : Int) < ((P.map (oppB br pt n)).length : Int) := by rw [l2]; exact Int.ofNat_lt.2 (by clear IH ih; omega)
  have r1 := hy_rd P (oppB br [] n) (k := k) (by omega)
  have r2 := hy_rd P (oppB br pt n) (k := k) (by omega)
  refine Ev.step (fun q => by unfold stanzalaw11_ItemsHyphens.l0; rfl) (ev_pos q1 (ev_pos q2 (ev_pos q3 (ev_pos q4 ?_))))
  have hw : wrap64 ((k : Int) + 1) = ((k + 1 : Nat) : Int) := by rw [w64 (by omega) (by omega)]; rfl
  have hv : wrap64 (((P.map (oppB br [] n)).length : Int) - 1) = ((P.length - 1 : Nat) : Int) := by clear hw; rw [w64 (by omega) (by omega)]; omega
  rw [r1, r2, hw, hv]
  clear hw hv
  by_cases he : oppB br [] n (P.getD k 0) = oppB br pt n (P.getD k 0)
  ·exact ev_pos he IH
  obtain ⟨h0, h3, hz, hn⟩ := hy_opp br pt n _ he
  refine ev_neg he (ev_pos h0 (ev_pos h3 (ev_neg (fun hk0 => ?_) (ev_neg (fun hkl => ?_) IH))))
  ·have : k = 0 := by omega
   rw [this] at hz
   exact hz p0
  ·have : k = P.length - 1 := by omega
   rw [this] at hn
   exact hn pl
theorem ItemsHyphens : stanzalaw11_ItemsHyphens.Pure := by
 intro l m b pt ws hh
 obtain ⟨h0, h1, h2, h3, h4⟩ := hh
 have : Ev (fun k => stanzalaw11_ItemsHyphens.f k l m b pt ws) true := by
  unfold stanzalaw11_ItemsHyphens.f
  refine ev_bind awake11 (ev_pos rfl ?_)
  by_cases hl : (l.length : Int) > 300
  ·exact ev_pos hl (Ev.now _)
  obtain ⟨x, hx, hxl⟩ := words_ok l (by omega) h0.2
  obtain ⟨s, hs, hsg⟩ := all_ok x (by omega)
  obtain ⟨g1, g2, g3, g4⟩ := signs_all s 0 x.length hsg
  have g5 : ∀ x ∈ s, 0 ≤ x.f2 ∧ x.f2 ≤ 4 := fun x hx => by have := g2 x hx; omega
  have om := opps_ok m (by have := h1.1; omega)
  have ob := opps_ok b (by have := h2.1; omega)
  have hcl := cuts_le m s.length
  have hk1 := items_ok s g5 (by omega) m b [] (some [])
  have hk2 := items_ok s g5 (by omega) m b pt (some [])
  obtain ⟨q0, hq0⟩ := cuts_zero m s.length
  obtain ⟨P, hP⟩ : ∃ P, P = cuts m s.length ++ [s.length] := ⟨_, rfl⟩
  rw [← hP] at hk1 hk2 hq0
  have hPl : P.length = (cuts m s.length).length + 1 := by rw [hP, List.length_append, List.length_singleton]
  have hlast : P.getD (P.length - 1) 0 = s.length := by
   rw [hP, List.length_append, List.length_singleton, Nat.add_sub_cancel, List.getD_eq_getElem?_getD, List.getElem?_append_right (Nat.le_refl _), Nat.sub_self]; rfl
  have p0 : P.getD 0 0 = 0 := by rw [hq0]; rfl
  have hlp := hy_loop b pt s.length P (CLs (some []) s P) (CLs (some []) s P) (by omega) p0 hlast P.length 0 (by omega)
  refine ev_neg hl (ev_pos ay_c (ev_bind' (make_y ay_c) (ev_bind hx (ev_bind hs (ev_bind om (ev_bind ob (ev_bind hk1 (ev_bind om (ev_bind ob (ev_bind hk2 ?_))))))))))
  exact ev_pos (by rw [List.length_map, List.length_map]) hlp
 obtain ⟨k, hk⟩ := this
 exact ⟨k, hk k (Nat.le_refl k)⟩
end Go.Proofs.Ytigajcipjklknaa.Pure
end
