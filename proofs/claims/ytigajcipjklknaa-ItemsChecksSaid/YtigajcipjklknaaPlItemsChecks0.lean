/- Plain proofs: what the printed functions compute. -/
import Derived.Test.YtigajcipjklknaaXItemsChecks0
import Derived.WalkKit
import Derived.Test.YtigajcipjklknaaVItemsChecks0
import Derived.Test.YtigajcipjklknaaVItemsChecks1
import Derived.Test.YtigajcipjklknaaVItemsChecks2
section
/- Helpers of the plain proofs: eventual values (Ev), wrapped numbers, lists. -/
namespace Go.Proofs.Ytigajcipjklknaa.Pure
open Go.RowKit Go.Proofs.YtigajcipjklknaaW.PrintWords
theorem ev_pos {α : Type} {c : Prop} [Decidable c] {a b : Nat → Option α} {r : α} (h : c) (H : Ev a r) : Ev (fun k => if c then a k else b k) r := by simpa [h] using H
theorem ev_neg {α : Type} {c : Prop} [Decidable c] {a b : Nat → Option α} {r : α} (h : ¬ c) (H : Ev b r) : Ev (fun k => if c then a k else b k) r := by simpa [h] using H
theorem ev_ret {α : Type} {x r : α} (h : x = r) : Ev (fun _ => some x) r := by subst h; exact Ev.now _
theorem ev_bind {α β : Type} {g : Nat → Option α} {f : Nat → α → Option β} {a : α} {r : β} (h : Ev g a) (k : Ev (fun n => f n a) r) : Ev (fun n => (g n).bind (f n)) r := Ev.bind h k
theorem ev_bind' {α β : Type} {o : Option α} {f : Nat → α → Option β} {a : α} {r : β} (h : o = some a) (k : Ev (fun n => f n a) r) : Ev (fun n => o.bind (f n)) r := by subst h; exact k
theorem ev_let {α β : Type} {a : α} {f : Nat → α → Option β} {r : β} (k : Ev (fun n => f n a) r) : Ev (fun n => (some a).bind (f n)) r := k
theorem w64 {x : Int} (h1 : -9223372036854775808 ≤ x) (h2 : x ≤ 9223372036854775807) : wrap64 x = x := by unfold wrap64; omega
theorem tmodp {a b : Int} (h : 0 ≤ a) : Int.tmod a b = a % b := Int.tmod_eq_emod_of_nonneg h
theorem wfu8 {x : Int} : (Lit.int .u8 x).wf = true ↔ 0 ≤ x ∧ x ≤ 255 := by simp [Lit.wf, IntKind.min, IntKind.max, IntKind.signed, IntKind.bits]
theorem u64mod {x n : Int} (h1 : 0 < n) (h2 : n ≤ 9223372036854775807) : wrap64 (Int.tmod (IntKind.u64.wrap x) (IntKind.u64.wrap n)) = (x % 18446744073709551616) % n := by
 have hw : ∀ y, IntKind.u64.wrap y = y % 18446744073709551616 := fun y => by simp [IntKind.wrap, IntKind.signed, IntKind.bits]
 rw [hw, hw, Int.emod_eq_of_lt (by omega) (by omega : n < 18446744073709551616), tmodp (by omega)]
 have h3 := Int.emod_nonneg (x % 18446744073709551616) (by omega : n ≠ 0)
 have h4 := Int.emod_lt_of_pos (x % 18446744073709551616) h1
 exact w64 (by omega) (by omega)
theorem rd_nat (xs : List Int) (n : Nat) : rd xs (n : Int) = xs.getD n 0 := rfl
theorem getD_map_range (g : Nat → Int) {n i : Nat} (h : i < n) : ((List.range n).map g).getD i 0 = g i := by
 rw [List.getD_eq_getElem?_getD, List.getElem?_map, List.getElem?_range h]; rfl
theorem rd_map_range (g : Nat → Int) {n i : Nat} (h : i < n) : rd ((List.range n).map g) (i : Int) = g i := getD_map_range g h
theorem map_range_snoc {α : Type} (g : Nat → α) (n : Nat) : (List.range n).map g ++ [g n] = (List.range (n + 1)).map g := by
 rw [List.range_succ, List.map_append]; rfl
theorem mod3 (x : Int) : 0 ≤ x % 3 ∧ x % 3 ≤ 2 := by omega
theorem mod4 (x : Int) : 0 ≤ x % 4 ∧ x % 4 ≤ 3 := by omega
end Go.Proofs.Ytigajcipjklknaa.Pure
end
section
/- What tables of ranges hold: the document's answer (Of), when a list is right; no condition but that lengths fit. -/
namespace Go.Proofs.Ytigajcipjklknaa.Pure
open Go.RowKit Go.Proofs.YtigajcipjklknaaW.PrintWords Go.Proofs.Ytigajcipjklknaa.F
theorem make_y {l : List S45} {m : Int} (h : prop_Make.c l m = true) : prop_MakeY.f l m = some (some (l.map prop_Make.t)) := by unfold prop_MakeY.f; rw [if_pos h]
end Go.Proofs.Ytigajcipjklknaa.Pure
end
section
/- Signs of a text: All's row runs from the first byte to the last one, each sign with one to four bytes. -/
namespace Go.Proofs.Ytigajcipjklknaa.Pure
open Go.RowKit Go.Proofs.YtigajcipjklknaaW.PrintWords Go.Proofs.Ytigajcipjklknaa.F
end Go.Proofs.Ytigajcipjklknaa.Pure
end
section
/- Clusters of signs: what cells.Make answers, in plain words. -/
namespace Go.Proofs.Ytigajcipjklknaa.Pure
open Go.RowKit Go.Proofs.YtigajcipjklknaaW.PrintWords Go.Proofs.Ytigajcipjklknaa.F
def kindOf (r : Int) : Int := if r = 32 then 1 else if r = 9 then 2 else 0
theorem kind_ok (r : Int) : cells_kind.f r = some (kindOf r) := by
 unfold cells_kind.f kindOf
 split
 ·rfl
 ·split <;> rfl
def lenTo (s : List S50) (a : Nat) : Nat → Int
 | 0 => 0
 | d + 1 => lenTo s a d + (rd_T50 s ((a + d : Nat) : Int)).f2
def cellTo (t : Option (List (Int × Int × Int))) (s : List S50) (a : Nat) : Nat → Int
 | 0 => 0
 | d + 1 => mx (cellTo t s a d) (mn (tabOf t (rd_T50 s ((a + d : Nat) : Int)).f0) 2)
def clu (t : Option (List (Int × Int × Int))) (s : List S50) (a d : Nat) : S48 := ⟨(rd_T50 s (a : Int)).f1, lenTo s a d, cellTo t s a d, if d = 1 then kindOf (rd_T50 s (a : Int)).f0 else 0⟩
def CLs (t : Option (List (Int × Int × Int))) (s : List S50) : List Nat → List S48
 | a :: b :: r => clu t s a (b - a) :: CLs t s (b :: r)
 | _ => []
def cutB (m : List Int) (i : Nat) : Bool := i == 0 || (decide (i < m.length) && rd m (i : Int) != 0)
def cuts (m : List Int) (i : Nat) : List Nat := (List.range i).filter (cutB m)
def nats (l : List Nat) : List Int := l.map fun n : Nat => (n : Int)
theorem CLs_snoc (t : Option (List (Int × Int × Int))) (s : List S50) : ∀ (p : List Nat) (a i : Nat), CLs t s (p ++ [a, i]) = CLs t s (p ++ [a]) ++ [clu t s a (i - a)]
 | [], a, i => rfl
 | [x], a, i => rfl
 | x :: y :: p, a, i => by
  show clu t s x (y - x) :: CLs t s ((y :: p) ++ [a, i]) = clu t s x (y - x) :: (CLs t s ((y :: p) ++ [a]) ++ [clu t s a (i - a)])
  rw [CLs_snoc t s (y :: p) a i]
theorem CLs_length (t : Option (List (Int × Int × Int))) (s : List S50) : ∀ (p : List Nat), (CLs t s p).length = p.length - 1
 | [] => rfl
 | [x] => rfl
 | x :: y :: p => by
  show (CLs t s (y :: p)).length + 1 = _
  rw [CLs_length t s (y :: p)]
  simp
theorem cuts_succ (m : List Int) (i : Nat) : cuts m (i + 1) = cuts m i ++ (if cutB m i = true then [i] else []) := by
 unfold cuts
 rw [List.range_succ, List.filter_append]
 cases hb : cutB m i <;> simp [List.filter, hb]
theorem cuts_last (m : List Int) : ∀ i, 0 < i → ∃ p a, cuts m i = p ++ [a] ∧ a < i ∧ p.length < i
 | 0, h => absurd h (by omega)
 | 1, _ => ⟨[], 0, rfl, by omega, by simp⟩
 | i + 2, _ => by
  rw [cuts_succ]
  obtain ⟨p, a, h, h1, h2⟩ := cuts_last m (i + 1) (by omega)
  by_cases hb : cutB m (i + 1) = true
  ·rw [if_pos hb]
   refine ⟨cuts m (i + 1), i + 1, rfl, by omega, ?_⟩
   rw [h, List.length_append, List.length_singleton]; omega
  ·rw [if_neg hb, List.append_nil]
   exact ⟨p, a, h, by omega, by omega⟩
theorem last_ix {α : Type} (o : List α) (c : α) (hn : o.length ≤ 1000000000000) : wrap64 (((o ++ [c]).length : Int) - 1) = (o.length : Int) := by
 rw [List.length_append, List.length_singleton, w64 (by omega) (by omega)]; omega
theorem rd_lastC (o : List S48) (c : S48) : rd_T48 (o ++ [c]) (o.length : Int) = c := by
 unfold rd_T48
 rw [List.getD_eq_getElem?_getD, Int.toNat_natCast, List.getElem?_append_right (Nat.le_refl _), Nat.sub_self]; rfl
theorem rd_lastI (o : List Int) (c : Int) : rd (o ++ [c]) (o.length : Int) = c := by
 rw [rd_nat, List.getD_eq_getElem?_getD, List.getElem?_append_right (Nat.le_refl _), Nat.sub_self]; rfl
theorem set_last {α : Type} (o : List α) (c v : α) : (o ++ [c]).set (o.length : Int).toNat v = o ++ [v] := by
 rw [Int.toNat_natCast]
 rw [List.set_append_right _ _ (Nat.le_refl _), Nat.sub_self]; rfl
def more (t : Option (List (Int × Int × Int))) (c : S48) (own : Prop) [Decidable own] (x : S50) : S48 := ⟨c.f0, wrap64 (c.f1 + x.f2), mx c.f2 (mn (tabOf t x.f0) 2), if own then c.f3 else 0⟩
theorem cells_j1f (s : List S50) (m : List Int) (t : Option (List (Int × Int × Int))) (o : List S48) (c : S48) (w : List Int) (a : Int) (i : Int) (x13 : List S50) (x14 x15 : Int) (x : S50) (h1 : o.length ≤ 1000000000000) (h2 : w.length ≤ 1000000000000) {r : List S48 × List Int}
  (H : Ev (fun k => cells_Make.l0 k s m t (o ++ [more t c (a = i) x]) (w ++ [a]) x13 x14 (wrap64 (x15 + 1))) r) :
  Ev (fun k => cells_Make.j1 k s m t (o ++ [c]) (w ++ [a]) i x13 x14 x15 false x.f0 x.f1 x.f2) r := by
 have e1 := last_ix o c h1
 have e2 := last_ix w a h2
 have l1 : (o.length : Int) < ((o ++ [c]).length : Int) := by rw [List.length_append, List.length_singleton]; omega
 have l2 : (w.length : Int) < ((w ++ [a]).length : Int) := by rw [List.length_append, List.length_singleton]; omega
 refine Ev.step (fun k => by unfold cells_Make.j1; rfl) (ev_neg (by decide) ?_)
 rw [e1, e2, rd_lastI]
 refine ev_pos (by omega) (ev_pos l1 (ev_pos (by omega) (ev_pos l2 ?_)))
 simp only [rd_lastC, set_last]
 by_cases ha : a = i
 ·refine ev_pos ha (ev_let (ev_bind' (show prop_Table_Of.f _ _ = some (tabOf t x.f0) from rfl) ?_))
  simp only [rd_lastC, set_last]
  unfold more at H
  rw [if_pos ha] at H
  exact H
 ·refine ev_neg ha (ev_let (ev_let ?_))
  simp only [rd_lastC, set_last]
  refine ev_bind' (show prop_Table_Of.f _ _ = some (tabOf t x.f0) from rfl) ?_
  unfold more at H
  rw [if_neg ha] at H
  exact H
theorem cells_j1t (s : List S50) (m : List Int) (t : Option (List (Int × Int × Int))) (o : List S48) (w : List Int) (i : Int) (x13 : List S50) (x14 x15 : Int) (x : S50) (h1 : o.length ≤ 1000000000000) (h2 : w.length ≤ 1000000000000) {r : List S48 × List Int}
  (H : Ev (fun k => cells_Make.l0 k s m t (o ++ [more t ⟨x.f1, 0, 0, kindOf x.f0⟩ (i = i) x]) (w ++ [i]) x13 x14 (wrap64 (x15 + 1))) r) :
  Ev (fun k => cells_Make.j1 k s m t o w i x13 x14 x15 true x.f0 x.f1 x.f2) r := by
 have e1 := last_ix o (⟨x.f1, 0, 0, kindOf x.f0⟩ : S48) h1
 have e2 := last_ix w i h2
 have l1 : (o.length : Int) < ((o ++ [(⟨x.f1, 0, 0, kindOf x.f0⟩ : S48)]).length : Int) := by rw [List.length_append, List.length_singleton]; omega
 have l2 : (w.length : Int) < ((w ++ [i]).length : Int) := by rw [List.length_append, List.length_singleton]; omega
 refine Ev.step (fun k => by unfold cells_Make.j1; rfl) (ev_pos rfl (ev_bind' (kind_ok x.f0) (ev_pos (show o.length < 4398046511104 by omega) (ev_let ?_))))
 refine ev_pos (show w.length < 17592186044416 by omega) (ev_let ?_)
 rw [e1, e2, rd_lastI]
 refine ev_pos (by omega) (ev_pos l1 (ev_pos (by omega) (ev_pos l2 (ev_pos rfl (ev_let ?_)))))
 simp only [rd_lastC, set_last]
 refine ev_bind' (show prop_Table_Of.f _ _ = some (tabOf t x.f0) from rfl) ?_
 unfold more at H
 rw [if_pos rfl] at H
 exact H
theorem lenTo_lt {s : List S50} (h : ∀ x ∈ s, 0 ≤ x.f2 ∧ x.f2 ≤ 4) (a : Nat) : ∀ d, 0 ≤ lenTo s a d ∧ lenTo s a d ≤ 4 * d
 | 0 => by unfold lenTo; omega
 | d + 1 => by
  have ih := lenTo_lt h a d
  unfold lenTo
  have : 0 ≤ (rd_T50 s ((a + d : Nat) : Int)).f2 ∧ (rd_T50 s ((a + d : Nat) : Int)).f2 ≤ 4 := by
   unfold rd_T50
   rw [List.getD_eq_getElem?_getD, Int.toNat_natCast]
   cases hq : s[a + d]? with
   | none => exact ⟨by decide, by decide⟩
   | some y => exact h y (List.mem_of_getElem? hq)
  omega
theorem more_own (t : Option (List (Int × Int × Int))) (s : List S50) (h : ∀ x ∈ s, 0 ≤ x.f2 ∧ x.f2 ≤ 4) (i : Nat) (j : Int) : more t ⟨(rd_T50 s (i : Int)).f1, 0, 0, kindOf (rd_T50 s (i : Int)).f0⟩ (j = j) (rd_T50 s (i : Int)) = clu t s i 1 := by
 unfold more clu
 rw [if_pos rfl, if_pos rfl]
 have h1 := lenTo_lt h i 1
 have : lenTo s i 1 = 0 + (rd_T50 s (i : Int)).f2 := rfl
 rw [← this, w64 (by omega) (by omega)]
 rfl
theorem more_old (t : Option (List (Int × Int × Int))) (s : List S50) (h : ∀ x ∈ s, 0 ≤ x.f2 ∧ x.f2 ≤ 4) {a i : Nat} (ha : a < i) (hi : i ≤ 1000000000000) : more t (clu t s a (i - a)) ((a : Int) = (i : Int)) (rd_T50 s (i : Int)) = clu t s a (i + 1 - a) := by
 unfold more
 rw [if_neg (by omega)]
 have hd : i + 1 - a = (i - a) + 1 := by omega
 have hi2 : a + (i - a) = i := by omega
 have h1 := lenTo_lt h a ((i - a) + 1)
 have e1 : lenTo s a ((i - a) + 1) = lenTo s a (i - a) + (rd_T50 s (i : Int)).f2 := by
  show lenTo s a (i - a) + (rd_T50 s ((a + (i - a) : Nat) : Int)).f2 = _
  rw [hi2]
 have e2 : cellTo t s a ((i - a) + 1) = mx (cellTo t s a (i - a)) (mn (tabOf t (rd_T50 s (i : Int)).f0) 2) := by
  show mx (cellTo t s a (i - a)) (mn (tabOf t (rd_T50 s ((a + (i - a) : Nat) : Int)).f0) 2) = _
  rw [hi2]
 have e3 : clu t s a (i - a + 1) = ⟨(rd_T50 s (a : Int)).f1, lenTo s a (i - a + 1), cellTo t s a (i - a + 1), 0⟩ := by
  unfold clu
  rw [if_neg (by omega)]
 rw [hd, e3, e1, e2]
 show (⟨_, wrap64 (lenTo s a (i - a) + (rd_T50 s (i : Int)).f2), _, _⟩ : S48) = _
 rw [← e1, w64 (by omega) (by omega)]
 rfl
theorem nats_snoc (p : List Nat) (a : Nat) : nats (p ++ [a]) = nats p ++ [(a : Int)] := by unfold nats; rw [List.map_append]; rfl
theorem nats_length (p : List Nat) : (nats p).length = p.length := List.length_map _
theorem cuts_le (m : List Int) (i : Nat) : (cuts m i).length ≤ i := by
 unfold cuts
 have := List.length_filter_le (cutB m) (List.range i)
 rwa [List.length_range] at this
theorem cells_loop (s : List S50) (h : ∀ x ∈ s, 0 ≤ x.f2 ∧ x.f2 ≤ 4) (hn : s.length ≤ 1000000000000) (m : List Int) (t : Option (List (Int × Int × Int))) : ∀ (d i : Nat), i + d = s.length →
  Ev (fun k => cells_Make.l0 k s m t (CLs t s (cuts m i ++ [i])) (nats (cuts m i)) s (s.length : Int) (i : Int)) (CLs t s (cuts m s.length ++ [s.length]), nats (cuts m s.length ++ [s.length])) := by
 intro d
 induction d with
 | zero =>
  intro i hi
  obtain rfl : i = s.length := by omega
  refine Ev.step (fun k => by unfold cells_Make.l0; rfl) (ev_neg (by omega) (ev_pos ?_ (ev_ret ?_)))
  ·rw [nats_length]; have := cuts_le m s.length; omega
  ·rw [nats_snoc]
 | succ d ih =>
  intro i hi
  have IH := ih (i + 1) (by omega)
  have hw : wrap64 ((i : Int) + 1) = ((i + 1 : Nat) : Int) := by rw [w64 (by omega) (by omega)]; rfl
  have cl := cuts_le m i
  have cut : cutB m i = true → Ev (fun k => cells_Make.j1 k s m t (CLs t s (cuts m i ++ [i])) (nats (cuts m i)) (i : Int) s (s.length : Int) (i : Int) true (rd_T50 s (i : Int)).f0 (rd_T50 s (i : Int)).f1 (rd_T50 s (i : Int)).f2) (CLs t s (cuts m s.length ++ [s.length]), nats (cuts m s.length ++ [s.length])) := by
   intro hc
   refine cells_j1t s m t _ _ _ _ _ _ _ (by rw [CLs_length, List.length_append, List.length_singleton]; omega) (by rw [nats_length]; omega) ?_
   rw [more_own t s h, hw]
   rw [cuts_succ, if_pos hc, List.append_assoc] at IH
   have := CLs_snoc t s (cuts m i) i (i + 1)
   rw [show i + 1 - i = 1 by omega] at this
   rw [← this, ← nats_snoc]
   exact IH
  have keep : 0 < i → cutB m i = false → Ev (fun k => cells_Make.j1 k s m t (CLs t s (cuts m i ++ [i])) (nats (cuts m i)) (i : Int) s (s.length : Int) (i : Int) false (rd_T50 s (i : Int)).f0 (rd_T50 s (i : Int)).f1 (rd_T50 s (i : Int)).f2) (CLs t s (cuts m s.length ++ [s.length]), nats (cuts m s.length ++ [s.length])) := by
   intro h0 hc
   obtain ⟨p, a, hp, ha, hl⟩ := cuts_last m i h0
   rw [cuts_succ, hc, if_neg (by decide), List.append_nil] at IH
   rw [hp] at IH cl ⊢
   rw [List.length_append, List.length_singleton] at cl
   rw [List.append_assoc] at IH ⊢
   have e1 := CLs_snoc t s p a i
   have e2 := CLs_snoc t s p a (i + 1)
   rw [show p ++ ([a] ++ [i]) = p ++ [a, i] from rfl, e1, nats_snoc]
   rw [show p ++ ([a] ++ [i + 1]) = p ++ [a, i + 1] from rfl, e2, nats_snoc] at IH
   refine cells_j1f s m t _ _ _ _ _ _ _ _ _ (by rw [CLs_length, List.length_append, List.length_singleton]; omega) (by rw [nats_length]; omega) ?_
   rw [more_old t s h ha (by omega), hw]
   exact IH
  refine Ev.step (fun k => by unfold cells_Make.l0; rfl) (ev_pos (by omega) (ev_pos (by omega) (ev_pos (by omega) ?_)))
  by_cases h0 : i = 0
  ·exact ev_pos (by omega) (cut (by unfold cutB; rw [h0]; rfl))
  refine ev_neg (by omega) ?_
  have hb0 : (i == 0) = false := by simpa using h0
  by_cases h1 : i < m.length
  ·refine ev_pos (by omega) ?_
   have hb : cutB m i = (rd m (i : Int) != 0) := by unfold cutB; rw [hb0, decide_eq_true h1]; simp
   cases hc : (rd m (i : Int) != 0)
   ·exact keep (by omega) (hb.trans hc)
   ·exact cut (hb.trans hc)
  ·exact ev_neg (by omega) (keep (by omega) (by unfold cutB; rw [hb0, decide_eq_false h1]; rfl))
theorem cells_ok (s : List S50) (h : ∀ x ∈ s, 0 ≤ x.f2 ∧ x.f2 ≤ 4) (hn : s.length ≤ 1000000000000) (m : List Int) (t : Option (List (Int × Int × Int))) :
  Ev (fun k => cells_Make.f k s m t) (CLs t s (cuts m s.length ++ [s.length]), nats (cuts m s.length ++ [s.length])) := by
 unfold cells_Make.f
 exact cells_loop s h hn m t s.length 0 (by omega)
end Go.Proofs.Ytigajcipjklknaa.Pure
end
section
/- A text of clusters: what items.Make answers, in plain words; the chapter's example. -/
namespace Go.Proofs.Ytigajcipjklknaa.Pure
open Go.RowKit Go.Proofs.YtigajcipjklknaaW.PrintWords Go.Proofs.Ytigajcipjklknaa.F
def oppB (br : List Int) (pt : List Bool) (n i : Nat) : Int := if i = n then 2 else if i = 0 ∨ br.length ≤ i then 0 else if rd br (i : Int) = 0 ∧ i < pt.length ∧ rdOf false pt (i : Int) = true then 3 else rd br (i : Int)
theorem items_j1t (s : List S50) (br : List Int) (pt : List Bool) (v : Int) (x : List Int) (x26 x27 : Int) (C : List S48) (o : List Int) (ho : o.length ≤ 1000000000000) {r : List S48 × List Int} (H : Ev (fun k => items_Make.l0 k s br pt x x26 (wrap64 (x27 + 1)) C (o ++ [0])) r) :
  Ev (fun k => items_Make.j1 k s br pt v x x26 x27 true C o) r :=
 Ev.step (fun k => by unfold items_Make.j1; rfl) (ev_pos rfl (ev_pos (by omega) H))
theorem items_j1f (s : List S50) (br : List Int) (pt : List Bool) (i n : Nat) (hi : i ≠ n) (h0 : i ≠ 0) (hb : i < br.length) (x : List Int) (x26 x27 : Int) (C : List S48) (o : List Int) (ho : o.length ≤ 1000000000000) {r : List S48 × List Int} (H : Ev (fun k => items_Make.l0 k s br pt x x26 (wrap64 (x27 + 1)) C (o ++ [oppB br pt n i])) r) :
  Ev (fun k => items_Make.j1 k s br pt (i : Int) x x26 x27 false C o) r := by
 have e : oppB br pt n i = if rd br (i : Int) = 0 ∧ i < pt.length ∧ rdOf false pt (i : Int) = true then 3 else rd br (i : Int) := by
  unfold oppB
  rw [if_neg hi, if_neg (by omega)]
 rw [e] at H
 have hl : o.length < 140737488355328 := by omega
 refine Ev.step (fun k => by unfold items_Make.j1; rfl) (ev_neg (by decide) (ev_pos (by omega) (ev_pos (by omega) ?_)))
 by_cases c1 : rd br (i : Int) = 0
 ·refine ev_pos c1 ?_
  by_cases c2 : i < pt.length
  ·refine ev_pos (by omega) ?_
   by_cases c3 : rdOf false pt (i : Int) = true
   ·rw [if_pos ⟨c1, c2, c3⟩] at H
    exact ev_pos c3 (ev_pos hl H)
   ·rw [if_neg (fun h => c3 h.2.2)] at H
    exact ev_neg c3 (ev_pos hl H)
  ·rw [if_neg (fun h => c2 h.2.1)] at H
   exact ev_neg (by omega) (ev_pos hl H)
 ·rw [if_neg (fun h => c1 h.1)] at H
  exact ev_neg c1 (ev_pos hl H)
theorem items_loop (s : List S50) (br : List Int) (pt : List Bool) (C : List S48) (P : List Nat) (hP : P.length ≤ 1000000000000) : ∀ (d k : Nat), k + d = P.length →
  Ev (fun q => items_Make.l0 q s br pt (nats P) (P.length : Int) (k : Int) C ((P.take k).map (oppB br pt s.length))) (C, P.map (oppB br pt s.length)) := by
 have nl := nats_length P
 intro d
 induction d with
 | zero =>
  intro k hk
  refine Ev.step (fun q => by unfold items_Make.l0; rfl) (ev_neg (by omega) (ev_ret ?_))
  rw [List.take_of_length_le (by omega)]
 | succ d ih =>
  intro k hk
  have IH := ih (k + 1) (by omega)
  have hlt : k < P.length := by omega
  have hr : rd (nats P) (k : Int) = ((P[k] : Nat) : Int) := by
   unfold nats
   rw [rd_nat, List.getD_eq_getElem?_getD, List.getElem?_map, List.getElem?_eq_getElem hlt]; rfl
  have ht : (P.take (k + 1)).map (oppB br pt s.length) = (P.take k).map (oppB br pt s.length) ++ [oppB br pt s.length P[k]] := by
   rw [List.take_add_one, List.map_append, List.getElem?_eq_getElem hlt]; rfl
  rw [ht] at IH
  have hw : wrap64 ((k : Int) + 1) = ((k + 1 : Nat) : Int) := by rw [w64 (by omega) (by omega)]; rfl
  have ho : ((P.take k).map (oppB br pt s.length)).length ≤ 1000000000000 := by rw [List.length_map, List.length_take]; omega
  generalize P[k] = i at hr IH
  generalize (P.take k).map (oppB br pt s.length) = o at ho IH
  refine Ev.step (fun q => by unfold items_Make.l0; rfl) (ev_pos (by omega) (ev_pos (by omega) (ev_pos (by omega) ?_)))
  rw [hr]
  by_cases c1 : i = s.length
  ·rw [show oppB br pt s.length i = 2 by unfold oppB; rw [if_pos c1]] at IH
   refine ev_pos (by omega) (ev_pos (by omega) ?_)
   rw [hw]
   exact IH
  refine ev_neg (by omega) ?_
  by_cases c2 : i = 0
  ·rw [show oppB br pt s.length i = 0 by unfold oppB; rw [if_neg c1, if_pos (Or.inl c2)]] at IH
   exact ev_pos (by omega) (items_j1t s br pt _ _ _ _ _ _ ho (by rw [hw]; exact IH))
  refine ev_neg (by omega) ?_
  by_cases c3 : br.length ≤ i
  ·rw [show oppB br pt s.length i = 0 by unfold oppB; rw [if_neg c1, if_pos (Or.inr c3)]] at IH
   rw [decide_eq_true (by omega)]
   exact items_j1t s br pt _ _ _ _ _ _ ho (by rw [hw]; exact IH)
  ·rw [decide_eq_false (by omega)]
   exact items_j1f s br pt i s.length c1 c2 (by omega) _ _ _ _ _ ho (by rw [hw]; exact IH)
theorem items_ok (s : List S50) (h : ∀ x ∈ s, 0 ≤ x.f2 ∧ x.f2 ≤ 4) (hn : s.length ≤ 1000000000) (m br : List Int) (pt : List Bool) (t : Option (List (Int × Int × Int))) :
  Ev (fun k => items_Make.f k s m br pt t) (CLs t s (cuts m s.length ++ [s.length]), (cuts m s.length ++ [s.length]).map (oppB br pt s.length)) := by
 unfold items_Make.f
 refine ev_bind (cells_ok s h (by omega) m t) ?_
 have hl := cuts_le m s.length
 have := items_loop s br pt (CLs t s (cuts m s.length ++ [s.length])) (cuts m s.length ++ [s.length]) (by rw [List.length_append, List.length_singleton]; omega) (cuts m s.length ++ [s.length]).length 0 (by omega)
 rw [← nats_length] at this
 exact this
end Go.Proofs.Ytigajcipjklknaa.Pure
end
section
/- The chapter's example of a text of clusters. -/
namespace Go.Proofs.Ytigajcipjklknaa.Pure
open Go.RowKit Go.Proofs.YtigajcipjklknaaW.PrintWords Go.Proofs.Ytigajcipjklknaa.F
theorem ay_c : prop_Make.c ([] : List S45) 1 = true := by decide
theorem awake11 : Ev (fun k => stanzalaw11_Awake.f k) true := by
 have h1 : Ev (fun k => items_Make.f k ([] : List S50) ([] : List Int) ([] : List Int) ([] : List Bool) (some [])) (([] : List S48), ([2] : List Int)) := items_ok [] (by decide) (by decide) [] [] [] (some [])
 have h2 : Ev (fun k => items_Make.f k ([(⟨97, 0, 1⟩ : S50), (⟨98, 1, 1⟩ : S50)] : List S50) ([0, 1, 2] : List Int) ([0, 0, 2] : List Int) ([false, true, false] : List Bool) (some [])) (([⟨0, 1, 0, 0⟩, ⟨1, 1, 0, 0⟩] : List S48), ([0, 3, 2] : List Int)) := items_ok [(⟨97, 0, 1⟩ : S50), (⟨98, 1, 1⟩ : S50)] (by decide) (by decide) [0, 1, 2] [0, 0, 2] [false, true, false] (some [])
 have h3 : Ev (fun k => items_Check.f k ([] : List S48) ([2] : List Int)) true := by
  unfold items_Check.f
  refine ev_pos (by decide +kernel) (ev_pos (by decide) (ev_pos (by decide) (ev_pos (by decide) (ev_neg (by decide) ?_))))
  refine Ev.step (fun k => by unfold items_Check.j0; rfl) (ev_neg (by decide) ?_)
  exact Ev.step (fun k => by unfold items_Check.l0; rfl) (ev_neg (by decide) (Ev.now _))
 have h4 : ∀ C, Ev (fun k => items_Parts.f k C ([0, 3, 2] : List Int)) [2] := by
  intro C
  unfold items_Parts.f
  have w : wrap64 (0 + 1) = 1 ∧ wrap64 (1 + 1) = 2 ∧ wrap64 (2 + 1) = 3 := by decide +kernel
  refine Ev.step (fun k => by unfold items_Parts.l0; rfl) (ev_pos (by decide) (ev_pos (by decide) (ev_pos (by decide) (ev_neg (by decide) ?_))))
  rw [w.1]
  refine Ev.step (fun k => by unfold items_Parts.l0; rfl) (ev_pos (by decide) (ev_pos (by decide) (ev_pos (by decide) (ev_neg (by decide) ?_))))
  rw [w.2.1]
  refine Ev.step (fun k => by unfold items_Parts.l0; rfl) (ev_pos (by decide) (ev_pos (by decide) (ev_pos (by decide) (ev_pos (by decide) (ev_pos (by decide) ?_)))))
  rw [w.2.2]
  exact Ev.step (fun k => by unfold items_Parts.l0; rfl) (ev_neg (by decide) (Ev.now _))
 unfold stanzalaw11_Awake.f
 refine ev_pos ay_c (ev_bind' (make_y ay_c) (ev_bind h1 (ev_bind h2 (ev_pos (by decide) (ev_pos (by decide) (ev_pos (by decide) ?_))))))
 refine ev_bind h3 (ev_pos rfl (ev_pos (by decide) (ev_pos (by decide) (ev_pos (by decide) (ev_bind (h4 _) (ev_ret rfl))))))
end Go.Proofs.Ytigajcipjklknaa.Pure
end
section
/- Opps: the bytes as they are. -/
namespace Go.Proofs.Ytigajcipjklknaa.Pure
open Go.RowKit Go.Proofs.YtigajcipjklknaaW.PrintWords Go.Proofs.Ytigajcipjklknaa.F
theorem opps_loop (l : List Int) (hl : l.length ≤ 140737488351232) : ∀ (d i : Nat), i + d = l.length → Ev (fun k => h3_Opps.l0 k l (l.take i) (i : Int)) l := by
 intro d
 induction d with
 | zero => exact fun i hi => Ev.step (fun k => by unfold h3_Opps.l0; rfl) (ev_neg (by omega) (ev_ret (List.take_of_length_le (by omega))))
 | succ d ih =>
  intro i hi
  have hlt : i < l.length := by omega
  have hv : l.take i ++ [rd l (i : Int)] = l.take (i + 1) := by rw [List.take_add_one, rd_nat, List.getD_eq_getElem?_getD, List.getElem?_eq_getElem hlt]; rfl
  refine Ev.step (fun k => by unfold h3_Opps.l0; rfl) (ev_pos (by omega) (ev_pos (by omega) (ev_pos (by rw [List.length_take]; omega) ?_)))
  rw [hv, w64 (by omega) (by omega)]
  exact ih (i + 1) (by omega)
theorem opps_ok (l : List Int) (hl : l.length ≤ 140737488351232) : Ev (fun k => h3_Opps.f k l) l := by
 unfold h3_Opps.f
 exact opps_loop l hl l.length 0 (by omega)
end Go.Proofs.Ytigajcipjklknaa.Pure
end
section
/- Texts of clusters and widths, as plain functions: what Para makes, columns, what is empty at a line's end, gaps. -/
namespace Go.Proofs.Ytigajcipjklknaa.Pure
open Go.RowKit Go.Proofs.YtigajcipjklknaaW.PrintWords Go.Proofs.Ytigajcipjklknaa.F
def cl (C : List S48) (i : Nat) : S48 := C.getD i z48
theorem rd_cl (C : List S48) (i : Nat) : rd_T48 C (i : Int) = cl C i := rfl
def bit (l : List S90) (i : Nat) : S90 := l.getD i z90
theorem rd_bit (l : List S90) (i : Nat) : rd_T90 l (i : Int) = bit l i := rfl
def Small (b : S90) : Prop := (0 ≤ b.f0 ∧ b.f0 ≤ 255) ∧ (0 ≤ b.f1 ∧ b.f1 ≤ 255) ∧ (0 ≤ b.f2 ∧ b.f2 ≤ 255) ∧ (0 ≤ b.f3 ∧ b.f3 ≤ 255)
theorem small_of {b : S90} (h : (Lit.int .u8 b.f0).wf = true ∧ (Lit.int .u8 b.f1).wf = true ∧ (Lit.int .u8 b.f2).wf = true ∧ (Lit.int .u8 b.f3).wf = true) : Small b := by
 rw [wfu8, wfu8, wfu8, wfu8] at h
 exact h
theorem bit_mem {l : List S90} {i : Nat} (h : i < l.length) : bit l i ∈ l := by
 unfold bit
 rw [List.getD_eq_getElem?_getD, List.getElem?_eq_getElem h]
 exact List.getElem_mem h
def atl (l : List S90) : Nat → Int
 | 0 => 0
 | i + 1 => atl l i + (1 + (bit l i).f2 % 4)
def clus (l : List S90) (i : Nat) : S48 := ⟨atl l i, 1 + (bit l i).f2 % 4, (bit l i).f0 % 3, (bit l i).f1 % 3⟩
def opp (l : List S90) (i : Nat) : Int := if i = l.length then 2 else if i = 0 then 0 else (bit l (i - 1)).f3 % 4
def CL (l : List S90) : List S48 := (List.range l.length).map (clus l)
def OP (l : List S90) : List Int := (List.range (l.length + 1)).map (opp l)
theorem CL_len (l : List S90) : (CL l).length = l.length := by simp [CL]
theorem OP_len (l : List S90) : (OP l).length = l.length + 1 := by simp [OP]
theorem cl_CL {l : List S90} {i : Nat} (h : i < l.length) : cl (CL l) i = clus l i := by
 unfold cl CL
 rw [List.getD_eq_getElem?_getD, List.getElem?_map, List.getElem?_range h]; rfl
theorem rd_OP {l : List S90} {i : Nat} (h : i ≤ l.length) : rd (OP l) (i : Int) = opp l i := rd_map_range (opp l) (by omega)
theorem atl_bd (l : List S90) (i : Nat) : (i : Int) ≤ atl l i ∧ atl l i ≤ 4 * i := by
 induction i with
 | zero => simp [atl]
 | succ i ih =>
  have := mod4 (bit l i).f2
  simp only [atl, Int.natCast_add, Int.natCast_one]
  omega
theorem opp_bd (l : List S90) (i : Nat) : 0 ≤ opp l i ∧ opp l i ≤ 3 := by
 unfold opp
 have := mod4 (bit l (i - 1)).f3
 split
 ·omega
 ·split <;> omega
end Go.Proofs.Ytigajcipjklknaa.Pure
end
section
/- Para comes to the plain text of clusters. -/
namespace Go.Proofs.Ytigajcipjklknaa.Pure
open Go.RowKit Go.Proofs.YtigajcipjklknaaW.PrintWords Go.Proofs.Ytigajcipjklknaa.F
theorem para_l1 {l : List S90} (hl : l.length ≤ 1000) (hs : ∀ b ∈ l, Small b) : ∀ (d i : Nat), i + d = l.length →
  Ev (fun k => h3_Para.l1 k l (i : Int) (CL l) ((List.range i).map (opp l))) (CL l, OP l) := by
 intro d
 induction d with
 | zero =>
  intro i hi
  refine Ev.step (fun k => by unfold h3_Para.l1; rfl) (ev_neg (by rw [CL_len]; omega) (ev_pos (by simp; omega) (ev_ret ?_)))
  have : opp l i = 2 := by unfold opp; rw [if_pos (by omega)]
  rw [← this, map_range_snoc, show i + 1 = l.length + 1 from by omega]
  rfl
 | succ d ih =>
  intro i hi
  refine Ev.step (fun k => by unfold h3_Para.l1; rfl) (ev_pos (by rw [CL_len]; omega) ?_)
  have hn : wrap64 ((i : Int) + 1) = ((i + 1 : Nat) : Int) := by rw [w64 (by omega) (by omega)]; rfl
  have hlen : ((List.range i).map (opp l)).length < 140737488355328 := by simp; omega
  by_cases h0 : i = 0
  ·subst h0
   refine ev_neg (by omega) (ev_pos hlen ?_)
   rw [hn, show (0 : Int) = opp l 0 from by unfold opp; rw [if_neg (by omega)]; rfl, map_range_snoc]
   exact ih 1 (by omega)
  ·obtain ⟨j, rfl⟩ : ∃ j, i = j + 1 := ⟨i - 1, by omega⟩
   refine ev_pos (by omega) ?_
   rw [show wrap64 (((j + 1 : Nat) : Int) - 1) = (j : Int) from by rw [w64 (by omega) (by omega)]; omega]
   refine ev_pos (by omega) (ev_pos (by omega) (ev_pos hlen ?_))
   have hb := hs _ (bit_mem (show j < l.length from by omega))
   rw [hn, rd_bit, tmodp hb.2.2.2.1, show (bit l j).f3 % 4 = opp l (j + 1) from by unfold opp; rw [if_neg (by omega), if_neg (by omega)]; rfl, map_range_snoc]
   exact ih (j + 1 + 1) (by omega)
theorem para_j1 {l : List S90} (hl : l.length ≤ 1000) (hs : ∀ b ∈ l, Small b) : Ev (fun k => h3_Para.j1 k l (CL l)) (CL l, OP l) :=
 Ev.step (fun k => by unfold h3_Para.j1; rfl) (para_l1 hl hs l.length 0 (by omega))
theorem para_l0 {l : List S90} (hl : l.length ≤ 1000) (hs : ∀ b ∈ l, Small b) : ∀ (d i : Nat), i + d = l.length →
  Ev (fun k => h3_Para.l0 k l (atl l i) (i : Int) ((List.range i).map (clus l))) (CL l, OP l) := by
 intro d
 induction d with
 | zero =>
  intro i hi
  refine Ev.step (fun k => by unfold h3_Para.l0; rfl) (ev_neg (by omega) ?_)
  rw [show i = l.length from by omega]
  exact para_j1 hl hs
 | succ d ih =>
  intro i hi
  have ha := atl_bd l i
  have hb := hs _ (bit_mem (show i < l.length from by omega))
  have m4 := mod4 (bit l i).f2
  have m3 := mod3 (bit l i).f0
  refine Ev.step (fun k => by unfold h3_Para.l0; rfl) (ev_pos (by omega) (ev_pos (by omega) (ev_pos (by omega) (ev_pos (by simp; omega) ?_))))
  rw [rd_bit, tmodp hb.2.2.1.1, tmodp hb.1.1, tmodp hb.2.1.1, w64 (x := (bit l i).f2 % 4) (by omega) (by omega), w64 (x := 1 + (bit l i).f2 % 4) (by omega) (by omega), w64 (x := (bit l i).f0 % 3) (by omega) (by omega),
   w64 (x := (i : Int) + 1) (by omega) (by omega), w64 (x := atl l i + (1 + (bit l i).f2 % 4)) (by omega) (by omega)]
  rw [show (⟨atl l i, 1 + (bit l i).f2 % 4, (bit l i).f0 % 3, (bit l i).f1 % 3⟩ : S48) = clus l i from rfl, map_range_snoc]
  exact ih (i + 1) (by omega)
theorem para_ev {l : List S90} (hl : l.length ≤ 1000) (hs : ∀ b ∈ l, Small b) : Ev (fun k => h3_Para.f k l) (CL l, OP l) :=
 para_l0 hl hs l.length 0 (by omega)
end Go.Proofs.Ytigajcipjklknaa.Pure
end
section
/- ItemsChecks, plain: the code's check and the document's answer alike, whatever the text of clusters. -/
namespace Go.Proofs.Ytigajcipjklknaa.Pure
open Go.RowKit Go.Proofs.YtigajcipjklknaaW.PrintWords Go.Proofs.Ytigajcipjklknaa.F
theorem chk_loop (C : List S48) (O : List Int) (hC : C.length ≤ 100000) (hO : O.length = C.length + 1) : ∀ (d i : Nat) (a : Int), i + d = C.length → 0 ≤ a → a ≤ 4096 →
  ∃ v, Ev (fun k => items_Check.l0 k a C (C.length : Int) (i : Int) C O) v ∧ Ev (fun k => r0_Check.l0 k (C.length : Int) a (i : Int) C O) v := by
 intro d
 induction d with
 | zero =>
  intro i a hi _ _
  exact ⟨true, Ev.step (fun k => by unfold items_Check.l0; rfl) (ev_neg (by omega) (Ev.now _)), Ev.step (fun k => by unfold r0_Check.l0; rfl) (ev_neg (by omega) (Ev.now _))⟩
 | succ d ih =>
  intro i a hi h0 h1
  have key : ∃ v, Ev (fun k => if (rd_T48 C (i : Int)).f0 = a then (if (rd_T48 C (i : Int)).f1 < 1 then some false else if (rd_T48 C (i : Int)).f1 > wrap64 (4096 - a) then some false else if (rd_T48 C (i : Int)).f2 < 0 then some false else if (rd_T48 C (i : Int)).f2 > 2 then some false else if (rd_T48 C (i : Int)).f3 > 2 then some false else if (i : Int) < (O.length : Int) then (if rd O (i : Int) > 3 then some false else items_Check.l0 k (wrap64 (a + (rd_T48 C (i : Int)).f1)) C (C.length : Int) (wrap64 ((i : Int) + 1)) C O) else none) else some false) v ∧
    Ev (fun k => if (rd_T48 C (i : Int)).f0 = a then (if (rd_T48 C (i : Int)).f1 < 1 then some false else if (rd_T48 C (i : Int)).f1 > 4096 then some false else if wrap64 (a + (rd_T48 C (i : Int)).f1) > 4096 then some false else if (rd_T48 C (i : Int)).f2 < 0 then some false else if (rd_T48 C (i : Int)).f2 > 2 then some false else if (rd_T48 C (i : Int)).f3 > 2 then some false else if (i : Int) < (O.length : Int) then (if rd O (i : Int) > 3 then some false else r0_Check.l0 k (C.length : Int) (wrap64 (a + (rd_T48 C (i : Int)).f1)) (wrap64 ((i : Int) + 1)) C O) else none) else some false) v := by
   rw [w64 (x := 4096 - a) (by omega) (by omega), w64 (x := (i : Int) + 1) (by omega) (by omega)]
   generalize rd_T48 C (i : Int) = c
   by_cases c0 : c.f0 = a
   rotate_left
   ·exact ⟨false, ev_neg c0 (Ev.now _), ev_neg c0 (Ev.now _)⟩
   by_cases c1 : c.f1 < 1
   ·exact ⟨false, ev_pos c0 (ev_pos c1 (Ev.now _)), ev_pos c0 (ev_pos c1 (Ev.now _))⟩
   by_cases c2 : c.f1 > 4096
   ·exact ⟨false, ev_pos c0 (ev_neg c1 (ev_pos (by omega) (Ev.now _))), ev_pos c0 (ev_neg c1 (ev_pos c2 (Ev.now _)))⟩
   rw [w64 (x := a + c.f1) (by omega) (by omega)]
   by_cases c3 : a + c.f1 > 4096
   ·exact ⟨false, ev_pos c0 (ev_neg c1 (ev_pos (by omega) (Ev.now _))), ev_pos c0 (ev_neg c1 (ev_neg c2 (ev_pos c3 (Ev.now _))))⟩
   have c4 : ¬ c.f1 > 4096 - a := by omega
   by_cases c5 : c.f2 < 0
   ·exact ⟨false, ev_pos c0 (ev_neg c1 (ev_neg c4 (ev_pos c5 (Ev.now _)))), ev_pos c0 (ev_neg c1 (ev_neg c2 (ev_neg c3 (ev_pos c5 (Ev.now _)))))⟩
   by_cases c6 : c.f2 > 2
   ·exact ⟨false, ev_pos c0 (ev_neg c1 (ev_neg c4 (ev_neg c5 (ev_pos c6 (Ev.now _))))), ev_pos c0 (ev_neg c1 (ev_neg c2 (ev_neg c3 (ev_neg c5 (ev_pos c6 (Ev.now _))))))⟩
   by_cases c7 : c.f3 > 2
   ·exact ⟨false, ev_pos c0 (ev_neg c1 (ev_neg c4 (ev_neg c5 (ev_neg c6 (ev_pos c7 (Ev.now _)))))), ev_pos c0 (ev_neg c1 (ev_neg c2 (ev_neg c3 (ev_neg c5 (ev_neg c6 (ev_pos c7 (Ev.now _)))))))⟩
   have c8 : (i : Int) < (O.length : Int) := by omega
   by_cases c9 : rd O (i : Int) > 3
   ·exact ⟨false, ev_pos c0 (ev_neg c1 (ev_neg c4 (ev_neg c5 (ev_neg c6 (ev_neg c7 (ev_pos c8 (ev_pos c9 (Ev.now _)))))))), ev_pos c0 (ev_neg c1 (ev_neg c2 (ev_neg c3 (ev_neg c5 (ev_neg c6 (ev_neg c7 (ev_pos c8 (ev_pos c9 (Ev.now _)))))))))⟩
   obtain ⟨v, v1, v2⟩ := ih (i + 1) (a + c.f1) (by omega) (by omega) (by omega)
   exact ⟨v, ev_pos c0 (ev_neg c1 (ev_neg c4 (ev_neg c5 (ev_neg c6 (ev_neg c7 (ev_pos c8 (ev_neg c9 v1))))))), ev_pos c0 (ev_neg c1 (ev_neg c2 (ev_neg c3 (ev_neg c5 (ev_neg c6 (ev_neg c7 (ev_pos c8 (ev_neg c9 v2))))))))⟩
  obtain ⟨v, v1, v2⟩ := key
  have h1 : (i : Int) < (C.length : Int) := by omega
  have h2 : 0 ≤ (i : Int) := by omega
  refine ⟨v, ?_, ?_⟩
  ·refine Ev.step (fun k => by unfold items_Check.l0; rfl) ?_
   exact ev_pos h1 (ev_pos h2 (ev_pos h1 v1))
  ·refine Ev.step (fun k => by unfold r0_Check.l0; rfl) ?_
   exact ev_pos h1 (ev_pos h2 (ev_pos h1 v2))
theorem chk_both (C : List S48) (O : List Int) (hC : C.length ≤ 100000) : ∃ v, Ev (fun k => items_Check.f k C O) v ∧ Ev (fun k => r0_Check.f k C O) v := by
 have i0t : Ev (fun k => items_Check.j0 k true C O) false := Ev.step (fun k => by unfold items_Check.j0; rfl) (ev_pos rfl (Ev.now _))
 have r0t : Ev (fun k => r0_Check.j0 k (C.length : Int) true C O) false := Ev.step (fun k => by unfold r0_Check.j0; rfl) (ev_pos rfl (Ev.now _))
 have hw : wrap64 ((C.length : Int) + 1) = (C.length : Int) + 1 := w64 (by omega) (by omega)
 unfold items_Check.f r0_Check.f
 rw [hw]
 by_cases h0 : (O.length : Int) = (C.length : Int) + 1
 rotate_left
 ·exact ⟨false, ev_neg h0 i0t, ev_neg h0 r0t⟩
 have h1 : (C.length : Int) < (O.length : Int) := by omega
 have h2 : 0 ≤ (C.length : Int) := by omega
 by_cases h3 : rd O (C.length : Int) = 2
 rotate_left
 ·refine ⟨false, ev_pos h0 (ev_pos h2 (ev_pos h1 (ev_neg h3 i0t))), ev_pos h0 (ev_pos h2 (ev_pos h1 ?_))⟩
  rw [show (rd O (C.length : Int) != 2) = true by simpa using h3]
  exact r0t
 obtain ⟨v, v1, v2⟩ := chk_loop C O hC (by omega) C.length 0 0 (by omega) (by omega) (by omega)
 have h3' : (rd O (C.length : Int) != 2) = false := by simpa using h3
 rw [h3']
 by_cases h4 : (C.length : Int) > 0
 ·cases h5 : (rd O 0 != 0)
  ·refine ⟨v, ev_pos h0 (ev_pos h2 (ev_pos h1 (ev_pos h3 (ev_pos h4 (ev_pos (by omega) ?_))))), ev_pos h0 (ev_pos h2 (ev_pos h1 (Ev.step (fun k => by unfold r0_Check.j0; rfl) (ev_neg (by decide) (ev_pos h4 (ev_pos (by omega) ?_))))))⟩
   ·exact Ev.step (fun k => by unfold items_Check.j0; rfl) (ev_neg (by decide) v1)
   ·rw [h5]
    exact Ev.step (fun k => by unfold r0_Check.j1; rfl) (ev_neg (by decide) v2)
  ·refine ⟨false, ev_pos h0 (ev_pos h2 (ev_pos h1 (ev_pos h3 (ev_pos h4 (ev_pos (by omega) ?_))))), ev_pos h0 (ev_pos h2 (ev_pos h1 (Ev.step (fun k => by unfold r0_Check.j0; rfl) (ev_neg (by decide) (ev_pos h4 (ev_pos (by omega) ?_))))))⟩
   ·exact i0t
   ·rw [h5]
    exact Ev.step (fun k => by unfold r0_Check.j1; rfl) (ev_pos rfl (Ev.now _))
 ·refine ⟨v, ev_pos h0 (ev_pos h2 (ev_pos h1 (ev_pos h3 (ev_neg h4 ?_)))), ev_pos h0 (ev_pos h2 (ev_pos h1 (Ev.step (fun k => by unfold r0_Check.j0; rfl) (ev_neg (by decide) (ev_neg h4 ?_)))))⟩
  ·exact Ev.step (fun k => by unfold items_Check.j0; rfl) (ev_neg (by decide) v1)
  ·exact Ev.step (fun k => by unfold r0_Check.j1; rfl) (ev_neg (by decide) v2)
theorem chk_para {l : List S90} (hl : l.length ≤ 500) : Ev (fun k => items_Check.f k (CL l) (OP l)) true := by
 have loop : ∀ (d i : Nat), i + d = l.length → Ev (fun k => items_Check.l0 k (atl l i) (CL l) ((CL l).length : Int) (i : Int) (CL l) (OP l)) true := by
  intro d
  induction d with
  | zero => exact fun i hi => Ev.step (fun k => by unfold items_Check.l0; rfl) (ev_neg (by rw [CL_len]; omega) (ev_ret rfl))
  | succ d ih =>
   intro i hi
   have IH := ih (i + 1) (by omega)
   have ha := atl_bd l i
   have m4 := mod4 (bit l i).f2
   have m3a := mod3 (bit l i).f0
   have m3b := mod3 (bit l i).f1
   have ob := opp_bd l i
   have cln := CL_len l
   have oln := OP_len l
   refine Ev.step (fun k => by unfold items_Check.l0; rfl) (ev_pos (by omega) (ev_pos (by omega) (ev_pos (by omega) ?_)))
   rw [rd_cl, cl_CL (by omega), rd_OP (by omega), show wrap64 (4096 - atl l i) = 4096 - atl l i from w64 (by omega) (by omega), show wrap64 ((i : Int) + 1) = ((i + 1 : Nat) : Int) from by rw [w64 (by omega) (by omega)]; rfl,
    show wrap64 (atl l i + (clus l i).f1) = atl l (i + 1) from by show wrap64 (atl l i + (1 + (bit l i).f2 % 4)) = atl l i + (1 + (bit l i).f2 % 4); exact w64 (by omega) (by omega)]
   exact ev_pos rfl (ev_neg (show ¬ 1 + (bit l i).f2 % 4 < 1 by omega) (ev_neg (show ¬ 1 + (bit l i).f2 % 4 > 4096 - atl l i by omega) (ev_neg (show ¬ (bit l i).f0 % 3 < 0 by omega) (ev_neg (show ¬ (bit l i).f0 % 3 > 2 by omega) (ev_neg (show ¬ (bit l i).f1 % 3 > 2 by omega) (ev_pos (by omega) (ev_neg (by omega) IH)))))))
 have cln := CL_len l
 have oln := OP_len l
 have h2 : rd (OP l) ((CL l).length : Int) = 2 := by
  rw [cln, rd_OP (Nat.le_refl _)]
  unfold opp
  rw [if_pos rfl]
 unfold items_Check.f
 refine ev_pos (by rw [w64 (by omega) (by omega)]; omega) (ev_pos (by omega) (ev_pos (by omega) (ev_pos h2 ?_)))
 by_cases h : ((CL l).length : Int) > 0
 ·refine ev_pos h (ev_pos (by omega) ?_)
  have h3 : rd (OP l) ((0 : Nat) : Int) = 0 := by
   rw [rd_OP (by omega)]
   unfold opp
   rw [if_neg (by omega), if_pos rfl]
  have h4 : (rd (OP l) 0 != 0) = false := by
   have : rd (OP l) 0 = 0 := h3
   rw [this]; rfl
  rw [h4]
  exact Ev.step (fun k => by unfold items_Check.j0; rfl) (ev_neg (by decide) (loop l.length 0 (by omega)))
 ·exact ev_neg h (Ev.step (fun k => by unfold items_Check.j0; rfl) (ev_neg (by decide) (loop l.length 0 (by omega))))
theorem chk_arm (C : List S48) (O : List Int) (hC : C.length ≤ 100000) : Ev (fun k => (items_Check.f k C O).bind fun t => (r0_Check.f k C O).bind fun u => some (t == u)) true := by
 obtain ⟨v, v1, v2⟩ := chk_both C O hC
 exact ev_bind v1 (ev_bind v2 (ev_ret (by simp)))
theorem ichk_j1 (C : List S48) (O : List Int) (hC : C.length ≤ 500) (hO : O.length = C.length + 1) (x3 x4 x5 : Int) : Ev (fun k => stanzalaw11_ItemsChecks.j1 k x3 x4 x5 false C O) true := by
 refine Ev.step (fun k => by unfold stanzalaw11_ItemsChecks.j1; rfl) (ev_neg (by decide) ?_)
 by_cases h0 : (C.length : Int) = 0
 ·exact ev_pos h0 (Ev.now _)
 refine ev_neg h0 ?_
 have hu : IntKind.u64.wrap (C.length : Int) ≠ 0 := by
  have hw : IntKind.u64.wrap (C.length : Int) = (C.length : Int) % 18446744073709551616 := by simp [IntKind.wrap, IntKind.signed, IntKind.bits]
  rw [hw]; omega
 refine ev_neg hu ?_
 obtain ⟨i, hi, hlt⟩ : ∃ i : Nat, wrap64 (Int.tmod (IntKind.u64.wrap x3) (IntKind.u64.wrap (C.length : Int))) = (i : Int) ∧ i < C.length := by
  rw [u64mod (by omega) (by omega)]
  have g1 := Int.emod_nonneg (x3 % 18446744073709551616) (by omega : (C.length : Int) ≠ 0)
  have g2 := Int.emod_lt_of_pos (x3 % 18446744073709551616) (by omega : 0 < (C.length : Int))
  exact ⟨_, (Int.toNat_of_nonneg g1).symm, by omega⟩
 rw [hi]
 clear hi
 have hw1 : wrap64 ((O.length : Int) - 1) = (C.length : Int) := by rw [w64 (by omega) (by omega)]; omega
 rw [hw1]
 refine ev_pos (by omega) (ev_pos (by omega) ?_)
 have arm : ∀ (c : S48), Ev (fun k => (items_Check.f k (C.set (i : Int).toNat c) O).bind fun t => (r0_Check.f k (C.set (i : Int).toNat c) O).bind fun u => some (t == u)) true := fun c => chk_arm _ O (by rw [List.length_set]; omega)
 by_cases a0 : Int.tmod (IntKind.u64.wrap x4) 8 = 0
 ·exact ev_pos a0 (ev_let (arm _))
 refine ev_neg a0 ?_
 by_cases a1 : Int.tmod (IntKind.u64.wrap x4) 8 = 1
 ·exact ev_pos a1 (ev_let (arm _))
 refine ev_neg a1 ?_
 by_cases a2 : Int.tmod (IntKind.u64.wrap x4) 8 = 2
 ·exact ev_pos a2 (ev_let (arm _))
 refine ev_neg a2 ?_
 by_cases a3 : Int.tmod (IntKind.u64.wrap x4) 8 = 3
 ·exact ev_pos a3 (ev_let (arm _))
 refine ev_neg a3 ?_
 by_cases a4 : Int.tmod (IntKind.u64.wrap x4) 8 = 4
 ·exact ev_pos a4 (ev_pos (by omega) (ev_let (chk_arm C _ (by omega))))
 refine ev_neg a4 ?_
 by_cases a5 : Int.tmod (IntKind.u64.wrap x4) 8 = 5
 ·exact ev_pos a5 (ev_pos (by omega) (ev_pos (by omega) (ev_let (chk_arm C _ (by omega)))))
 refine ev_neg a5 ?_
 by_cases a6 : Int.tmod (IntKind.u64.wrap x4) 8 = 6
 ·exact ev_pos a6 (ev_pos (by omega) (ev_pos (by omega) (ev_let (chk_arm C _ (by omega)))))
 refine ev_neg a6 (ev_pos (by omega) (ev_let (chk_arm _ O ?_)))
 rw [List.length_drop]
 omega
theorem ItemsChecks : stanzalaw11_ItemsChecks.Pure := by
 intro l0 l1 l2 a3 a4 a5 h0 h1 h2 _ _ _
 have : Ev (fun k => stanzalaw11_ItemsChecks.f k l0 l1 l2 a3 a4 a5) true := by
  unfold stanzalaw11_ItemsChecks.f
  refine ev_bind awake11 (ev_pos rfl ?_)
  have jt : Ev (fun k => stanzalaw11_ItemsChecks.j0 k l0 l1 l2 a3 a4 a5 true) true := Ev.step (fun k => by unfold stanzalaw11_ItemsChecks.j0; rfl) (ev_pos rfl (Ev.now _))
  by_cases c0 : (l0.length : Int) > 500
  ·exact ev_pos c0 jt
  refine ev_neg c0 ?_
  by_cases c1 : (l1.length : Int) > 500
  ·exact ev_pos c1 jt
  refine ev_neg c1 ?_
  by_cases c2 : (l2.length : Int) > 500
  ·rw [decide_eq_true c2]; exact jt
  rw [decide_eq_false c2]
  obtain ⟨v, v1, v2⟩ := chk_both l0 l1 (by omega)
  refine Ev.step (fun k => by unfold stanzalaw11_ItemsChecks.j0; rfl) (ev_neg (by decide) (ev_bind (opps_ok l1 (by have := h1.1; omega)) (ev_bind (para_ev (by omega) (fun b hb => small_of (h2.2 b hb))) (ev_bind (chk_para (l := l2) (by omega)) (ev_pos rfl (ev_bind v1 (ev_bind v2 ?_)))))))
  rw [show (v != v) = false by simp]
  exact ichk_j1 (CL l2) (OP l2) (by rw [CL_len]; omega) (by rw [OP_len, CL_len]) a3 a4 a5
 obtain ⟨k, hk⟩ := this
 exact ⟨k, hk k (Nat.le_refl k)⟩
end Go.Proofs.Ytigajcipjklknaa.Pure
end
