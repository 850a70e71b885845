/- The printed functions of Para, span and the document's span come to the plain functions. -/
import Derived.Test.YtbnoeeflpegcoaaSpan0
import Derived.Test.YtbnoeeflpegcoaaF9
import Derived.Test.YtbnoeeflpegcoaaF10
import Derived.Test.YtbnoeeflpegcoaaF11
import Derived.Test.YtbnoeeflpegcoaaF12
import Derived.Test.YtbnoeeflpegcoaaF13
import Derived.Test.YtbnoeeflpegcoaaF14
import Derived.Test.YtbnoeeflpegcoaaF15
namespace Go.Proofs.Ytbnoeeflpegcoaa.Pure
open Go.RowKit Go.Proofs.YtbnoeeflpegcoaaW.PrintWords Go.Proofs.Ytbnoeeflpegcoaa.F

/-! ### Para -/
theorem para_l1 {l : List S50} (hl : l.length ≤ 1000) (hs : ∀ b ∈ l, Small b) : ∀ (d i : Nat), i + d = l.length →
    Ev (fun k => stanzahand03_Para.l1 k l (i : Int) (CL l) ((List.range i).map (opp l))) (CL l, OP l) := by
  intro d
  induction d with
  | zero =>
    intro i hi
    refine Ev.step (fun k => by unfold stanzahand03_Para.l1; rfl) (ev_neg (by rw [CL_len]; omega) (ev_pos (by simp; omega) (ev_ret ?_)))
    have : opp l i = 2 := by unfold opp; rw [if_pos (by omega)]
    rw [← this, map_range_snoc, show i + 1 = l.length + 1 from by omega]
    rfl
  | succ d ih =>
    intro i hi
    refine Ev.step (fun k => by unfold stanzahand03_Para.l1; rfl) (ev_pos (by rw [CL_len]; omega) ?_)
    have hn : wrap64 ((i : Int) + 1) = ((i + 1 : Nat) : Int) := by rw [w64 (by omega) (by omega)]; rfl
    have hlen : ((List.range i).map (opp l)).length < 140737488355328 := by simp; omega
    by_cases h0 : i = 0
    · subst h0
      refine ev_neg (by omega) (ev_pos hlen ?_)
      rw [hn, show (0 : Int) = opp l 0 from by unfold opp; rw [if_neg (by omega)]; rfl, map_range_snoc]
      exact ih 1 (by omega)
    · obtain ⟨j, rfl⟩ : ∃ j, i = j + 1 := ⟨i - 1, by omega⟩
      refine ev_pos (by omega) ?_
      rw [show wrap64 (((j + 1 : Nat) : Int) - 1) = (j : Int) from by rw [w64 (by omega) (by omega)]; omega]
      refine ev_pos (by omega) (ev_pos (by omega) (ev_pos hlen ?_))
      have hb := hs _ (bit_mem (show j < l.length from by omega))
      rw [hn, rd_bit, tmodp hb.2.2.2.1, show (bit l j).f3 % 4 = opp l (j + 1) from by unfold opp; rw [if_neg (by omega), if_neg (by omega)]; rfl, map_range_snoc]
      exact ih (j + 1 + 1) (by omega)
theorem para_j1 {l : List S50} (hl : l.length ≤ 1000) (hs : ∀ b ∈ l, Small b) : Ev (fun k => stanzahand03_Para.j1 k l (CL l)) (CL l, OP l) :=
  Ev.step (fun k => by unfold stanzahand03_Para.j1; rfl) (para_l1 hl hs l.length 0 (by omega))
theorem para_l0 {l : List S50} (hl : l.length ≤ 1000) (hs : ∀ b ∈ l, Small b) : ∀ (d i : Nat), i + d = l.length →
    Ev (fun k => stanzahand03_Para.l0 k l (atl l i) (i : Int) ((List.range i).map (clus l))) (CL l, OP l) := by
  intro d
  induction d with
  | zero =>
    intro i hi
    refine Ev.step (fun k => by unfold stanzahand03_Para.l0; rfl) (ev_neg (by omega) ?_)
    rw [show i = l.length from by omega]
    exact para_j1 hl hs
  | succ d ih =>
    intro i hi
    have ha := atl_bd l i
    have hb := hs _ (bit_mem (show i < l.length from by omega))
    have m4 := mod4 (bit l i).f2
    have m3 := mod3 (bit l i).f0
    refine Ev.step (fun k => by unfold stanzahand03_Para.l0; rfl) (ev_pos (by omega) (ev_pos (by omega) (ev_pos (by omega) (ev_pos (by simp; omega) ?_))))
    rw [rd_bit, tmodp hb.2.2.1.1, tmodp hb.1.1, tmodp hb.2.1.1, w64 (x := (bit l i).f2 % 4) (by omega) (by omega), w64 (x := 1 + (bit l i).f2 % 4) (by omega) (by omega), w64 (x := (bit l i).f0 % 3) (by omega) (by omega),
      w64 (x := (i : Int) + 1) (by omega) (by omega), w64 (x := atl l i + (1 + (bit l i).f2 % 4)) (by omega) (by omega)]
    rw [show (⟨atl l i, 1 + (bit l i).f2 % 4, (bit l i).f0 % 3, (bit l i).f1 % 3⟩ : S41) = clus l i from rfl, map_range_snoc]
    exact ih (i + 1) (by omega)
theorem para_ev {l : List S50} (hl : l.length ≤ 1000) (hs : ∀ b ∈ l, Small b) : Ev (fun k => stanzahand03_Para.f k l) (CL l, OP l) :=
  para_l0 hl hs l.length 0 (by omega)

/-! ### span -/
theorem next_eq {c : S41} {x t : Int} (h0 : 0 ≤ c.f2 ∧ c.f2 ≤ 2) (hx : 0 ≤ x ∧ x ≤ 1000000) (ht : 1 ≤ t ∧ t ≤ 64) : span_Next.f c.f0 c.f1 c.f2 c.f3 x t = some (nxt c x t) := by
  unfold span_Next.f nxt
  have h1 := Int.emod_nonneg x (by omega : t ≠ 0)
  have h2 := Int.emod_lt_of_pos x (by omega : 0 < t)
  by_cases h : c.f3 = 2
  · rw [if_pos h, if_pos h, if_neg (by omega), tmodp hx.1, w64 (x := x + t) (by omega) (by omega), w64 (by omega) (by omega)]
  · rw [if_neg h, if_neg h, w64 (by omega) (by omega)]
theorem columns_l0 {C : List S41} (g : Good C) (O : List Int) (fr n : Nat) {t : Int} (ht : 1 ≤ t ∧ t ≤ 64) (h : fr + n ≤ C.length) : ∀ (d i : Nat), i + d = n →
    Ev (fun k => span_Columns.l0 k ((fr + n : Nat) : Int) t ((List.range (i + 1)).map (col C fr t)) ((fr + i : Nat) : Int) C O) ((List.range (n + 1)).map (col C fr t)) := by
  have hg := g.len
  intro d
  induction d with
  | zero =>
    intro i hi
    refine Ev.step (fun k => by unfold span_Columns.l0; rfl) (ev_neg (by omega) (ev_ret ?_))
    rw [show i = n from by omega]
  | succ d ih =>
    intro i hi
    have hc := col_bd g fr ht i
    refine Ev.step (fun k => by unfold span_Columns.l0; rfl) (ev_pos (by omega) (ev_pos (by omega) (ev_pos (by omega) ?_)))
    rw [List.length_map, List.length_range, show wrap64 (((i + 1 : Nat) : Int) - 1) = (i : Int) from by rw [w64 (by omega) (by omega)]; omega, rd_map_range _ (by omega), rd_cl]
    refine ev_pos (by omega) (ev_pos (by omega) (ev_bind' (next_eq (g.cells _) (by omega) ht) (ev_pos (by omega) ?_)))
    rw [show wrap64 (((fr + i : Nat) : Int) + 1) = ((fr + (i + 1) : Nat) : Int) from by rw [w64 (by omega) (by omega)]; omega, show nxt (cl C (fr + i)) (col C fr t i) t = col C fr t (i + 1) from rfl, map_range_snoc]
    exact ih (i + 1) (by omega)
theorem columns_ev {C : List S41} (g : Good C) (O : List Int) (fr n : Nat) {t : Int} (ht : 1 ≤ t ∧ t ≤ 64) (h : fr + n ≤ C.length) :
    Ev (fun k => span_Columns.f k C O (fr : Int) ((fr + n : Nat) : Int) t) ((List.range (n + 1)).map (col C fr t)) :=
  columns_l0 g O fr n ht h n 0 (by omega)
theorem empty_eq {c : S41} : span_empty.f c.f0 c.f1 c.f2 c.f3 = some (emp c) := by
  unfold span_empty.f emp
  by_cases h1 : c.f3 = 1
  · rw [if_pos h1, h1]; rfl
  · rw [if_neg h1]
    by_cases h0 : c.f3 = 0
    · rw [if_pos h0, h0]; rfl
    · rw [if_neg h0]
      simp [h1, h0]
theorem trim_ev {C : List S41} (g : Good C) (O : List Int) (fr : Nat) : ∀ n : Nat, fr + n ≤ C.length →
    Ev (fun k => span_Trim.f k C O (fr : Int) ((fr + n : Nat) : Int)) ((fr + trm C fr n : Nat) : Int) := by
  have hg := g.len
  intro n
  induction n with
  | zero =>
    intro h
    exact Ev.step (fun k => by unfold span_Trim.f span_Trim.l0; rfl) (ev_neg (by omega) (Ev.now _))
  | succ n ih =>
    intro h
    refine Ev.step (fun k => by unfold span_Trim.f span_Trim.l0; rfl) (ev_pos (by omega) ?_)
    rw [show wrap64 (((fr + (n + 1) : Nat) : Int) - 1) = ((fr + n : Nat) : Int) from by rw [w64 (by omega) (by omega)]; omega]
    refine ev_pos (by omega) (ev_pos (by omega) (ev_bind' empty_eq ?_))
    rw [rd_cl]
    by_cases he : emp (cl C (fr + n)) = true
    · rw [show trm C fr (n + 1) = trm C fr n from if_pos he]
      exact ev_pos he (ih (by omega))
    · rw [show trm C fr (n + 1) = n + 1 from if_neg he]
      exact ev_neg he (Ev.now _)
theorem cells_ev {C : List S41} (g : Good C) (O : List Int) (fr n : Nat) (e : Int) {t : Int} (ht : 1 ≤ t ∧ t ≤ 64) (h : fr + n ≤ C.length) :
    Ev (fun k => span_Cells.f k C O (fr : Int) ((fr + n : Nat) : Int) e t) (cel C fr n e t) := by
  have hg := g.len
  have ht' := trm_le C fr n
  have hc := col_bd g fr ht (trm C fr n)
  unfold span_Cells.f
  refine ev_bind (trim_ev g O fr n h) (ev_bind (columns_ev g O fr (trm C fr n) ht (by omega)) ?_)
  rw [List.length_map, List.length_range, show wrap64 (((trm C fr n + 1 : Nat) : Int) - 1) = (trm C fr n : Int) from by rw [w64 (by omega) (by omega)]; omega, rd_map_range _ (by omega)]
  refine ev_pos (by omega) (ev_pos (by omega) ?_)
  unfold cel
  by_cases he : e = 3
  · refine ev_pos he (ev_ret ?_)
    rw [if_pos he, w64 (by omega) (by omega)]
  · refine ev_neg he (ev_ret ?_)
    rw [if_neg he]
    omega
theorem gaps_l0 {C : List S41} (g : Good C) (fr n : Nat) (h : fr + n ≤ C.length) : ∀ (d i : Nat), i + d = n →
    Ev (fun k => span_Gaps.l0 k (spc C fr i : Int) ((C.take (fr + n)).drop fr) (n : Int) (i : Int)) (spc C fr n : Int) := by
  have hg := g.len
  intro d
  induction d with
  | zero =>
    intro i hi
    refine Ev.step (fun k => by unfold span_Gaps.l0; rfl) (ev_neg (by omega) (ev_ret ?_))
    rw [show i = n from by omega]
  | succ d ih =>
    intro i hi
    have hs := spc_le C fr i
    refine Ev.step (fun k => by unfold span_Gaps.l0; rfl) (ev_pos (by omega) (ev_pos (by omega) (ev_pos (by simp; omega) ?_)))
    have hr : rd_T41 ((C.take (fr + n)).drop fr) (i : Int) = cl C (fr + i) := by
      rw [rd_cl]
      unfold cl
      rw [List.getD_eq_getElem?_getD, List.getD_eq_getElem?_getD, List.getElem?_drop, List.getElem?_take_of_lt (by omega)]
    rw [hr, show wrap64 ((i : Int) + 1) = ((i + 1 : Nat) : Int) from by rw [w64 (by omega) (by omega)]; rfl]
    by_cases hk : (cl C (fr + i)).f3 = 1
    · refine ev_pos hk ?_
      rw [show wrap64 ((spc C fr i : Int) + 1) = ((spc C fr (i + 1) : Nat) : Int) from by rw [w64 (by omega) (by omega)]; simp [spc, hk]]
      exact ih (i + 1) (by omega)
    · refine ev_neg hk ?_
      rw [show spc C fr i = spc C fr (i + 1) from by simp [spc, hk]]
      exact ih (i + 1) (by omega)
theorem gaps_ev {C : List S41} (g : Good C) (O : List Int) (fr n : Nat) (h : fr + n ≤ C.length) :
    Ev (fun k => span_Gaps.f k C O (fr : Int) ((fr + n : Nat) : Int)) (gap C fr n : Int) := by
  have ht := trm_le C fr n
  unfold span_Gaps.f
  refine ev_bind (trim_ev g O fr n h) (ev_pos (by omega) (ev_pos (by omega) (ev_pos (by omega) (ev_let ?_))))
  rw [Int.toNat_natCast, Int.toNat_natCast, show (((C.take (fr + trm C fr n)).drop fr).length : Int) = (trm C fr n : Int) from by simp; omega]
  exact gaps_l0 g fr (trm C fr n) (by omega) (trm C fr n) 0 (by omega)
end Go.Proofs.Ytbnoeeflpegcoaa.Pure
