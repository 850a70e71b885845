/- The document's functions of layer 13 come to the same plain functions. -/
import Derived.Test.YtbnoeeflpegcoaaSpan1
import Derived.Test.YtbnoeeflpegcoaaF17
import Derived.Test.YtbnoeeflpegcoaaF18
import Derived.Test.YtbnoeeflpegcoaaF26
import Derived.Test.YtbnoeeflpegcoaaF27
import Derived.Test.YtbnoeeflpegcoaaF28
import Derived.Test.YtbnoeeflpegcoaaF29
import Derived.Test.YtbnoeeflpegcoaaF30
namespace Go.Proofs.Ytbnoeeflpegcoaa.Pure
open Go.RowKit Go.Proofs.YtbnoeeflpegcoaaW.PrintWords Go.Proofs.Ytbnoeeflpegcoaa.F

theorem rnext_l0 {x t : Int} (hx : 0 ≤ x ∧ x ≤ 1000000) (ht : 1 ≤ t ∧ t ≤ 64) : ∀ (d : Nat) (y : Int), x < y → y + d = x + t - x % t →
    Ev (fun k => stanzaref13_Next.l0 k t y) (x + t - x % t) := by
  have h1 := Int.emod_nonneg x (by omega : t ≠ 0)
  have h2 := Int.emod_lt_of_pos x (by omega : 0 < t)
  have h3 := Int.mul_ediv_add_emod x t
  intro d
  induction d with
  | zero =>
    intro y hy hd
    refine Ev.step (fun k => by unfold stanzaref13_Next.l0; rfl) (ev_neg (by omega) (ev_pos ?_ (ev_ret (by omega))))
    rw [tmodp (by omega), show y = t * (x / t + 1) from by rw [Int.mul_add, Int.mul_one]; omega]
    exact Int.mul_emod_right _ _
  | succ d ih =>
    intro y hy hd
    refine Ev.step (fun k => by unfold stanzaref13_Next.l0; rfl) (ev_neg (by omega) (ev_neg ?_ ?_))
    · rw [tmodp (by omega), show y = (y - t * (x / t)) + t * (x / t) from by omega, Int.add_mul_emod_self_left, Int.emod_eq_of_lt (by omega) (by omega)]
      omega
    · rw [w64 (by omega) (by omega)]
      exact ih (y + 1) (by omega) (by omega)
theorem rnext_ev {c : S41} {x t : Int} (h0 : 0 ≤ c.f2 ∧ c.f2 ≤ 2) (hx : 0 ≤ x ∧ x ≤ 1000000) (ht : 1 ≤ t ∧ t ≤ 64) : Ev (fun k => stanzaref13_Next.f k c.f0 c.f1 c.f2 c.f3 x t) (nxt c x t) := by
  unfold stanzaref13_Next.f nxt
  have h1 := Int.emod_nonneg x (by omega : t ≠ 0)
  have h2 := Int.emod_lt_of_pos x (by omega : 0 < t)
  by_cases h : c.f3 = 2
  · rw [if_pos h]
    refine ev_pos h ?_
    rw [w64 (by omega) (by omega)]
    exact rnext_l0 hx ht (t - x % t - 1).toNat (x + 1) (by omega) (by omega)
  · rw [if_neg h]
    refine ev_neg h (ev_ret ?_)
    rw [w64 (by omega) (by omega)]
theorem rcolumns_l0 {C : List S41} (g : Good C) (O : List Int) (fr n : Nat) {t : Int} (ht : 1 ≤ t ∧ t ≤ 64) (h : fr + n ≤ C.length) : ∀ (d i : Nat), i + d = n →
    Ev (fun k => stanzaref13_Columns.l0 k ((fr + n : Nat) : Int) t (col C fr t i) ((List.range (i + 1)).map (col C fr t)) ((fr + i : Nat) : Int) C O) ((List.range (n + 1)).map (col C fr t)) := by
  have hg := g.len
  intro d
  induction d with
  | zero =>
    intro i hi
    refine Ev.step (fun k => by unfold stanzaref13_Columns.l0; rfl) (ev_neg (by omega) (ev_ret ?_))
    rw [show i = n from by omega]
  | succ d ih =>
    intro i hi
    have hc := col_bd g fr ht i
    refine Ev.step (fun k => by unfold stanzaref13_Columns.l0; rfl) (ev_pos (by omega) (ev_pos (by omega) (ev_pos (by omega) ?_)))
    rw [rd_cl]
    refine ev_bind (rnext_ev (g.cells (fr + i)) (by omega) ht) ?_
    refine ev_pos (by rw [List.length_map, List.length_range]; omega) ?_
    rw [show wrap64 (((fr + i : Nat) : Int) + 1) = ((fr + (i + 1) : Nat) : Int) from by rw [w64 (by omega) (by omega)]; omega, show nxt (cl C (fr + i)) (col C fr t i) t = col C fr t (i + 1) from rfl, map_range_snoc]
    exact ih (i + 1) (by omega)
theorem rcolumns_ev {C : List S41} (g : Good C) (O : List Int) (fr n : Nat) {t : Int} (ht : 1 ≤ t ∧ t ≤ 64) (h : fr + n ≤ C.length) :
    Ev (fun k => stanzaref13_Columns.f k C O (fr : Int) ((fr + n : Nat) : Int) t) ((List.range (n + 1)).map (col C fr t)) :=
  rcolumns_l0 g O fr n ht h n 0 (by omega)
theorem rempty_eq {c : S41} : stanzaref13_Empty.f c.f0 c.f1 c.f2 c.f3 = some (emp c) := by
  unfold stanzaref13_Empty.f emp
  by_cases h1 : c.f3 = 1
  · rw [if_pos h1, h1]; rfl
  · rw [if_neg h1]
    by_cases h0 : c.f3 = 0
    · rw [if_pos h0, h0]; rfl
    · rw [if_neg h0]
      simp [h1, h0]
theorem rtrim_l0 {C : List S41} (g : Good C) (O : List Int) (fr n : Nat) (h : fr + n ≤ C.length) : ∀ (d i : Nat), i + d = n →
    Ev (fun k => stanzaref13_Trim.l0 k ((fr + n : Nat) : Int) ((fr + trm C fr i : Nat) : Int) ((fr + i : Nat) : Int) C O) ((fr + trm C fr n : Nat) : Int) := by
  have hg := g.len
  intro d
  induction d with
  | zero =>
    intro i hi
    refine Ev.step (fun k => by unfold stanzaref13_Trim.l0; rfl) (ev_neg (by omega) (ev_ret ?_))
    rw [show i = n from by omega]
  | succ d ih =>
    intro i hi
    refine Ev.step (fun k => by unfold stanzaref13_Trim.l0; rfl) (ev_pos (by omega) (ev_pos (by omega) (ev_pos (by omega) (ev_bind' rempty_eq ?_))))
    rw [rd_cl, show wrap64 (((fr + i : Nat) : Int) + 1) = ((fr + (i + 1) : Nat) : Int) from by rw [w64 (by omega) (by omega)]; omega]
    by_cases he : emp (cl C (fr + i)) = true
    · refine ev_pos he ?_
      rw [show trm C fr i = trm C fr (i + 1) from (if_pos he).symm]
      exact ih (i + 1) (by omega)
    · refine ev_neg he ?_
      have := ih (i + 1) (by omega)
      rwa [show trm C fr (i + 1) = i + 1 from if_neg he] at this
theorem rtrim_ev {C : List S41} (g : Good C) (O : List Int) (fr n : Nat) (h : fr + n ≤ C.length) :
    Ev (fun k => stanzaref13_Trim.f k C O (fr : Int) ((fr + n : Nat) : Int)) ((fr + trm C fr n : Nat) : Int) := by
  unfold stanzaref13_Trim.f
  exact rtrim_l0 g O fr n h n 0 (by omega)
theorem rcells_ev {C : List S41} (g : Good C) (O : List Int) (fr n : Nat) (e : Int) {t : Int} (ht : 1 ≤ t ∧ t ≤ 64) (h : fr + n ≤ C.length) :
    Ev (fun k => stanzaref13_Cells.f k C O (fr : Int) ((fr + n : Nat) : Int) e t) (cel C fr n e t) := by
  have hg := g.len
  have ht' := trm_le C fr n
  have hc := col_bd g fr ht (trm C fr n)
  unfold stanzaref13_Cells.f
  refine ev_bind (rtrim_ev g O fr n h) (ev_bind (rcolumns_ev g O fr (trm C fr n) ht (by omega)) ?_)
  rw [List.length_map, List.length_range, show wrap64 (((trm C fr n + 1 : Nat) : Int) - 1) = (trm C fr n : Int) from by rw [w64 (by omega) (by omega)]; omega, rd_map_range _ (by omega)]
  refine ev_pos (by omega) (ev_pos (by omega) ?_)
  unfold cel
  by_cases he : e = 3
  · refine ev_pos he (ev_ret ?_)
    rw [if_pos he, w64 (by omega) (by omega)]
  · refine ev_neg he (ev_ret ?_)
    rw [if_neg he]
    omega
theorem rgaps_l0 {C : List S41} (g : Good C) (O : List Int) (fr n : Nat) (h : fr + n ≤ C.length) : ∀ (d i : Nat), i + d = trm C fr n →
    Ev (fun k => stanzaref13_Gaps.l0 k (fr : Int) ((fr + n : Nat) : Int) (spc C fr i : Int) ((fr + i : Nat) : Int) C O) (gap C fr n : Int) := by
  have hg := g.len
  have ht := trm_le C fr n
  intro d
  induction d with
  | zero =>
    intro i hi
    refine Ev.step (fun k => by unfold stanzaref13_Gaps.l0; rfl) (ev_bind (rtrim_ev g O fr n h) ?_)
    refine ev_neg (by omega) (ev_ret ?_)
    rw [show i = trm C fr n from by omega]
    rfl
  | succ d ih =>
    intro i hi
    have hs := spc_le C fr i
    refine Ev.step (fun k => by unfold stanzaref13_Gaps.l0; rfl) (ev_bind (rtrim_ev g O fr n h) ?_)
    refine ev_pos (by omega) (ev_pos (by omega) (ev_pos (by omega) ?_))
    rw [rd_cl, show wrap64 (((fr + i : Nat) : Int) + 1) = ((fr + (i + 1) : Nat) : Int) from by rw [w64 (by omega) (by omega)]; omega]
    by_cases hk : (cl C (fr + i)).f3 = 1
    · refine ev_pos hk ?_
      rw [show wrap64 ((spc C fr i : Int) + 1) = ((spc C fr (i + 1) : Nat) : Int) from by rw [w64 (by omega) (by omega)]; simp [spc, hk]]
      exact ih (i + 1) (by omega)
    · refine ev_neg hk ?_
      rw [show spc C fr i = spc C fr (i + 1) from by simp [spc, hk]]
      exact ih (i + 1) (by omega)
theorem rgaps_ev {C : List S41} (g : Good C) (O : List Int) (fr n : Nat) (h : fr + n ≤ C.length) :
    Ev (fun k => stanzaref13_Gaps.f k C O (fr : Int) ((fr + n : Nat) : Int)) (gap C fr n : Int) := by
  unfold stanzaref13_Gaps.f
  exact rgaps_l0 g O fr n h (trm C fr n) 0 (by omega)
theorem rline_ev {C : List S41} (g : Good C) (O : List Int) (fr n : Nat) (e : Int) {t : Int} (ht : 1 ≤ t ∧ t ≤ 64) (h : fr + n ≤ C.length) :
    Ev (fun k => stanzaref13_Line.f k C O (fr : Int) ((fr + n : Nat) : Int) e t) ((fr : Int), ((fr + n : Nat) : Int), cel C fr n e t, e) := by
  unfold stanzaref13_Line.f
  exact ev_bind (rcells_ev g O fr n e ht h) (Ev.now _)
end Go.Proofs.Ytbnoeeflpegcoaa.Pure
