/- SpanTabs: behind a tab a column is a multiple of its width, greater than the column ahead, by no more than the width. -/
import Derived.Test.YtbnoeeflpegcoaaSpan3
import Derived.Test.YtbnoeeflpegcoaaF22
namespace Go.Proofs.Ytbnoeeflpegcoaa.Pure
open Go.RowKit Go.Proofs.YtbnoeeflpegcoaaW.PrintWords Go.Proofs.Ytbnoeeflpegcoaa.F
def tb (cs : List Int) (at_ : Int) (i : Nat) : S50 := ⟨cs.getD i 0, if ((i : Int) + at_) % 3 = 0 then 2 else 0, 0, 0⟩
theorem tabs_l1 {C : List S41} (g : Good C) {t : Int} (ht : 1 ≤ t ∧ t ≤ 64) : ∀ (d i : Nat), i + d = C.length →
    Ev (fun k => stanzalaw13_SpanTabs.l1 k t ((List.range (C.length + 1)).map (col C 0 t)) C (C.length : Int) (i : Int)) true := by
  have hg := g.len
  intro d
  induction d with
  | zero =>
    intro i hi
    exact Ev.step (fun k => by unfold stanzalaw13_SpanTabs.l1; rfl) (ev_neg (by omega) (Ev.now _))
  | succ d ih =>
    intro i hi
    have b1 := col_bd g 0 ht i
    have b2 := nxt_bd (g.cells (0 + i)) b1.1 ht
    have e : col C 0 t (i + 1) = nxt (cl C (0 + i)) (col C 0 t i) t := rfl
    rw [Nat.zero_add] at b2 e
    have h1 := Int.emod_nonneg (col C 0 t i) (by omega : t ≠ 0)
    have h2 := Int.emod_lt_of_pos (col C 0 t i) (by omega : 0 < t)
    have hn := ih (i + 1) (by omega)
    refine Ev.step (fun k => by unfold stanzalaw13_SpanTabs.l1; rfl) (ev_pos (by omega) (ev_pos (by omega) (ev_pos (by omega) ?_)))
    rw [show wrap64 ((i : Int) + 1) = ((i + 1 : Nat) : Int) from by rw [w64 (by omega) (by omega)]; rfl, rd_map_range _ (by omega), rd_map_range _ (by omega), rd_cl, w64 (x := col C 0 t (i + 1) - col C 0 t i) (by omega) (by omega)]
    refine ev_pos (by omega) (ev_pos (by simp; omega) (ev_pos (by simp; omega) ?_))
    have hj : Ev (fun k => stanzalaw13_SpanTabs.j3 k t ((List.range (C.length + 1)).map (col C 0 t)) C (C.length : Int) (i : Int) false) true := by
      refine Ev.step (fun k => by unfold stanzalaw13_SpanTabs.j3; rfl) (ev_neg (by decide) ?_)
      rw [show wrap64 ((i : Int) + 1) = ((i + 1 : Nat) : Int) from by rw [w64 (by omega) (by omega)]; rfl]
      exact hn
    by_cases hk : (cl C i).f3 = 2
    · have e2 : col C 0 t (i + 1) = col C 0 t i + t - col C 0 t i % t := by rw [e]; unfold nxt; rw [if_pos hk]
      refine ev_pos hk (ev_neg (by omega) (ev_pos ?_ (ev_neg (by omega) (ev_neg (by omega) (ev_neg (by omega) hj)))))
      rw [tmodp (by omega), e2]
      have h3 := Int.mul_ediv_add_emod (col C 0 t i) t
      rw [show col C 0 t i + t - col C 0 t i % t = t * (col C 0 t i / t + 1) from by rw [Int.mul_add, Int.mul_one]; omega]
      exact Int.mul_emod_right _ _
    · refine ev_neg hk ?_
      by_cases h0 : (cl C i).f3 = 0
      · refine ev_pos h0 ?_
        have e3 : col C 0 t (i + 1) - col C 0 t i = (cl C i).f2 := by rw [e]; unfold nxt; rw [if_neg hk]; omega
        rw [e3, show ((cl C i).f2 != (cl C i).f2) = false from by simp]
        exact hj
      · exact ev_neg h0 hj
theorem tabs_l0 {cs : List Int} (hl : cs.length ≤ 300) (hs : ∀ c ∈ cs, 0 ≤ c ∧ c ≤ 255) {at_ t : Int} (ha : 0 ≤ at_ ∧ at_ ≤ 255) (ht : 1 ≤ t ∧ t ≤ 64) : ∀ (d i : Nat), i + d = cs.length →
    Ev (fun k => stanzalaw13_SpanTabs.l0 k at_ t ((List.range i).map (tb cs at_)) cs (cs.length : Int) (i : Int)) true := by
  intro d
  induction d with
  | zero =>
    intro i hi
    have hlen : ((List.range i).map (tb cs at_)).length = i := by simp
    have hsm : ∀ b ∈ (List.range i).map (tb cs at_), Small b := by
      intro b hb
      obtain ⟨j, hj, rfl⟩ := List.mem_map.1 hb
      have hj := List.mem_range.1 hj
      refine ⟨?_, ?_, ⟨Int.le_refl _, by unfold tb; simp only; omega⟩, ⟨Int.le_refl _, by unfold tb; simp only; omega⟩⟩
      · refine hs _ ?_
        unfold tb
        simp only [List.getD_eq_getElem?_getD, List.getElem?_eq_getElem (show j < cs.length from by omega), Option.getD_some]
        exact List.getElem_mem _
      · unfold tb
        simp only
        split <;> decide
    generalize (List.range i).map (tb cs at_) = L at *
    have g : Good (CL L) := good_CL (by omega)
    have hg := g.len
    have c0 := columns_ev g (OP L) 0 (CL L).length ht (by omega)
    rw [Nat.zero_add] at c0
    refine Ev.step (fun k => by unfold stanzalaw13_SpanTabs.l0; rfl) (ev_neg (by omega) (ev_bind (para_ev (by omega) hsm) (ev_bind c0 (ev_pos ?_ (tabs_l1 g ht (CL L).length 0 (by omega))))))
    rw [w64 (x := ((CL L).length : Int) + 1) (by omega) (by omega)]
    simp
  | succ d ih =>
    intro i hi
    refine Ev.step (fun k => by unfold stanzalaw13_SpanTabs.l0; rfl) (ev_pos (by omega) (ev_pos (by omega) (ev_pos (by omega) ?_)))
    rw [w64 (x := at_) (by omega) (by omega), w64 (x := (i : Int) + at_) (by omega) (by omega), tmodp (by omega), rd_nat]
    by_cases hk : ((i : Int) + at_) % 3 = 0
    · refine ev_pos hk (Ev.step (fun k => by unfold stanzalaw13_SpanTabs.j1; rfl) (ev_pos (by simp; omega) ?_))
      rw [show (⟨cs.getD i 0, 2, 0, 0⟩ : S50) = tb cs at_ i from by unfold tb; rw [if_pos hk], map_range_snoc, show wrap64 ((i : Int) + 1) = ((i + 1 : Nat) : Int) from by rw [w64 (by omega) (by omega)]; rfl]
      exact ih (i + 1) (by omega)
    · refine ev_neg hk (Ev.step (fun k => by unfold stanzalaw13_SpanTabs.j1; rfl) (ev_pos (by simp; omega) ?_))
      rw [show (⟨cs.getD i 0, 0, 0, 0⟩ : S50) = tb cs at_ i from by unfold tb; rw [if_neg hk], map_range_snoc, show wrap64 ((i : Int) + 1) = ((i + 1 : Nat) : Int) from by rw [w64 (by omega) (by omega)]; rfl]
      exact ih (i + 1) (by omega)
theorem SpanTabs : stanzalaw13_SpanTabs.Pure := by
  intro cs a b hl ha hb
  have ha := wfu8.1 ha
  have hb := wfu8.1 hb
  refine Ev.rounds ?_
  unfold stanzalaw13_SpanTabs.f
  refine ev_bind awake13 (ev_pos rfl ?_)
  by_cases hlen : (cs.length : Int) > 300
  · exact ev_pos hlen (Ev.now _)
  refine ev_neg hlen ?_
  rw [tmodp ha.1, w64 (x := a % 64) (by omega) (by omega), w64 (x := 1 + a % 64) (by omega) (by omega)]
  exact tabs_l0 (by omega) (fun c hc => wfu8.1 (hl.2 c hc)) hb (by omega) cs.length 0 (by omega)
end Go.Proofs.Ytbnoeeflpegcoaa.Pure
