/- Printed by a program of this session (wip/fork): Lean functions that answer as the Go functions do, and the proofs that the Go code comes to them; no condition but those that each statement tells. -/
import Derived.Test.YtbnoeeflpegcoaaF0
import Derived.Test.YtbnoeeflpegcoaaF12
namespace Go.Proofs.Ytbnoeeflpegcoaa.F
open Go.RowKit Go.Proofs.YtbnoeeflpegcoaaW.PrintWords Go.Proofs.YtbnoeeflpegcoaaW.PrintLast Go.Proofs.YtbnoeeflpegcoaaW.PrintMore
attribute [local go_sem] max2_int min2_int max_two min_two max_three min_three max_four min_four   -- for this text's walks alone
set_option linter.unusedVariables false
set_option linter.unusedSimpArgs false

/-! ### span_Trim: function 26 -/
def span_Trim.l0 : Nat → Int → Int → List (S41) → List Int → Option (Int)
  | 0, _, _, _, _ => none
  | k + 1, x1, x2, x184000, x184001 => if x2 > x1 then (if 0 ≤ (wrap64 (x2 - 1)) then (if (wrap64 (x2 - 1)) < (x184000.length : Int) then ((span_empty.f ((rd_T41 x184000 (wrap64 (x2 - 1))).f0) ((rd_T41 x184000 (wrap64 (x2 - 1))).f1) ((rd_T41 x184000 (wrap64 (x2 - 1))).f2) ((rd_T41 x184000 (wrap64 (x2 - 1))).f3)).bind fun t185 => (if t185 = true then (span_Trim.l0 k x1 (wrap64 (x2 - 1)) x184000 x184001) else (some x2))) else (none)) else (none)) else (some x2)
def span_Trim.f (k : Nat) (l0_0 : List (S41)) (l0_1 : List Int) (a1 : Int) (a2 : Int) : Option (Int) := span_Trim.l0 k a1 a2 l0_0 l0_1
theorem span_Trim.mono_l : ∀ k, (∀ y0 y1 y2 y3, LeO (span_Trim.l0 k y0 y1 y2 y3) (span_Trim.l0 (k + 1) y0 y1 y2 y3))
  | 0 => fun _ _ _ _ r h => by simp [span_Trim.l0] at h
  | k + 1 => by
    have ih0 := span_Trim.mono_l k
    · intro y0 y1 y2 y3
      unfold span_Trim.l0
      repeat' first
      | (with_reducible exact ih0 _ _ _ _)
      | (with_reducible exact LeO.refl _)
      | (with_reducible exact LeO.none _)
      | (with_reducible refine LeO.ite ?_ ?_)
      | (with_reducible refine LeO.bind ?_ (fun _ => ?_))
      | exact ih0 _ _ _ _
      | exact LeO.none _
      | refine LeO.ite ?_ ?_
      | refine LeO.bind ?_ (fun _ => ?_)
theorem span_Trim.mono : ∀ a0 a1 a2 a3 k, LeO (span_Trim.f k a0 a1 a2 a3) (span_Trim.f (k + 1) a0 a1 a2 a3) := by
  intro a0 a1 a2 a3 k
  have ih0 := span_Trim.mono_l k
  unfold span_Trim.f
  repeat' first
      | (with_reducible exact ih0 _ _ _ _)
      | (with_reducible exact LeO.refl _)
      | (with_reducible exact LeO.none _)
      | (with_reducible refine LeO.ite ?_ ?_)
      | (with_reducible refine LeO.bind ?_ (fun _ => ?_))
      | exact ih0 _ _ _ _
      | exact LeO.none _
      | refine LeO.ite ?_ ?_
      | refine LeO.bind ?_ (fun _ => ?_)
set_option maxHeartbeats 8000000 in
set_option maxRecDepth 100000 in
theorem span_Trim.calls (k : Nat) (A0_0 : Option Addr) (c0_0 : Nat) (l0_0 : List (S41)) (A0_1 : Option Addr) (c0_1 : Nat) (l0_1 : List Int) (a1 : Int) (a2 : Int) (r : Int) (w : World) (hr0_0 : Kd.C k41 w A0_0 l0_0.length l0_0) (hc0_0 : l0_0.length ≤ c0_0) (hr0_1 : Kd.C (Kd.int .u8) w A0_1 l0_1.length l0_1) (hc0_1 : l0_1.length ≤ c0_1) (h : span_Trim.f k l0_0 l0_1 a1 a2 = some r) :
    Calls Try.prog 26 #[.agg #[.slice A0_0 l0_0.length c0_0, .slice A0_1 l0_1.length c0_1], .int .i64 a1, .int .i64 a2] w fun e w' => e = .returned (.int .i64 r) ∧ Below w.heap.size w w' := by
  have hu35 := Try.underlying35
  have hu41 := Try.underlying41
  have HR0_0 := Aside0.mk hr0_0
  have HC0_0 := Aside0.mk hc0_0
  clear hr0_0 hc0_0
  have HR0_1 := Aside0.mk hr0_1
  have HC0_1 := Aside0.mk hc0_1
  clear hr0_1 hc0_1
  have HB := Aside0.mk (Below.refl w.heap.size w)
  have H : (span_Trim.l0 k a1 a2 l0_0 l0_1) = some r := h
  clear h
  have H' := Aside0.mk H
  clear H
  go_enter Try.func26, Try.ntmps26
  go_wp2_with (first | ((with_reducible refine gate_dst (N := 3) rfl ?_); refine box_event ?hg (N := 3) ?hd (cs := #[.slice A0_0 l0_0.length c0_0, .slice A0_1 l0_1.length c0_1]) (t := 35) ?hr ?_; (case hd => rfl); (case hg => rfl); (case hr => first | (go_simp; done) | (go_simp; rfl)); intro gb183 hg w4 hbox hb; have n0_ := Aside0.mk (below_step (by repeat (first | (with_reducible first | exact HB.out | apply below_alloc | apply pw_below_drewN | apply below_drew1) | exact HB.out)) hb); have n1_ := Aside0.mk (hbox); have n2_ := Aside0.mk ((by rw [hg]; exact (below_size (by repeat (first | (with_reducible first | exact HB.out | apply below_alloc | apply pw_below_drewN | apply below_drew1) | exact HB.out))) : w.heap.size ≤ gb183)); have n3_ := Aside0.mk ((by rw [hg]; exact (below_size (by repeat (first | (with_reducible first | exact HB.out | apply below_alloc | apply pw_below_drewN | apply below_drew1) | exact HB.out))) : w.heap.size ≤ gb183)); clear HB; have HB := n0_; have BK183 := n1_; have GW183 := n2_; have GE183 := n3_; clear n0_ n1_ n2_ n3_; clear hb hbox hg))
  go_loopg [2] k (fun kq v2 w' => ∃ (x2_1 : Int), v2 = .int .i64 x2_1 ∧ Aside0 (span_Trim.l0 kq a1 x2_1 l0_0 l0_1 = some r) ∧ Aside0 (kq ≤ k) ∧ Aside0 (w'.heap[gb183]? = some (.cells #[(.slice A0_0 l0_0.length c0_0), (.slice A0_1 l0_1.length c0_1)] 35 (0, 0))) ∧ Aside0 (Below w.heap.size w w'))
  case atStart => exact ⟨(a2), (by first | rfl | (simp; done) | (simp [*]; done)), H', ⟨Nat.le_refl _⟩, ⟨by (with_reducible repeat (first | refine blk_drewN ?_ _ | refine blk_drew ?_ | refine blk_alloc ?_ _)); exact BK183.out⟩, ⟨by repeat (first | (with_reducible first | exact HB.out | apply below_alloc | apply pw_below_drewN | apply below_drew1 | refine below_set ?_ GE183.out) | exact HB.out)⟩⟩
  case round =>
    clear H'
    try clear c2
    try clear p2
    obtain ⟨x2_1, rfl, HA, HK1, BK183, HB⟩ := hrel
    cases gk with
    | zero => exact absurd HA.out (by simp [span_Trim.l0])
    | succ k1 =>
      have H := HA.out
      clear HA
      simp only [span_Trim.l0] at H
      by_cases c5 : x2_1 > a1
      · rw [if_pos c5] at H
        have c5b0 : decide (a1 < x2_1) = true := decide_eq_true c5
        clear c5
        obtain ⟨ji6, hji6⟩ : ∃ j_ : Int, (wrap64 (x2_1 - 1)) = j_ := ⟨_, rfl⟩
        replace H : (if 0 ≤ (ji6) then (if (ji6) < (l0_0.length : Int) then ((span_empty.f ((rd_T41 l0_0 (ji6)).f0) ((rd_T41 l0_0 (ji6)).f1) ((rd_T41 l0_0 (ji6)).f2) ((rd_T41 l0_0 (ji6)).f3)).bind fun t185 => (if t185 = true then (span_Trim.l0 k1 a1 ji6 l0_0 l0_1) else (some x2_1))) else (none)) else (none)) = some r := by first | (rw [hji6] at H; exact H) | (simp only [hji6] at H ⊢; exact H)
        have hji6w : (IntKind.i64.wrap (x2_1 - 1)) = ji6 := (i64_w _).trans hji6
        by_cases c7 : 0 ≤ (ji6)
        · rw [if_pos c7] at H
          have c7b0 : decide (0 ≤ (ji6)) = true := decide_eq_true c7
          clear c7
          by_cases c8 : (ji6) < (l0_0.length : Int)
          · rw [if_pos c8] at H
            have c8b0 : decide ((ji6) < (l0_0.length : Int)) = true := decide_eq_true c8
            clear c8
            replace H := Option.bind_eq_some_iff.mp H
            obtain ⟨t185, A90, H⟩ := H
            replace H : (if t185 = true then (span_Trim.l0 k1 a1 ji6 l0_0 l0_1) else (some x2_1)) = some r := H
            have A9 := Aside0.mk A90
            clear A90
            by_cases c10 : t185 = true
            · subst c10
              have H1 : (span_Trim.l0 k1 a1 ji6 l0_0 l0_1) = some r := by rw [if_pos rfl] at H; exact H
              clear H
              have H := H1
              clear H1
              have H' := Aside0.mk H
              clear H
              have hcz11_0 : wr.cell? ⟨gb183, 0, none⟩ = some (.slice A0_0 l0_0.length c0_0) := (blk_cell BK183.out 0).trans rfl
              have hcz11_1 : wr.cell? ⟨gb183, 1, none⟩ = some (.slice A0_1 l0_1.length c0_1) := (blk_cell BK183.out 1).trans rfl
              have hfz11_0 := blk_frozen BK183.out 0
              have hfz11_1 := blk_frozen BK183.out 1
              have p184 : 0 ≤ ((ji6) : Int) := of_decide_eq_true (by first | (with_reducible assumption) | assumption)
              have q184 : (ji6) < (l0_0.length : Int) := of_decide_eq_true (by first | (with_reducible assumption) | assumption)
              obtain ⟨ad184, e184, hx184_0, hx184_1, hx184_2, hx184_3⟩ := at_T41 HR0_0.out (ji6) p184 q184
              cases e184
              replace hx184_0 := (HB.out.cell (World.block_lt_of_cell? w _ hx184_0)).trans hx184_0
              replace hx184_1 := (HB.out.cell (World.block_lt_of_cell? w _ hx184_1)).trans hx184_1
              replace hx184_2 := (HB.out.cell (World.block_lt_of_cell? w _ hx184_2)).trans hx184_2
              replace hx184_3 := (HB.out.cell (World.block_lt_of_cell? w _ hx184_3)).trans hx184_3
              replace p184 := eq_true p184
              replace q184 := eq_true q184
              go_wp2_with (first | (go_at_call 39; (with_reducible refine (span_empty.calls ((rd_T41 l0_0 (ji6)).f0) ((rd_T41 l0_0 (ji6)).f1) ((rd_T41 l0_0 (ji6)).f2) ((rd_T41 l0_0 (ji6)).f3) true _ A9.out).mono ?_); rintro e w12 ⟨rfl, hb⟩; have n0_ := Aside0.mk (blk_below (g := gb183) (o := .cells #[.slice (some ad184) l0_0.length c0_0, .slice A0_1 l0_1.length c0_1] 35 (0, 0)) (by (with_reducible repeat (first | refine blk_drewN ?_ _ | refine blk_drew ?_ | refine blk_alloc ?_ _)); exact BK183.out) hb); have n1_ := Aside0.mk (below_step (by repeat (first | (with_reducible first | exact HB.out | apply below_alloc | apply pw_below_drewN | apply below_drew1 | refine below_set ?_ GE183.out) | exact HB.out)) hb); clear BK183; clear HB; have BK183 := n0_; have HB := n1_; clear n0_ n1_; (try clear hb); (try clear hb2); (try clear hk); (try clear hi)))
              go_roundg k1
              case measure => have := HK1.out; omega
              case rel => exact ⟨(ji6), (by first | rfl | (simp; done) | (simp only [← hji6] <;> (first | rfl | simp)) | (simp [*]; done)), H', ⟨by have := HK1.out; omega⟩, ⟨by (with_reducible repeat (first | refine blk_drewN ?_ _ | refine blk_drew ?_ | refine blk_alloc ?_ _)); exact BK183.out⟩, ⟨by repeat (first | (with_reducible first | exact HB.out | apply below_alloc | apply pw_below_drewN | apply below_drew1 | refine below_set ?_ GE183.out) | exact HB.out)⟩⟩
            · replace c10 := Bool.eq_false_iff.mpr c10
              subst c10
              have H1 : (some x2_1) = some r := by rw [if_neg (show ¬ (false = true) by decide)] at H; exact H
              clear H
              have H := H1
              clear H1
              obtain rfl := Option.some.inj H
              have hcz13_0 : wr.cell? ⟨gb183, 0, none⟩ = some (.slice A0_0 l0_0.length c0_0) := (blk_cell BK183.out 0).trans rfl
              have hcz13_1 : wr.cell? ⟨gb183, 1, none⟩ = some (.slice A0_1 l0_1.length c0_1) := (blk_cell BK183.out 1).trans rfl
              have hfz13_0 := blk_frozen BK183.out 0
              have hfz13_1 := blk_frozen BK183.out 1
              have p184 : 0 ≤ ((ji6) : Int) := of_decide_eq_true (by first | (with_reducible assumption) | assumption)
              have q184 : (ji6) < (l0_0.length : Int) := of_decide_eq_true (by first | (with_reducible assumption) | assumption)
              obtain ⟨ad184, e184, hx184_0, hx184_1, hx184_2, hx184_3⟩ := at_T41 HR0_0.out (ji6) p184 q184
              cases e184
              replace hx184_0 := (HB.out.cell (World.block_lt_of_cell? w _ hx184_0)).trans hx184_0
              replace hx184_1 := (HB.out.cell (World.block_lt_of_cell? w _ hx184_1)).trans hx184_1
              replace hx184_2 := (HB.out.cell (World.block_lt_of_cell? w _ hx184_2)).trans hx184_2
              replace hx184_3 := (HB.out.cell (World.block_lt_of_cell? w _ hx184_3)).trans hx184_3
              replace p184 := eq_true p184
              replace q184 := eq_true q184
              go_wp2_with (first | (go_at_call 39; (with_reducible refine (span_empty.calls ((rd_T41 l0_0 (ji6)).f0) ((rd_T41 l0_0 (ji6)).f1) ((rd_T41 l0_0 (ji6)).f2) ((rd_T41 l0_0 (ji6)).f3) false _ A9.out).mono ?_); rintro e w14 ⟨rfl, hb⟩; have n0_ := Aside0.mk (blk_below (g := gb183) (o := .cells #[.slice (some ad184) l0_0.length c0_0, .slice A0_1 l0_1.length c0_1] 35 (0, 0)) (by (with_reducible repeat (first | refine blk_drewN ?_ _ | refine blk_drew ?_ | refine blk_alloc ?_ _)); exact BK183.out) hb); have n1_ := Aside0.mk (below_step (by repeat (first | (with_reducible first | exact HB.out | apply below_alloc | apply pw_below_drewN | apply below_drew1 | refine below_set ?_ GE183.out) | exact HB.out)) hb); clear BK183; clear HB; have BK183 := n0_; have HB := n1_; clear n0_ n1_; (try clear hb); (try clear hb2); (try clear hk); (try clear hi)))
              go_ret
              exact ⟨by first | rfl | (simp [errW_none, errW_some] <;> rfl) | (simp only [← hji6]; first | rfl | (simp [errW_none, errW_some] <;> rfl)) | (simp [*, errW_none, errW_some] <;> rfl), by repeat (first | (with_reducible first | exact HB.out | apply below_alloc | apply pw_below_drewN | apply below_drew1 | refine below_set ?_ GE183.out) | exact HB.out)⟩
          · rw [if_neg c8] at H
            exact absurd H (by simp)
        · rw [if_neg c7] at H
          exact absurd H (by simp)
      · rw [if_neg c5] at H
        have c5b0 : decide (a1 < x2_1) = false := decide_eq_false c5
        clear c5
        obtain rfl := Option.some.inj H
        go_wp2
        go_ret
        exact ⟨by first | rfl | (simp [errW_none, errW_some] <;> rfl) | (simp [*, errW_none, errW_some] <;> rfl), by repeat (first | (with_reducible first | exact HB.out | apply below_alloc | apply pw_below_drewN | apply below_drew1 | refine below_set ?_ GE183.out) | exact HB.out)⟩

end Go.Proofs.Ytbnoeeflpegcoaa.F
