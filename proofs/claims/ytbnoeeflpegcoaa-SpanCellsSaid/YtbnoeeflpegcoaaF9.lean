/- Printed by a program of this session (wip/fork): Lean functions that answer as the Go functions do, and the proofs that the Go code comes to them; no condition but those that each statement tells. -/
import Derived.Test.YtbnoeeflpegcoaaF0
namespace Go.Proofs.Ytbnoeeflpegcoaa.F
open Go.RowKit Go.Proofs.YtbnoeeflpegcoaaW.PrintWords Go.Proofs.YtbnoeeflpegcoaaW.PrintLast Go.Proofs.YtbnoeeflpegcoaaW.PrintMore
attribute [local go_sem] max2_int min2_int max_two min_two max_three min_three max_four min_four   -- for this text's walks alone
set_option linter.unusedVariables false
set_option linter.unusedSimpArgs false

/-! ### stanzahand03_Para: function 19 -/
mutual
def stanzahand03_Para.j1 : Nat → List (S50) → List (S41) → Option ((List (S41)) × List Int)
  | 0, _, _ => none
  | k + 1, x0, x155000 => stanzahand03_Para.l1 k x0 0 x155000 ([] : List Int)
def stanzahand03_Para.l1 : Nat → List (S50) → Int → List (S41) → List Int → Option ((List (S41)) × List Int)
  | 0, _, _, _, _ => none
  | k + 1, x0, x8, x155000, x155001 => if x8 < (x155000.length : Int) then (if x8 > 0 then (if 0 ≤ (wrap64 (x8 - 1)) then (if (wrap64 (x8 - 1)) < (x0.length : Int) then (if x155001.length < 140737488355328 then (stanzahand03_Para.l1 k x0 (wrap64 (x8 + 1)) x155000 (x155001 ++ [Int.tmod ((rd_T50 x0 (wrap64 (x8 - 1))).f3) 4])) else (none)) else (none)) else (none)) else (if x155001.length < 140737488355328 then (stanzahand03_Para.l1 k x0 (wrap64 (x8 + 1)) x155000 (x155001 ++ [0])) else (none))) else (if x155001.length < 140737488355328 then (some (x155000, (x155001 ++ [2]))) else (none))
def stanzahand03_Para.l0 : Nat → List (S50) → Int → Int → List (S41) → Option ((List (S41)) × List Int)
  | 0, _, _, _, _ => none
  | k + 1, x0, x4, x5, x155000 => if x5 < (x0.length : Int) then (if x4 < 4000 then (if 0 ≤ x5 then (if x155000.length < 4398046511104 then (stanzahand03_Para.l0 k x0 (wrap64 (x4 + (wrap64 (1 + (wrap64 (Int.tmod ((rd_T50 x0 x5).f2) 4)))))) (wrap64 (x5 + 1)) (x155000 ++ [(⟨x4, wrap64 (1 + (wrap64 (Int.tmod ((rd_T50 x0 x5).f2) 4))), wrap64 (Int.tmod ((rd_T50 x0 x5).f0) 3), Int.tmod ((rd_T50 x0 x5).f1) 3⟩ : S41)])) else (none)) else (none)) else (stanzahand03_Para.j1 k x0 x155000)) else (stanzahand03_Para.j1 k x0 x155000)
end
def stanzahand03_Para.f (k : Nat) (l0 : List (S50)) : Option ((List (S41)) × List Int) := stanzahand03_Para.l0 k l0 0 0 ([] : List (S41))
theorem stanzahand03_Para.mono_l : ∀ k, (∀ y0 y1, LeO (stanzahand03_Para.j1 k y0 y1) (stanzahand03_Para.j1 (k + 1) y0 y1)) ∧ (∀ y0 y1 y2 y3, LeO (stanzahand03_Para.l1 k y0 y1 y2 y3) (stanzahand03_Para.l1 (k + 1) y0 y1 y2 y3)) ∧ (∀ y0 y1 y2 y3, LeO (stanzahand03_Para.l0 k y0 y1 y2 y3) (stanzahand03_Para.l0 (k + 1) y0 y1 y2 y3))
  | 0 => ⟨fun _ _ r h => by simp [stanzahand03_Para.j1] at h, fun _ _ _ _ r h => by simp [stanzahand03_Para.l1] at h, fun _ _ _ _ r h => by simp [stanzahand03_Para.l0] at h⟩
  | k + 1 => by
    obtain ⟨ih0, ih1, ih2⟩ := stanzahand03_Para.mono_l k
    refine ⟨?_, ?_, ?_⟩
    · intro y0 y1
      unfold stanzahand03_Para.j1
      repeat' first
      | (with_reducible exact ih0 _ _)
      | (with_reducible exact ih1 _ _ _ _)
      | (with_reducible exact ih2 _ _ _ _)
      | (with_reducible exact LeO.refl _)
      | (with_reducible exact LeO.none _)
      | (with_reducible refine LeO.ite ?_ ?_)
      | (with_reducible refine LeO.bind ?_ (fun _ => ?_))
      | exact ih0 _ _
      | exact ih1 _ _ _ _
      | exact ih2 _ _ _ _
      | exact LeO.none _
      | refine LeO.ite ?_ ?_
      | refine LeO.bind ?_ (fun _ => ?_)
    · intro y0 y1 y2 y3
      unfold stanzahand03_Para.l1
      repeat' first
      | (with_reducible exact ih0 _ _)
      | (with_reducible exact ih1 _ _ _ _)
      | (with_reducible exact ih2 _ _ _ _)
      | (with_reducible exact LeO.refl _)
      | (with_reducible exact LeO.none _)
      | (with_reducible refine LeO.ite ?_ ?_)
      | (with_reducible refine LeO.bind ?_ (fun _ => ?_))
      | exact ih0 _ _
      | exact ih1 _ _ _ _
      | exact ih2 _ _ _ _
      | exact LeO.none _
      | refine LeO.ite ?_ ?_
      | refine LeO.bind ?_ (fun _ => ?_)
    · intro y0 y1 y2 y3
      unfold stanzahand03_Para.l0
      repeat' first
      | (with_reducible exact ih0 _ _)
      | (with_reducible exact ih1 _ _ _ _)
      | (with_reducible exact ih2 _ _ _ _)
      | (with_reducible exact LeO.refl _)
      | (with_reducible exact LeO.none _)
      | (with_reducible refine LeO.ite ?_ ?_)
      | (with_reducible refine LeO.bind ?_ (fun _ => ?_))
      | exact ih0 _ _
      | exact ih1 _ _ _ _
      | exact ih2 _ _ _ _
      | exact LeO.none _
      | refine LeO.ite ?_ ?_
      | refine LeO.bind ?_ (fun _ => ?_)
theorem stanzahand03_Para.mono : ∀ a0 k, LeO (stanzahand03_Para.f k a0) (stanzahand03_Para.f (k + 1) a0) := by
  intro a0 k
  obtain ⟨ih0, ih1, ih2⟩ := stanzahand03_Para.mono_l k
  unfold stanzahand03_Para.f
  repeat' first
      | (with_reducible exact ih0 _ _)
      | (with_reducible exact ih1 _ _ _ _)
      | (with_reducible exact ih2 _ _ _ _)
      | (with_reducible exact LeO.refl _)
      | (with_reducible exact LeO.none _)
      | (with_reducible refine LeO.ite ?_ ?_)
      | (with_reducible refine LeO.bind ?_ (fun _ => ?_))
      | exact ih0 _ _
      | exact ih1 _ _ _ _
      | exact ih2 _ _ _ _
      | exact LeO.none _
      | refine LeO.ite ?_ ?_
      | refine LeO.bind ?_ (fun _ => ?_)
set_option maxHeartbeats 8000000 in
set_option maxRecDepth 100000 in
theorem stanzahand03_Para.calls (k : Nat) (A0 : Option Addr) (c0 : Nat) (l0 : List (S50)) (r1 : List (S41)) (r2 : List Int) (w : World) (hr0 : Kd.C k50 w A0 l0.length l0) (hc0 : l0.length ≤ c0) (h : stanzahand03_Para.f k l0 = some (r1, r2)) :
    Calls Try.prog 19 #[.slice A0 l0.length c0] w fun e w' => ∃ v0_ v1_ : Value, e = .returned (.agg #[v0_, v1_]) ∧ Kd.R k41 41 w' w.heap.size (fun _ => True) v0_ r1 ∧ Kd.R (Kd.int .u8) 46 w' w.heap.size (fun _ => True) v1_ r2 ∧ Below w.heap.size w w' := by
  have hu35 := Try.underlying35
  have hu50 := Try.underlying50
  have hu41 := Try.underlying41
  have HR0 := Aside0.mk hr0
  have HC0 := Aside0.mk hc0
  clear hr0 hc0
  have HB := Aside0.mk (Below.refl w.heap.size w)
  have H : (stanzahand03_Para.l0 k l0 0 0 ([] : List (S41))) = some (r1, r2) := h
  clear h
  have HC2 := Aside0.mk H
  clear H
  go_enter Try.func19, Try.ntmps19
  go_upto_block 0 with (first | ((with_reducible refine gate_dst (N := 2) rfl ?_); refine box_event ?hg (N := 2) ?hd (cs := #[.slice none 0 0, .slice none 0 0]) (t := 35) ?hr ?_; (case hd => rfl); (case hg => rfl); (case hr => first | (go_simp; done) | (go_simp; rfl)); intro gb153 hg w3 hbox hb; have n0_ := Aside0.mk (below_step (by repeat (first | (with_reducible first | exact HB.out | apply below_alloc | apply pw_below_drewN | apply below_drew1) | exact HB.out)) hb); have n1_ := Aside0.mk (hbox); have n2_ := Aside0.mk ((by rw [hg]; exact (below_size (by repeat (first | (with_reducible first | exact HB.out | apply below_alloc | apply pw_below_drewN | apply below_drew1) | exact HB.out))) : w.heap.size ≤ gb153)); have n3_ := Aside0.mk ((by rw [hg]; exact (below_size (by repeat (first | (with_reducible first | exact HB.out | apply below_alloc | apply pw_below_drewN | apply below_drew1) | exact HB.out))) : w.heap.size ≤ gb153)); clear HB; have HB := n0_; have BK153 := n1_; have GW153 := n2_; have GE153 := n3_; clear n0_ n1_ n2_ n3_; clear hb hbox hg) | ((with_reducible refine gate_dst (N := 3) rfl ?_); refine box_event ?hg (N := 3) ?hd (cs := #[.slice none 0 0, .slice none 0 0]) (t := 35) ?hr ?_; (case hd => rfl); (case hg => rfl); (case hr => first | (go_simp; done) | (go_simp; rfl)); intro gb154 hg w4 hbox hb; have n0_ := Aside0.mk (blk_below (g := gb153) (o := .cells #[.slice none 0 0, .slice none 0 0] 35 (0, 0)) (by (with_reducible repeat (first | refine blk_drewN ?_ _ | refine blk_drew ?_ | refine blk_alloc ?_ _)); exact BK153.out) hb); have n1_ := Aside0.mk (below_step (by repeat (first | (with_reducible first | exact HB.out | apply below_alloc | apply pw_below_drewN | apply below_drew1 | refine below_set ?_ GE153.out) | exact HB.out)) hb); have n2_ := Aside0.mk (hbox); have n3_ := Aside0.mk ((by rw [hg]; exact (below_size (by repeat (first | (with_reducible first | exact HB.out | apply below_alloc | apply pw_below_drewN | apply below_drew1 | refine below_set ?_ GE153.out) | exact HB.out))) : w.heap.size ≤ gb154)); have n4_ := Aside0.mk ((by rw [hg]; exact (below_size (by repeat (first | (with_reducible first | exact HB.out | apply below_alloc | apply pw_below_drewN | apply below_drew1 | refine below_set ?_ GE153.out) | exact HB.out))) : w.heap.size ≤ gb154)); have n5_ := Aside0.mk ((by rw [hg]; exact Nat.ne_of_lt (blk_lt (g := gb153) (o := .cells #[.slice none 0 0, .slice none 0 0] 35 (0, 0)) (by (with_reducible repeat (first | refine blk_drewN ?_ _ | refine blk_drew ?_ | refine blk_alloc ?_ _)); exact BK153.out)) : gb153 ≠ gb154)); have n6_ := Aside0.mk ((by rw [hg]; exact Nat.ne_of_gt (blk_lt (g := gb153) (o := .cells #[.slice none 0 0, .slice none 0 0] 35 (0, 0)) (by (with_reducible repeat (first | refine blk_drewN ?_ _ | refine blk_drew ?_ | refine blk_alloc ?_ _)); exact BK153.out)) : gb154 ≠ gb153)); clear BK153; clear HB; have BK153 := n0_; have HB := n1_; have BK154 := n2_; have GW154 := n3_; have GE154 := n4_; have NB153_154 := n5_; have NB154_153 := n6_; clear n0_ n1_ n2_ n3_ n4_ n5_ n6_; clear hb hbox hg; have hnb5 := NB154_153.out; have hnc5 := NB153_154.out; have hcz6_0 : w4.cell? ⟨gb154, 0, none⟩ = some (.slice none 0 0) := (blk_cell BK154.out 0).trans rfl; have hcz6_1 : w4.cell? ⟨gb154, 1, none⟩ = some (.slice none 0 0) := (blk_cell BK154.out 1).trans rfl; have hfz6_0 := blk_frozen BK154.out 0; have hfz6_1 := blk_frozen BK154.out 1) | ((with_reducible refine gate_store (t := 35) (p := 3) rfl ?_); refine store_event (t := 35) (p := 3) (v := ?vo_w7) (w1 := ((w4.setCell ⟨gb154, 0, none⟩ (.slice none 0 0)).setCell ⟨gb154, 1, none⟩ (.slice none 0 0))) ?hg ?ho ?hn ?hr ?_; (case ho => rfl); (case hg => rfl); (case hn => rfl); (case hr => first | (go_simp; done) | (go_simp; rfl)); intro w7 hw; have n0_ : Aside0 (w7.heap[gb153]? = some (.cells #[.slice none 0 0, .slice none 0 0] 35 (0, 0))) := ⟨(by rw [hw]; exact (by (with_reducible repeat (first | refine blk_drewN ?_ _ | refine blk_drew ?_ | refine blk_alloc ?_ _)); refine blk_far ?_ NB153_154.out _; (with_reducible repeat (first | refine blk_drewN ?_ _ | refine blk_drew ?_ | refine blk_alloc ?_ _)); refine blk_far ?_ NB153_154.out _; (with_reducible repeat (first | refine blk_drewN ?_ _ | refine blk_drew ?_ | refine blk_alloc ?_ _)); exact BK153.out))⟩; have n1_ : Aside0 (w7.heap[gb154]? = some (.cells #[.slice none 0 0, .slice none 0 0] 35 (0, 0))) := ⟨(by rw [hw]; exact (by (with_reducible repeat (first | refine blk_drewN ?_ _ | refine blk_drew ?_ | refine blk_alloc ?_ _)); refine blk_put (cs := #[.slice none 0 0, .slice none 0 0]) ?_ 1 _ rfl; (with_reducible repeat (first | refine blk_drewN ?_ _ | refine blk_drew ?_ | refine blk_alloc ?_ _)); refine blk_put (cs := #[.slice none 0 0, .slice none 0 0]) ?_ 0 _ rfl; (with_reducible repeat (first | refine blk_drewN ?_ _ | refine blk_drew ?_ | refine blk_alloc ?_ _)); exact BK154.out))⟩; have n2_ : Aside0 (Below w.heap.size w w7) := ⟨(by rw [hw]; exact (by repeat (first | (with_reducible first | exact HB.out | apply below_alloc | apply pw_below_drewN | apply below_drew1 | refine below_set ?_ GE153.out | refine below_set ?_ GE154.out) | exact HB.out)))⟩; clear hw; clear BK153; clear BK154; clear HB; have BK153 := n0_; have BK154 := n1_; have HB := n2_; clear n0_ n1_ n2_))
  (try simp only [Act.put, List.setIfInBounds_toArray, List.set_cons_zero, List.set_cons_succ])
  go_cut [] (fun wc => ∃ (kq : Nat) (x155000_1 : List (S41)) (u155000 : Value), Aside0 (stanzahand03_Para.j1 kq l0 x155000_1 = some (r1, r2)) ∧ Aside0 (kq ≤ k) ∧ Aside0 (Kd.R k41 41 wc w.heap.size (fun _ => True) u155000 x155000_1) ∧ Aside0 (wc.heap[gb153]? = some (.cells #[(.slice none 0 0), (.slice none 0 0)] 35 (0, 0))) ∧ Aside0 (wc.heap[gb154]? = some (.cells #[u155000, (.slice none 0 0)] 35 (0, 0))) ∧ Aside0 (Below w.heap.size w wc))
  case first =>
    have H := HC2.out
    clear HC2
    have H' := Aside0.mk H
    clear H
    go_wp2
    go_loopg [4, 5] k (fun kq v4 v5 w' => ∃ (x4_1 : Int) (x5_1 : Int) (x155000_1 : List (S41)) (u155000 : Value), v4 = .int .i64 x4_1 ∧ v5 = .int .i64 x5_1 ∧ Aside0 (stanzahand03_Para.l0 kq l0 x4_1 x5_1 x155000_1 = some (r1, r2)) ∧ Aside0 (kq ≤ k) ∧ Aside0 (Kd.R k41 41 w' w.heap.size (fun _ => True) u155000 x155000_1) ∧ Aside0 (w'.heap[gb153]? = some (.cells #[(.slice none 0 0), (.slice none 0 0)] 35 (0, 0))) ∧ Aside0 (w'.heap[gb154]? = some (.cells #[u155000, (.slice none 0 0)] 35 (0, 0))) ∧ Aside0 (Below w.heap.size w w'))
    case atStart => exact ⟨(0), (0), (([] : List (S41))), (.slice none 0 0), (by first | rfl | (simp; done) | (simp [*]; done)), (by first | rfl | (simp; done) | (simp [*]; done)), H', ⟨Nat.le_refl _⟩, ⟨by first | exact Kd.R_nil _ _ _ _ _ | exact Kd.N_nil _ _ _ _ _ | exact Kd.V_nil _ _ _ _ _ | exact Kd.Q_nil _ _ _ _ _ | exact Kd.S_nil _ _ _ _ _⟩, ⟨by (with_reducible repeat (first | refine blk_drewN ?_ _ | refine blk_drew ?_ | refine blk_alloc ?_ _)); exact BK153.out⟩, ⟨by (with_reducible repeat (first | refine blk_drewN ?_ _ | refine blk_drew ?_ | refine blk_alloc ?_ _)); exact BK154.out⟩, ⟨by repeat (first | (with_reducible first | exact HB.out | apply below_alloc | apply pw_below_drewN | apply below_drew1 | refine below_set ?_ GE153.out | refine below_set ?_ GE154.out) | exact HB.out)⟩⟩
    case round =>
      clear H'
      try clear c1
      try clear p2
      try clear c5
      try clear hcz6_0
      try clear hcz6_1
      try clear hfz6_0
      try clear hfz6_1
      obtain ⟨x4_1, x5_1, x155000_1, u155000, rfl, rfl, HA, HK1, HO_155000, BK153, BK154, HB⟩ := hrel
      cases gk with
      | zero => exact absurd HA.out (by simp [stanzahand03_Para.l0])
      | succ k1 =>
        have H := HA.out
        clear HA
        simp only [stanzahand03_Para.l0] at H
        by_cases c8 : x5_1 < (l0.length : Int)
        · rw [if_pos c8] at H
          have c8b0 : decide (x5_1 < (l0.length : Int)) = true := decide_eq_true c8
          clear c8
          (first | rw [c8b0] | (simp only [i64_w, i32_w]; rw [c8b0]) | skip)
          by_cases c9 : x4_1 < 4000
          · rw [if_pos c9] at H
            have c9b0 : decide (x4_1 < 4000) = true := decide_eq_true c9
            clear c9
            by_cases c10 : 0 ≤ x5_1
            · rw [if_pos c10] at H
              have c10b0 : decide (0 ≤ x5_1) = true := decide_eq_true c10
              clear c10
              by_cases c11 : x155000_1.length < 4398046511104
              · rw [if_pos c11] at H
                have LMc11 := Aside0.mk c11
                clear c11
                obtain ⟨y158, hy158⟩ : ∃ y_ : List (S41), y_ = (x155000_1 ++ [(⟨x4_1, wrap64 (1 + (wrap64 (Int.tmod ((rd_T50 l0 x5_1).f2) 4))), wrap64 (Int.tmod ((rd_T50 l0 x5_1).f0) 3), Int.tmod ((rd_T50 l0 x5_1).f1) 3⟩ : S41)]) := ⟨_, rfl⟩
                replace H : (stanzahand03_Para.l0 k1 l0 (wrap64 (x4_1 + (wrap64 (1 + (wrap64 (Int.tmod ((rd_T50 l0 x5_1).f2) 4)))))) (wrap64 (x5_1 + 1)) y158) = some (r1, r2) := by first | (rw [hy158]; with_reducible exact H) | (have H2_ := (Option.bind_some _ _).symm.trans H; rw [hy158]; with_reducible exact H2_) | (have H2_ := (Option.bind_some _ _).symm.trans H; with_reducible exact H2_) | with_reducible exact H | (rw [hy158]; exact H) | exact H
                have Ny158 := Aside0.mk hy158
                clear hy158
                have H' := Aside0.mk H
                clear H
                have p155 : 0 ≤ (x5_1 : Int) := of_decide_eq_true (by first | (with_reducible assumption) | assumption)
                have q155 : x5_1 < (l0.length : Int) := of_decide_eq_true (by first | (with_reducible assumption) | assumption)
                obtain ⟨ad155, e155, hx155_0, hx155_1, hx155_2, hx155_3⟩ := at_T50 HR0.out x5_1 p155 q155
                cases e155
                replace hx155_0 := (HB.out.cell (World.block_lt_of_cell? w _ hx155_0)).trans hx155_0
                replace hx155_1 := (HB.out.cell (World.block_lt_of_cell? w _ hx155_1)).trans hx155_1
                replace hx155_2 := (HB.out.cell (World.block_lt_of_cell? w _ hx155_2)).trans hx155_2
                replace hx155_3 := (HB.out.cell (World.block_lt_of_cell? w _ hx155_3)).trans hx155_3
                replace p155 := eq_true p155
                replace q155 := eq_true q155
                go_wp2_with (first | ((with_reducible refine gate_dst (N := 6) rfl ?_); refine box_event ?hg (N := 6) ?hd (cs := #[.int .u8 0, .int .u8 0, .int .u8 0, .int .u8 0]) (t := 50) ?hr ?_; (case hd => rfl); (case hg => rfl); (case hr => first | (go_simp; done) | (go_simp; rfl)); intro gb156 hg w12 hbox hb; have n0_ := Aside0.mk (Kd.R_below (by (with_reducible repeat (first | apply Kd.R_alloc | apply Kd.R_drewN | apply Kd.R_drew)); exact HO_155000.out) hb); have n1_ := Aside0.mk (blk_below (g := gb153) (o := .cells #[.slice none 0 0, .slice none 0 0] 35 (0, 0)) (by (with_reducible repeat (first | refine blk_drewN ?_ _ | refine blk_drew ?_ | refine blk_alloc ?_ _)); exact BK153.out) hb); have n2_ := Aside0.mk (blk_below (g := gb154) (o := .cells #[u155000, .slice none 0 0] 35 (0, 0)) (by (with_reducible repeat (first | refine blk_drewN ?_ _ | refine blk_drew ?_ | refine blk_alloc ?_ _)); exact BK154.out) hb); have n3_ := Aside0.mk (below_step (by repeat (first | (with_reducible first | exact HB.out | apply below_alloc | apply pw_below_drewN | apply below_drew1 | refine below_set ?_ GE153.out | refine below_set ?_ GE154.out) | exact HB.out)) hb); have n4_ := Aside0.mk (hbox); have n5_ := Aside0.mk ((by rw [hg]; exact (below_size (by repeat (first | (with_reducible first | exact HB.out | apply below_alloc | apply pw_below_drewN | apply below_drew1 | refine below_set ?_ GE153.out | refine below_set ?_ GE154.out) | exact HB.out))) : w.heap.size ≤ gb156)); have n6_ := Aside0.mk ((by rw [hg]; exact (below_size (by repeat (first | (with_reducible first | exact HB.out | apply below_alloc | apply pw_below_drewN | apply below_drew1 | refine below_set ?_ GE153.out | refine below_set ?_ GE154.out) | exact HB.out))) : w.heap.size ≤ gb156)); have n7_ := Aside0.mk ((by rw [hg]; exact Nat.ne_of_lt (blk_lt (g := gb153) (o := .cells #[.slice none 0 0, .slice none 0 0] 35 (0, 0)) (by (with_reducible repeat (first | refine blk_drewN ?_ _ | refine blk_drew ?_ | refine blk_alloc ?_ _)); exact BK153.out)) : gb153 ≠ gb156)); have n8_ := Aside0.mk ((by rw [hg]; exact Nat.ne_of_gt (blk_lt (g := gb153) (o := .cells #[.slice none 0 0, .slice none 0 0] 35 (0, 0)) (by (with_reducible repeat (first | refine blk_drewN ?_ _ | refine blk_drew ?_ | refine blk_alloc ?_ _)); exact BK153.out)) : gb156 ≠ gb153)); have n9_ := Aside0.mk ((by rw [hg]; exact Nat.ne_of_lt (blk_lt (g := gb154) (o := .cells #[u155000, .slice none 0 0] 35 (0, 0)) (by (with_reducible repeat (first | refine blk_drewN ?_ _ | refine blk_drew ?_ | refine blk_alloc ?_ _)); exact BK154.out)) : gb154 ≠ gb156)); have n10_ := Aside0.mk ((by rw [hg]; exact Nat.ne_of_gt (blk_lt (g := gb154) (o := .cells #[u155000, .slice none 0 0] 35 (0, 0)) (by (with_reducible repeat (first | refine blk_drewN ?_ _ | refine blk_drew ?_ | refine blk_alloc ?_ _)); exact BK154.out)) : gb156 ≠ gb154)); clear HO_155000; clear BK153; clear BK154; clear HB; have HO_155000 := n0_; have BK153 := n1_; have BK154 := n2_; have HB := n3_; have BK156 := n4_; have GW156 := n5_; have GE156 := n6_; have NB153_156 := n7_; have NB156_153 := n8_; have NB154_156 := n9_; have NB156_154 := n10_; clear n0_ n1_ n2_ n3_ n4_ n5_ n6_ n7_ n8_ n9_ n10_; clear hb hbox hg; have hnb13 := NB156_153.out; have hnc13 := NB153_156.out; have hnb14 := NB156_154.out; have hnc14 := NB154_156.out; have hcz15_0 : w12.cell? ⟨gb156, 0, none⟩ = some (.int .u8 0) := (blk_cell BK156.out 0).trans rfl; have hcz15_1 : w12.cell? ⟨gb156, 1, none⟩ = some (.int .u8 0) := (blk_cell BK156.out 1).trans rfl; have hcz15_2 : w12.cell? ⟨gb156, 2, none⟩ = some (.int .u8 0) := (blk_cell BK156.out 2).trans rfl; have hcz15_3 : w12.cell? ⟨gb156, 3, none⟩ = some (.int .u8 0) := (blk_cell BK156.out 3).trans rfl; have hfz15_0 := blk_frozen BK156.out 0; have hfz15_1 := blk_frozen BK156.out 1; have hfz15_2 := blk_frozen BK156.out 2; have hfz15_3 := blk_frozen BK156.out 3) | ((with_reducible refine gate_store (t := 50) (p := 6) rfl ?_); refine store_event (t := 50) (p := 6) (v := ?vo_w16) (w1 := ((((w12.setCell ⟨gb156, 0, none⟩ (.int .u8 ((rd_T50 l0 x5_1).f0))).setCell ⟨gb156, 1, none⟩ (.int .u8 ((rd_T50 l0 x5_1).f1))).setCell ⟨gb156, 2, none⟩ (.int .u8 ((rd_T50 l0 x5_1).f2))).setCell ⟨gb156, 3, none⟩ (.int .u8 ((rd_T50 l0 x5_1).f3)))) ?hg ?ho ?hn ?hr ?_; (case ho => rfl); (case hg => rfl); (case hn => rfl); (case hr => first | (go_simp; done) | (go_simp; rfl)); intro w16 hw; have n0_ : Aside0 (Kd.R k41 41 w16 w.heap.size (fun _ => True) u155000 x155000_1) := ⟨(by rw [hw]; exact (by (with_reducible repeat (first | apply Kd.R_alloc | apply Kd.R_drewN | apply Kd.R_drew)); exact Kd.R_mono (Kd.R_far (p := ⟨gb156, 3, none⟩) (Kd.R_far (p := ⟨gb156, 2, none⟩) (Kd.R_far (p := ⟨gb156, 1, none⟩) (Kd.R_far (p := ⟨gb156, 0, none⟩) (Kd.R_types HO_155000.out BK156.out (by decide)) (fun _ hk => hk.2) (.int .u8 ((rd_T50 l0 x5_1).f0))) (fun _ hk => hk.2) (.int .u8 ((rd_T50 l0 x5_1).f1))) (fun _ hk => hk.2) (.int .u8 ((rd_T50 l0 x5_1).f2))) (fun _ hk => hk.2) (.int .u8 ((rd_T50 l0 x5_1).f3))) (fun _ hk => trivial)))⟩; have n1_ : Aside0 (w16.heap[gb153]? = some (.cells #[.slice none 0 0, .slice none 0 0] 35 (0, 0))) := ⟨(by rw [hw]; exact (by (with_reducible repeat (first | refine blk_drewN ?_ _ | refine blk_drew ?_ | refine blk_alloc ?_ _)); refine blk_far ?_ NB153_156.out _; (with_reducible repeat (first | refine blk_drewN ?_ _ | refine blk_drew ?_ | refine blk_alloc ?_ _)); refine blk_far ?_ NB153_156.out _; (with_reducible repeat (first | refine blk_drewN ?_ _ | refine blk_drew ?_ | refine blk_alloc ?_ _)); refine blk_far ?_ NB153_156.out _; (with_reducible repeat (first | refine blk_drewN ?_ _ | refine blk_drew ?_ | refine blk_alloc ?_ _)); refine blk_far ?_ NB153_156.out _; (with_reducible repeat (first | refine blk_drewN ?_ _ | refine blk_drew ?_ | refine blk_alloc ?_ _)); exact BK153.out))⟩; have n2_ : Aside0 (w16.heap[gb154]? = some (.cells #[u155000, .slice none 0 0] 35 (0, 0))) := ⟨(by rw [hw]; exact (by (with_reducible repeat (first | refine blk_drewN ?_ _ | refine blk_drew ?_ | refine blk_alloc ?_ _)); refine blk_far ?_ NB154_156.out _; (with_reducible repeat (first | refine blk_drewN ?_ _ | refine blk_drew ?_ | refine blk_alloc ?_ _)); refine blk_far ?_ NB154_156.out _; (with_reducible repeat (first | refine blk_drewN ?_ _ | refine blk_drew ?_ | refine blk_alloc ?_ _)); refine blk_far ?_ NB154_156.out _; (with_reducible repeat (first | refine blk_drewN ?_ _ | refine blk_drew ?_ | refine blk_alloc ?_ _)); refine blk_far ?_ NB154_156.out _; (with_reducible repeat (first | refine blk_drewN ?_ _ | refine blk_drew ?_ | refine blk_alloc ?_ _)); exact BK154.out))⟩; have n3_ : Aside0 (w16.heap[gb156]? = some (.cells #[.int .u8 ((rd_T50 l0 x5_1).f0), .int .u8 ((rd_T50 l0 x5_1).f1), .int .u8 ((rd_T50 l0 x5_1).f2), .int .u8 ((rd_T50 l0 x5_1).f3)] 50 (0, 0))) := ⟨(by rw [hw]; exact (by (with_reducible repeat (first | refine blk_drewN ?_ _ | refine blk_drew ?_ | refine blk_alloc ?_ _)); refine blk_put (cs := #[.int .u8 ((rd_T50 l0 x5_1).f0), .int .u8 ((rd_T50 l0 x5_1).f1), .int .u8 ((rd_T50 l0 x5_1).f2), .int .u8 0]) ?_ 3 _ rfl; (with_reducible repeat (first | refine blk_drewN ?_ _ | refine blk_drew ?_ | refine blk_alloc ?_ _)); refine blk_put (cs := #[.int .u8 ((rd_T50 l0 x5_1).f0), .int .u8 ((rd_T50 l0 x5_1).f1), .int .u8 0, .int .u8 0]) ?_ 2 _ rfl; (with_reducible repeat (first | refine blk_drewN ?_ _ | refine blk_drew ?_ | refine blk_alloc ?_ _)); refine blk_put (cs := #[.int .u8 ((rd_T50 l0 x5_1).f0), .int .u8 0, .int .u8 0, .int .u8 0]) ?_ 1 _ rfl; (with_reducible repeat (first | refine blk_drewN ?_ _ | refine blk_drew ?_ | refine blk_alloc ?_ _)); refine blk_put (cs := #[.int .u8 0, .int .u8 0, .int .u8 0, .int .u8 0]) ?_ 0 _ rfl; (with_reducible repeat (first | refine blk_drewN ?_ _ | refine blk_drew ?_ | refine blk_alloc ?_ _)); exact BK156.out))⟩; have n4_ : Aside0 (Below w.heap.size w w16) := ⟨(by rw [hw]; exact (by repeat (first | (with_reducible first | exact HB.out | apply below_alloc | apply pw_below_drewN | apply below_drew1 | refine below_set ?_ GE153.out | refine below_set ?_ GE154.out | refine below_set ?_ GE156.out) | exact HB.out)))⟩; clear hw; clear HO_155000; clear BK153; clear BK154; clear BK156; clear HB; have HO_155000 := n0_; have BK153 := n1_; have BK154 := n2_; have BK156 := n3_; have HB := n4_; clear n0_ n1_ n2_ n3_ n4_; have hcz17_0 : w16.cell? ⟨gb156, 0, none⟩ = some (.int .u8 ((rd_T50 l0 x5_1).f0)) := (blk_cell BK156.out 0).trans rfl; have hcz17_1 : w16.cell? ⟨gb156, 1, none⟩ = some (.int .u8 ((rd_T50 l0 x5_1).f1)) := (blk_cell BK156.out 1).trans rfl; have hcz17_2 : w16.cell? ⟨gb156, 2, none⟩ = some (.int .u8 ((rd_T50 l0 x5_1).f2)) := (blk_cell BK156.out 2).trans rfl; have hcz17_3 : w16.cell? ⟨gb156, 3, none⟩ = some (.int .u8 ((rd_T50 l0 x5_1).f3)) := (blk_cell BK156.out 3).trans rfl; have hfz17_0 := blk_frozen BK156.out 0; have hfz17_1 := blk_frozen BK156.out 1; have hfz17_2 := blk_frozen BK156.out 2; have hfz17_3 := blk_frozen BK156.out 3) | ((with_reducible refine gate_dst (N := 7) rfl ?_); refine box_event ?hg (N := 7) ?hd (cs := #[.int .i64 0, .int .i64 0, .int .i64 0, .int .u8 0]) (t := 41) ?hr ?_; (case hd => rfl); (case hg => rfl); (case hr => first | (go_simp; done) | (go_simp; rfl)); intro gb157 hg w18 hbox hb; have n0_ := Aside0.mk (Kd.R_below (Kd.R_elderB (by (with_reducible repeat (first | apply Kd.R_alloc | apply Kd.R_drewN | apply Kd.R_drew)); exact HO_155000.out) gb157 (Nat.le_of_eq hg.symm)) hb); have n1_ := Aside0.mk (blk_below (g := gb153) (o := .cells #[.slice none 0 0, .slice none 0 0] 35 (0, 0)) (by (with_reducible repeat (first | refine blk_drewN ?_ _ | refine blk_drew ?_ | refine blk_alloc ?_ _)); exact BK153.out) hb); have n2_ := Aside0.mk (blk_below (g := gb154) (o := .cells #[u155000, .slice none 0 0] 35 (0, 0)) (by (with_reducible repeat (first | refine blk_drewN ?_ _ | refine blk_drew ?_ | refine blk_alloc ?_ _)); exact BK154.out) hb); have n3_ := Aside0.mk (blk_below (g := gb156) (o := .cells #[.int .u8 ((rd_T50 l0 x5_1).f0), .int .u8 ((rd_T50 l0 x5_1).f1), .int .u8 ((rd_T50 l0 x5_1).f2), .int .u8 ((rd_T50 l0 x5_1).f3)] 50 (0, 0)) (by (with_reducible repeat (first | refine blk_drewN ?_ _ | refine blk_drew ?_ | refine blk_alloc ?_ _)); exact BK156.out) hb); have n4_ := Aside0.mk (below_step (by repeat (first | (with_reducible first | exact HB.out | apply below_alloc | apply pw_below_drewN | apply below_drew1 | refine below_set ?_ GE153.out | refine below_set ?_ GE154.out | refine below_set ?_ GE156.out) | exact HB.out)) hb); have n5_ := Aside0.mk (hbox); have n6_ := Aside0.mk ((by rw [hg]; exact (below_size (by repeat (first | (with_reducible first | exact HB.out | apply below_alloc | apply pw_below_drewN | apply below_drew1 | refine below_set ?_ GE153.out | refine below_set ?_ GE154.out | refine below_set ?_ GE156.out) | exact HB.out))) : w.heap.size ≤ gb157)); have n7_ := Aside0.mk ((by rw [hg]; exact (below_size (by repeat (first | (with_reducible first | exact HB.out | apply below_alloc | apply pw_below_drewN | apply below_drew1 | refine below_set ?_ GE153.out | refine below_set ?_ GE154.out | refine below_set ?_ GE156.out) | exact HB.out))) : w.heap.size ≤ gb157)); have n8_ := Aside0.mk ((by rw [hg]; exact Nat.ne_of_lt (blk_lt (g := gb153) (o := .cells #[.slice none 0 0, .slice none 0 0] 35 (0, 0)) (by (with_reducible repeat (first | refine blk_drewN ?_ _ | refine blk_drew ?_ | refine blk_alloc ?_ _)); exact BK153.out)) : gb153 ≠ gb157)); have n9_ := Aside0.mk ((by rw [hg]; exact Nat.ne_of_gt (blk_lt (g := gb153) (o := .cells #[.slice none 0 0, .slice none 0 0] 35 (0, 0)) (by (with_reducible repeat (first | refine blk_drewN ?_ _ | refine blk_drew ?_ | refine blk_alloc ?_ _)); exact BK153.out)) : gb157 ≠ gb153)); have n10_ := Aside0.mk ((by rw [hg]; exact Nat.ne_of_lt (blk_lt (g := gb154) (o := .cells #[u155000, .slice none 0 0] 35 (0, 0)) (by (with_reducible repeat (first | refine blk_drewN ?_ _ | refine blk_drew ?_ | refine blk_alloc ?_ _)); exact BK154.out)) : gb154 ≠ gb157)); have n11_ := Aside0.mk ((by rw [hg]; exact Nat.ne_of_gt (blk_lt (g := gb154) (o := .cells #[u155000, .slice none 0 0] 35 (0, 0)) (by (with_reducible repeat (first | refine blk_drewN ?_ _ | refine blk_drew ?_ | refine blk_alloc ?_ _)); exact BK154.out)) : gb157 ≠ gb154)); have n12_ := Aside0.mk ((by rw [hg]; exact Nat.ne_of_lt (blk_lt (g := gb156) (o := .cells #[.int .u8 ((rd_T50 l0 x5_1).f0), .int .u8 ((rd_T50 l0 x5_1).f1), .int .u8 ((rd_T50 l0 x5_1).f2), .int .u8 ((rd_T50 l0 x5_1).f3)] 50 (0, 0)) (by (with_reducible repeat (first | refine blk_drewN ?_ _ | refine blk_drew ?_ | refine blk_alloc ?_ _)); exact BK156.out)) : gb156 ≠ gb157)); have n13_ := Aside0.mk ((by rw [hg]; exact Nat.ne_of_gt (blk_lt (g := gb156) (o := .cells #[.int .u8 ((rd_T50 l0 x5_1).f0), .int .u8 ((rd_T50 l0 x5_1).f1), .int .u8 ((rd_T50 l0 x5_1).f2), .int .u8 ((rd_T50 l0 x5_1).f3)] 50 (0, 0)) (by (with_reducible repeat (first | refine blk_drewN ?_ _ | refine blk_drew ?_ | refine blk_alloc ?_ _)); exact BK156.out)) : gb157 ≠ gb156)); clear HO_155000; clear BK153; clear BK154; clear BK156; clear HB; have HO_155000 := n0_; have BK153 := n1_; have BK154 := n2_; have BK156 := n3_; have HB := n4_; have BK157 := n5_; have GW157 := n6_; have GE157 := n7_; have NB153_157 := n8_; have NB157_153 := n9_; have NB154_157 := n10_; have NB157_154 := n11_; have NB156_157 := n12_; have NB157_156 := n13_; clear n0_ n1_ n2_ n3_ n4_ n5_ n6_ n7_ n8_ n9_ n10_ n11_ n12_ n13_; clear hb hbox hg; have hnb19 := NB157_153.out; have hnc19 := NB153_157.out; have hnb20 := NB157_154.out; have hnc20 := NB154_157.out; have hnb21 := NB157_156.out; have hnc21 := NB156_157.out; have hcz22_0 : w18.cell? ⟨gb157, 0, none⟩ = some (.int .i64 0) := (blk_cell BK157.out 0).trans rfl; have hcz22_1 : w18.cell? ⟨gb157, 1, none⟩ = some (.int .i64 0) := (blk_cell BK157.out 1).trans rfl; have hcz22_2 : w18.cell? ⟨gb157, 2, none⟩ = some (.int .i64 0) := (blk_cell BK157.out 2).trans rfl; have hcz22_3 : w18.cell? ⟨gb157, 3, none⟩ = some (.int .u8 0) := (blk_cell BK157.out 3).trans rfl; have hfz22_0 := blk_frozen BK157.out 0; have hfz22_1 := blk_frozen BK157.out 1; have hfz22_2 := blk_frozen BK157.out 2; have hfz22_3 := blk_frozen BK157.out 3) | ((with_reducible refine gate_store (t := 41) (p := 7) rfl ?_); refine store_event (t := 41) (p := 7) (v := ?vo_w23) (w1 := ((((w18.setCell ⟨gb157, 0, none⟩ (.int .i64 x4_1)).setCell ⟨gb157, 1, none⟩ (.int .i64 (wrap64 (1 + (wrap64 (Int.tmod ((rd_T50 l0 x5_1).f2) 4)))))).setCell ⟨gb157, 2, none⟩ (.int .i64 (wrap64 (Int.tmod ((rd_T50 l0 x5_1).f0) 3)))).setCell ⟨gb157, 3, none⟩ (.int .u8 (Int.tmod ((rd_T50 l0 x5_1).f1) 3)))) ?hg ?ho ?hn ?hr ?_; (case ho => rfl); (case hg => rfl); (case hn => rfl); (case hr => first | (go_simp; done) | (go_simp; rfl)); intro w23 hw; have n0_ : Aside0 (Kd.R k41 41 w23 w.heap.size (fun k_ => k_ ≠ gb157) u155000 x155000_1) := ⟨(by rw [hw]; exact (by (with_reducible repeat (first | apply Kd.R_alloc | apply Kd.R_drewN | apply Kd.R_drew)); exact Kd.R_mono (Kd.R_far (p := ⟨gb157, 3, none⟩) (Kd.R_far (p := ⟨gb157, 2, none⟩) (Kd.R_far (p := ⟨gb157, 1, none⟩) (Kd.R_far (p := ⟨gb157, 0, none⟩) (Kd.R_mono HO_155000.out (fun k_ hk => (⟨hk, hk.2⟩ : _ ∧ k_ ≠ gb157))) (fun _ hk => hk.2) (.int .i64 x4_1)) (fun _ hk => hk.2) (.int .i64 (wrap64 (1 + (wrap64 (Int.tmod ((rd_T50 l0 x5_1).f2) 4)))))) (fun _ hk => hk.2) (.int .i64 (wrap64 (Int.tmod ((rd_T50 l0 x5_1).f0) 3)))) (fun _ hk => hk.2) (.int .u8 (Int.tmod ((rd_T50 l0 x5_1).f1) 3))) (fun _ hk => hk.1.2)))⟩; have n1_ : Aside0 (w23.heap[gb153]? = some (.cells #[.slice none 0 0, .slice none 0 0] 35 (0, 0))) := ⟨(by rw [hw]; exact (by (with_reducible repeat (first | refine blk_drewN ?_ _ | refine blk_drew ?_ | refine blk_alloc ?_ _)); refine blk_far ?_ NB153_157.out _; (with_reducible repeat (first | refine blk_drewN ?_ _ | refine blk_drew ?_ | refine blk_alloc ?_ _)); refine blk_far ?_ NB153_157.out _; (with_reducible repeat (first | refine blk_drewN ?_ _ | refine blk_drew ?_ | refine blk_alloc ?_ _)); refine blk_far ?_ NB153_157.out _; (with_reducible repeat (first | refine blk_drewN ?_ _ | refine blk_drew ?_ | refine blk_alloc ?_ _)); refine blk_far ?_ NB153_157.out _; (with_reducible repeat (first | refine blk_drewN ?_ _ | refine blk_drew ?_ | refine blk_alloc ?_ _)); exact BK153.out))⟩; have n2_ : Aside0 (w23.heap[gb154]? = some (.cells #[u155000, .slice none 0 0] 35 (0, 0))) := ⟨(by rw [hw]; exact (by (with_reducible repeat (first | refine blk_drewN ?_ _ | refine blk_drew ?_ | refine blk_alloc ?_ _)); refine blk_far ?_ NB154_157.out _; (with_reducible repeat (first | refine blk_drewN ?_ _ | refine blk_drew ?_ | refine blk_alloc ?_ _)); refine blk_far ?_ NB154_157.out _; (with_reducible repeat (first | refine blk_drewN ?_ _ | refine blk_drew ?_ | refine blk_alloc ?_ _)); refine blk_far ?_ NB154_157.out _; (with_reducible repeat (first | refine blk_drewN ?_ _ | refine blk_drew ?_ | refine blk_alloc ?_ _)); refine blk_far ?_ NB154_157.out _; (with_reducible repeat (first | refine blk_drewN ?_ _ | refine blk_drew ?_ | refine blk_alloc ?_ _)); exact BK154.out))⟩; have n3_ : Aside0 (w23.heap[gb156]? = some (.cells #[.int .u8 ((rd_T50 l0 x5_1).f0), .int .u8 ((rd_T50 l0 x5_1).f1), .int .u8 ((rd_T50 l0 x5_1).f2), .int .u8 ((rd_T50 l0 x5_1).f3)] 50 (0, 0))) := ⟨(by rw [hw]; exact (by (with_reducible repeat (first | refine blk_drewN ?_ _ | refine blk_drew ?_ | refine blk_alloc ?_ _)); refine blk_far ?_ NB156_157.out _; (with_reducible repeat (first | refine blk_drewN ?_ _ | refine blk_drew ?_ | refine blk_alloc ?_ _)); refine blk_far ?_ NB156_157.out _; (with_reducible repeat (first | refine blk_drewN ?_ _ | refine blk_drew ?_ | refine blk_alloc ?_ _)); refine blk_far ?_ NB156_157.out _; (with_reducible repeat (first | refine blk_drewN ?_ _ | refine blk_drew ?_ | refine blk_alloc ?_ _)); refine blk_far ?_ NB156_157.out _; (with_reducible repeat (first | refine blk_drewN ?_ _ | refine blk_drew ?_ | refine blk_alloc ?_ _)); exact BK156.out))⟩; have n4_ : Aside0 (w23.heap[gb157]? = some (.cells #[.int .i64 x4_1, .int .i64 (wrap64 (1 + (wrap64 (Int.tmod ((rd_T50 l0 x5_1).f2) 4)))), .int .i64 (wrap64 (Int.tmod ((rd_T50 l0 x5_1).f0) 3)), .int .u8 (Int.tmod ((rd_T50 l0 x5_1).f1) 3)] 41 (0, 0))) := ⟨(by rw [hw]; exact (by (with_reducible repeat (first | refine blk_drewN ?_ _ | refine blk_drew ?_ | refine blk_alloc ?_ _)); refine blk_put (cs := #[.int .i64 x4_1, .int .i64 (wrap64 (1 + (wrap64 (Int.tmod ((rd_T50 l0 x5_1).f2) 4)))), .int .i64 (wrap64 (Int.tmod ((rd_T50 l0 x5_1).f0) 3)), .int .u8 0]) ?_ 3 _ rfl; (with_reducible repeat (first | refine blk_drewN ?_ _ | refine blk_drew ?_ | refine blk_alloc ?_ _)); refine blk_put (cs := #[.int .i64 x4_1, .int .i64 (wrap64 (1 + (wrap64 (Int.tmod ((rd_T50 l0 x5_1).f2) 4)))), .int .i64 0, .int .u8 0]) ?_ 2 _ rfl; (with_reducible repeat (first | refine blk_drewN ?_ _ | refine blk_drew ?_ | refine blk_alloc ?_ _)); refine blk_put (cs := #[.int .i64 x4_1, .int .i64 0, .int .i64 0, .int .u8 0]) ?_ 1 _ rfl; (with_reducible repeat (first | refine blk_drewN ?_ _ | refine blk_drew ?_ | refine blk_alloc ?_ _)); refine blk_put (cs := #[.int .i64 0, .int .i64 0, .int .i64 0, .int .u8 0]) ?_ 0 _ rfl; (with_reducible repeat (first | refine blk_drewN ?_ _ | refine blk_drew ?_ | refine blk_alloc ?_ _)); exact BK157.out))⟩; have n5_ : Aside0 (Below w.heap.size w w23) := ⟨(by rw [hw]; exact (by repeat (first | (with_reducible first | exact HB.out | apply below_alloc | apply pw_below_drewN | apply below_drew1 | refine below_set ?_ GE153.out | refine below_set ?_ GE154.out | refine below_set ?_ GE156.out | refine below_set ?_ GE157.out) | exact HB.out)))⟩; clear hw; clear HO_155000; clear BK153; clear BK154; clear BK156; clear BK157; clear HB; have HO_155000 := n0_; have BK153 := n1_; have BK154 := n2_; have BK156 := n3_; have BK157 := n4_; have HB := n5_; clear n0_ n1_ n2_ n3_ n4_ n5_; have hcz24_0 : w23.cell? ⟨gb157, 0, none⟩ = some (.int .i64 x4_1) := (blk_cell BK157.out 0).trans rfl; have hcz24_1 : w23.cell? ⟨gb157, 1, none⟩ = some (.int .i64 (wrap64 (1 + (wrap64 (Int.tmod ((rd_T50 l0 x5_1).f2) 4))))) := (blk_cell BK157.out 1).trans rfl; have hcz24_2 : w23.cell? ⟨gb157, 2, none⟩ = some (.int .i64 (wrap64 (Int.tmod ((rd_T50 l0 x5_1).f0) 3))) := (blk_cell BK157.out 2).trans rfl; have hcz24_3 : w23.cell? ⟨gb157, 3, none⟩ = some (.int .u8 (Int.tmod ((rd_T50 l0 x5_1).f1) 3)) := (blk_cell BK157.out 3).trans rfl; have hfz24_0 := blk_frozen BK157.out 0; have hfz24_1 := blk_frozen BK157.out 1; have hfz24_2 := blk_frozen BK157.out 2; have hfz24_3 := blk_frozen BK157.out 3; have hnb25 := NB154_153.out; have hnc25 := NB153_154.out; have hcz26_0 : w23.cell? ⟨gb154, 0, none⟩ = some (u155000) := (blk_cell BK154.out 0).trans rfl; have hcz26_1 : w23.cell? ⟨gb154, 1, none⟩ = some (.slice none 0 0) := (blk_cell BK154.out 1).trans rfl; have hfz26_0 := blk_frozen BK154.out 0; have hfz26_1 := blk_frozen BK154.out 1) | ((with_reducible refine gate_builtin (b := .append) (xs := #[.tmp 44, .tmp 46]) rfl ?_); at_builtin; refine Kd.R_append k41 (w0 := w) w.heap.size rfl (.tmp 44) (.tmp 46) 32 41 (.agg #[(.int .i64 0), (.int .i64 0), (.int .i64 0), (.int .u8 0)]) 32 rfl Try.underlying32 info41 rfl (by decide) (by omega) u155000 x155000_1 (⟨x4_1, wrap64 (1 + (wrap64 (Int.tmod ((rd_T50 l0 x5_1).f2) 4))), wrap64 (Int.tmod ((rd_T50 l0 x5_1).f0) 3), Int.tmod ((rd_T50 l0 x5_1).f1) 3⟩ : S41) [.int .i64 x4_1, .int .i64 (wrap64 (1 + (wrap64 (Int.tmod ((rd_T50 l0 x5_1).f2) 4)))), .int .i64 (wrap64 (Int.tmod ((rd_T50 l0 x5_1).f0) 3)), .int .u8 (Int.tmod ((rd_T50 l0 x5_1).f1) 3)] (fun k_ => k_ ≠ gb157) (fun _ => False) rfl rfl ?aP (fun _ hk => hk.elim) ?aF ?aO ?aB ?aS ?aL ?_; (case aP => exact k41_mkM _ _ _ (⟨x4_1, wrap64 (1 + (wrap64 (Int.tmod ((rd_T50 l0 x5_1).f2) 4))), wrap64 (Int.tmod ((rd_T50 l0 x5_1).f0) 3), Int.tmod ((rd_T50 l0 x5_1).f1) 3⟩ : S41)); (case aB => exact (by repeat (first | (with_reducible first | exact HB.out | apply below_alloc | apply pw_below_drewN | apply below_drew1 | refine below_set ?_ GE153.out | refine below_set ?_ GE154.out | refine below_set ?_ GE156.out | refine below_set ?_ GE157.out) | exact HB.out))); (case aF => exact (fun k_ hk => Kd.freshB (g := gb157) (o := .cells #[.int .i64 x4_1, .int .i64 (wrap64 (1 + (wrap64 (Int.tmod ((rd_T50 l0 x5_1).f2) 4)))), .int .i64 (wrap64 (Int.tmod ((rd_T50 l0 x5_1).f0) 3)), .int .u8 (Int.tmod ((rd_T50 l0 x5_1).f1) 3)] 41 (0, 0)) (by (with_reducible repeat (first | refine blk_drewN ?_ _ | refine blk_drew ?_ | refine blk_alloc ?_ _)); exact BK157.out) k_ hk)); (case aO => exact (by (with_reducible repeat (first | apply Kd.R_alloc | apply Kd.R_drewN | apply Kd.R_drew)); exact HO_155000.out)); (case aS => exact (below_size (by repeat (first | (with_reducible first | exact HB.out | apply below_alloc | apply pw_below_drewN | apply below_drew1 | refine below_set ?_ GE153.out | refine below_set ?_ GE154.out | refine below_set ?_ GE156.out | refine below_set ?_ GE157.out) | exact HB.out)))); (case aL => have := LMc11.out; omega); intro v159 w27 ho hb hg hat; rw [← Ny158.out] at ho; have n0_ := Aside0.mk (blk_grown (g := gb153) (o := .cells #[.slice none 0 0, .slice none 0 0] 35 (0, 0)) (by (with_reducible repeat (first | refine blk_drewN ?_ _ | refine blk_drew ?_ | refine blk_alloc ?_ _)); exact BK153.out) hg (Kd.R_ne HO_155000.out BK153.out (by decide))); have n1_ := Aside0.mk (blk_grown (g := gb154) (o := .cells #[u155000, .slice none 0 0] 35 (0, 0)) (by (with_reducible repeat (first | refine blk_drewN ?_ _ | refine blk_drew ?_ | refine blk_alloc ?_ _)); exact BK154.out) hg (Kd.R_ne HO_155000.out BK154.out (by decide))); have n2_ := Aside0.mk (blk_grown (g := gb156) (o := .cells #[.int .u8 ((rd_T50 l0 x5_1).f0), .int .u8 ((rd_T50 l0 x5_1).f1), .int .u8 ((rd_T50 l0 x5_1).f2), .int .u8 ((rd_T50 l0 x5_1).f3)] 50 (0, 0)) (by (with_reducible repeat (first | refine blk_drewN ?_ _ | refine blk_drew ?_ | refine blk_alloc ?_ _)); exact BK156.out) hg (Kd.R_ne HO_155000.out BK156.out (by decide))); have n3_ := Aside0.mk (blk_grown (g := gb157) (o := .cells #[.int .i64 x4_1, .int .i64 (wrap64 (1 + (wrap64 (Int.tmod ((rd_T50 l0 x5_1).f2) 4)))), .int .i64 (wrap64 (Int.tmod ((rd_T50 l0 x5_1).f0) 3)), .int .u8 (Int.tmod ((rd_T50 l0 x5_1).f1) 3)] 41 (0, 0)) (by (with_reducible repeat (first | refine blk_drewN ?_ _ | refine blk_drew ?_ | refine blk_alloc ?_ _)); exact BK157.out) hg (Kd.R_away HO_155000.out (fun _ hk => hk))); have n4_ := Aside0.mk (hb); have n5_ := Aside0.mk (ho); clear BK153; clear BK154; clear BK156; clear BK157; clear HB; clear HO_155000; have BK153 := n0_; have BK154 := n1_; have BK156 := n2_; have BK157 := n3_; have HB := n4_; have HO160 := n5_; clear n0_ n1_ n2_ n3_ n4_ n5_; clear ho hb hg hat; obtain ⟨Ao28, co28, eo28⟩ := Kd.R_slice HO160.out; subst eo28; have hcz29_0 : w27.cell? ⟨gb154, 0, none⟩ = some (u155000) := (blk_cell BK154.out 0).trans rfl; have hcz29_1 : w27.cell? ⟨gb154, 1, none⟩ = some (.slice none 0 0) := (blk_cell BK154.out 1).trans rfl; have hfz29_0 := blk_frozen BK154.out 0; have hfz29_1 := blk_frozen BK154.out 1))
                go_roundg k1
                case measure => have := HK1.out; omega
                case rel => exact ⟨(wrap64 (x4_1 + (wrap64 (1 + (wrap64 (Int.tmod ((rd_T50 l0 x5_1).f2) 4)))))), (wrap64 (x5_1 + 1)), (y158), (.slice Ao28 y158.length co28), (by first | rfl | (simp; done) | (simp [*]; done)), (by first | rfl | (simp; done) | (simp [*]; done)), H', ⟨by have := HK1.out; omega⟩, ⟨by (with_reducible repeat (first | apply Kd.R_alloc | apply Kd.R_drewN | apply Kd.R_drew)); exact Kd.R_mono (Kd.R_far (p := ⟨gb154, 0, none⟩) (Kd.R_types HO160.out BK154.out (by decide)) (fun _ hk => hk.2) (.slice Ao28 y158.length co28)) (fun _ hk => trivial)⟩, ⟨by (with_reducible repeat (first | refine blk_drewN ?_ _ | refine blk_drew ?_ | refine blk_alloc ?_ _)); refine blk_far ?_ NB153_154.out _; (with_reducible repeat (first | refine blk_drewN ?_ _ | refine blk_drew ?_ | refine blk_alloc ?_ _)); exact BK153.out⟩, ⟨by (with_reducible repeat (first | refine blk_drewN ?_ _ | refine blk_drew ?_ | refine blk_alloc ?_ _)); refine blk_put (cs := #[u155000, .slice none 0 0]) ?_ 0 _ rfl; (with_reducible repeat (first | refine blk_drewN ?_ _ | refine blk_drew ?_ | refine blk_alloc ?_ _)); exact BK154.out⟩, ⟨by repeat (first | (with_reducible first | exact HB.out | apply below_alloc | apply pw_below_drewN | apply below_drew1 | refine below_set ?_ GE153.out | refine below_set ?_ GE154.out | refine below_set ?_ GE156.out | refine below_set ?_ GE157.out) | exact HB.out)⟩⟩
              · rw [if_neg c11] at H
                exact absurd H (by simp)
            · rw [if_neg c10] at H
              exact absurd H (by simp)
          · rw [if_neg c9] at H
            have c9b0 : decide (x4_1 < 4000) = false := decide_eq_false c9
            clear c9
            have H' := Aside0.mk H
            clear H
            go_wp2
            go_meet
            case rel => exact ⟨_, (x155000_1), (u155000), H', ⟨by have := HK1.out; first | omega | exact Nat.le_refl _⟩, ⟨by (with_reducible repeat (first | apply Kd.R_alloc | apply Kd.R_drewN | apply Kd.R_drew)); exact HO_155000.out⟩, ⟨by (with_reducible repeat (first | refine blk_drewN ?_ _ | refine blk_drew ?_ | refine blk_alloc ?_ _)); exact BK153.out⟩, ⟨by (with_reducible repeat (first | refine blk_drewN ?_ _ | refine blk_drew ?_ | refine blk_alloc ?_ _)); exact BK154.out⟩, ⟨by repeat (first | (with_reducible first | exact HB.out | apply below_alloc | apply pw_below_drewN | apply below_drew1 | refine below_set ?_ GE153.out | refine below_set ?_ GE154.out) | exact HB.out)⟩⟩
        · rw [if_neg c8] at H
          have c8b0 : decide (x5_1 < (l0.length : Int)) = false := decide_eq_false c8
          clear c8
          (first | rw [c8b0] | (simp only [i64_w, i32_w]; rw [c8b0]) | skip)
          have H' := Aside0.mk H
          clear H
          go_wp2
          go_meet
          case rel => exact ⟨_, (x155000_1), (u155000), H', ⟨by have := HK1.out; first | omega | exact Nat.le_refl _⟩, ⟨by (with_reducible repeat (first | apply Kd.R_alloc | apply Kd.R_drewN | apply Kd.R_drew)); exact HO_155000.out⟩, ⟨by (with_reducible repeat (first | refine blk_drewN ?_ _ | refine blk_drew ?_ | refine blk_alloc ?_ _)); exact BK153.out⟩, ⟨by (with_reducible repeat (first | refine blk_drewN ?_ _ | refine blk_drew ?_ | refine blk_alloc ?_ _)); exact BK154.out⟩, ⟨by repeat (first | (with_reducible first | exact HB.out | apply below_alloc | apply pw_below_drewN | apply below_drew1 | refine below_set ?_ GE153.out | refine below_set ?_ GE154.out) | exact HB.out)⟩⟩
  case rest =>
    clear HC2
    try clear c1
    try clear p1
    try clear q1
    try clear hx1
    try clear c2
    try clear p2
    try clear c5
    try clear p6
    try clear c8
    try clear c8b0
    try clear c9
    try clear c9b0
    try clear c10
    try clear c10b0
    try clear c11
    try clear c13
    try clear c14
    try clear p15
    try clear q15
    try clear hx15
    try clear c19
    try clear c20
    try clear c21
    try clear c25
    try clear hcz15_0
    try clear hcz15_1
    try clear hcz15_2
    try clear hcz15_3
    try clear hcz17_0
    try clear hcz17_1
    try clear hcz17_2
    try clear hcz17_3
    try clear hcz22_0
    try clear hcz22_1
    try clear hcz22_2
    try clear hcz22_3
    try clear hcz24_0
    try clear hcz24_1
    try clear hcz24_2
    try clear hcz24_3
    try clear hcz26_0
    try clear hcz26_1
    try clear hcz29_0
    try clear hcz29_1
    try clear hcz6_0
    try clear hcz6_1
    try clear hfz15_0
    try clear hfz15_1
    try clear hfz15_2
    try clear hfz15_3
    try clear hfz17_0
    try clear hfz17_1
    try clear hfz17_2
    try clear hfz17_3
    try clear hfz22_0
    try clear hfz22_1
    try clear hfz22_2
    try clear hfz22_3
    try clear hfz24_0
    try clear hfz24_1
    try clear hfz24_2
    try clear hfz24_3
    try clear hfz26_0
    try clear hfz26_1
    try clear hfz29_0
    try clear hfz29_1
    try clear hfz6_0
    try clear hfz6_1
    try clear hx155_0
    try clear hx155_1
    try clear hx155_2
    try clear hx155_3
    try clear p155
    try clear p2
    try clear q155
    obtain ⟨kq, x155000_1, u155000, HA, HJ1, HO_155000, BK153, BK154, HB⟩ := hcut
    cases kq with
    | zero => exact absurd HA.out (by simp [stanzahand03_Para.j1])
    | succ kj1 =>
      have H := HA.out
      clear HA
      simp only [stanzahand03_Para.j1] at H
      have H' := Aside0.mk H
      clear H
      go_wp2
      go_loopg [8] kj1 (fun kq v8 w' => ∃ (x8_2 : Int) (x155001_2 : List Int) (u155001 : Value), v8 = .int .i64 x8_2 ∧ Aside0 (stanzahand03_Para.l1 kq l0 x8_2 x155000_1 x155001_2 = some (r1, r2)) ∧ Aside0 (kq ≤ kj1) ∧ Aside0 (Kd.R k41 41 w' w.heap.size (fun _ => True) u155000 x155000_1) ∧ Aside0 (Kd.R (Kd.int .u8) 46 w' w.heap.size (fun _ => True) u155001 x155001_2) ∧ Aside0 (w'.heap[gb153]? = some (.cells #[(.slice none 0 0), (.slice none 0 0)] 35 (0, 0))) ∧ Aside0 (w'.heap[gb154]? = some (.cells #[u155000, u155001] 35 (0, 0))) ∧ Aside0 (Below w.heap.size w w'))
      case atStart => exact ⟨(0), (([] : List Int)), (.slice none 0 0), (by first | rfl | (simp; done) | (simp [*]; done)), H', ⟨Nat.le_refl _⟩, ⟨by (with_reducible repeat (first | apply Kd.R_alloc | apply Kd.R_drewN | apply Kd.R_drew)); exact HO_155000.out⟩, ⟨by first | exact Kd.R_nil _ _ _ _ _ | exact Kd.N_nil _ _ _ _ _ | exact Kd.V_nil _ _ _ _ _ | exact Kd.Q_nil _ _ _ _ _ | exact Kd.S_nil _ _ _ _ _⟩, ⟨by (with_reducible repeat (first | refine blk_drewN ?_ _ | refine blk_drew ?_ | refine blk_alloc ?_ _)); exact BK153.out⟩, ⟨by (with_reducible repeat (first | refine blk_drewN ?_ _ | refine blk_drew ?_ | refine blk_alloc ?_ _)); exact BK154.out⟩, ⟨by repeat (first | (with_reducible first | exact HB.out | apply below_alloc | apply pw_below_drewN | apply below_drew1 | refine below_set ?_ GE153.out | refine below_set ?_ GE154.out) | exact HB.out)⟩⟩
      case round =>
        clear H'
        try clear c1
        try clear p1
        try clear q1
        try clear hx1
        try clear c2
        try clear p2
        try clear c5
        try clear p6
        try clear c8
        try clear c8b0
        try clear c9
        try clear c9b0
        try clear c10
        try clear c10b0
        try clear c11
        try clear c13
        try clear c14
        try clear p15
        try clear q15
        try clear hx15
        try clear c19
        try clear c20
        try clear c21
        try clear c25
        try clear hcz15_0
        try clear hcz15_1
        try clear hcz15_2
        try clear hcz15_3
        try clear hcz17_0
        try clear hcz17_1
        try clear hcz17_2
        try clear hcz17_3
        try clear hcz22_0
        try clear hcz22_1
        try clear hcz22_2
        try clear hcz22_3
        try clear hcz24_0
        try clear hcz24_1
        try clear hcz24_2
        try clear hcz24_3
        try clear hcz26_0
        try clear hcz26_1
        try clear hcz29_0
        try clear hcz29_1
        try clear hcz6_0
        try clear hcz6_1
        try clear hfz15_0
        try clear hfz15_1
        try clear hfz15_2
        try clear hfz15_3
        try clear hfz17_0
        try clear hfz17_1
        try clear hfz17_2
        try clear hfz17_3
        try clear hfz22_0
        try clear hfz22_1
        try clear hfz22_2
        try clear hfz22_3
        try clear hfz24_0
        try clear hfz24_1
        try clear hfz24_2
        try clear hfz24_3
        try clear hfz26_0
        try clear hfz26_1
        try clear hfz29_0
        try clear hfz29_1
        try clear hfz6_0
        try clear hfz6_1
        try clear hx155_0
        try clear hx155_1
        try clear hx155_2
        try clear hx155_3
        try clear p1
        try clear p15
        try clear p155
        try clear p2
        try clear p6
        try clear q1
        try clear q15
        try clear q155
        obtain ⟨x8_2, x155001_2, u155001, rfl, HA, HK2, HO_155000, HO_155001, BK153, BK154, HB⟩ := hrel
        cases gk with
        | zero => exact absurd HA.out (by simp [stanzahand03_Para.l1])
        | succ k2 =>
          have H := HA.out
          clear HA
          simp only [stanzahand03_Para.l1] at H
          by_cases c30 : x8_2 < (x155000_1.length : Int)
          · rw [if_pos c30] at H
            have c30b0 : decide (x8_2 < (x155000_1.length : Int)) = true := decide_eq_true c30
            clear c30
            by_cases c31 : x8_2 > 0
            · rw [if_pos c31] at H
              have c31b0 : decide (0 < x8_2) = true := decide_eq_true c31
              clear c31
              obtain ⟨ji32, hji32⟩ : ∃ j_ : Int, (wrap64 (x8_2 - 1)) = j_ := ⟨_, rfl⟩
              replace H : (if 0 ≤ (ji32) then (if (ji32) < (l0.length : Int) then (if x155001_2.length < 140737488355328 then (stanzahand03_Para.l1 k2 l0 (wrap64 (x8_2 + 1)) x155000_1 (x155001_2 ++ [Int.tmod ((rd_T50 l0 (ji32)).f3) 4])) else (none)) else (none)) else (none)) = some (r1, r2) := by first | (rw [hji32] at H; exact H) | (simp only [hji32] at H ⊢; exact H)
              have hji32w : (IntKind.i64.wrap (x8_2 - 1)) = ji32 := (i64_w _).trans hji32
              by_cases c33 : 0 ≤ (ji32)
              · rw [if_pos c33] at H
                have c33b0 : decide (0 ≤ (ji32)) = true := decide_eq_true c33
                clear c33
                by_cases c34 : (ji32) < (l0.length : Int)
                · rw [if_pos c34] at H
                  have c34b0 : decide ((ji32) < (l0.length : Int)) = true := decide_eq_true c34
                  clear c34
                  by_cases c35 : x155001_2.length < 140737488355328
                  · rw [if_pos c35] at H
                    have LMc35 := Aside0.mk c35
                    clear c35
                    obtain ⟨y162, hy162⟩ : ∃ y_ : List Int, y_ = (x155001_2 ++ [Int.tmod ((rd_T50 l0 (ji32)).f3) 4]) := ⟨_, rfl⟩
                    replace H : (stanzahand03_Para.l1 k2 l0 (wrap64 (x8_2 + 1)) x155000_1 y162) = some (r1, r2) := by first | (rw [hy162]; with_reducible exact H) | (have H2_ := (Option.bind_some _ _).symm.trans H; rw [hy162]; with_reducible exact H2_) | (have H2_ := (Option.bind_some _ _).symm.trans H; with_reducible exact H2_) | with_reducible exact H | (rw [hy162]; exact H) | exact H
                    have Ny162 := Aside0.mk hy162
                    clear hy162
                    have H' := Aside0.mk H
                    clear H
                    have hnb36 := NB154_153.out
                    have hnc36 := NB153_154.out
                    have hcz37_0 : wr.cell? ⟨gb154, 0, none⟩ = some (u155000) := (blk_cell BK154.out 0).trans rfl
                    have hcz37_1 : wr.cell? ⟨gb154, 1, none⟩ = some (u155001) := (blk_cell BK154.out 1).trans rfl
                    have hfz37_0 := blk_frozen BK154.out 0
                    have hfz37_1 := blk_frozen BK154.out 1
                    obtain ⟨Ao38, co38, eo38⟩ := Kd.R_slice HO_155000.out
                    subst eo38
                    have p161 : 0 ≤ ((ji32) : Int) := of_decide_eq_true (by first | (with_reducible assumption) | assumption)
                    have q161 : (ji32) < (l0.length : Int) := of_decide_eq_true (by first | (with_reducible assumption) | assumption)
                    obtain ⟨ad161, e161, hx161_0, hx161_1, hx161_2, hx161_3⟩ := at_T50 HR0.out (ji32) p161 q161
                    cases e161
                    replace hx161_0 := (HB.out.cell (World.block_lt_of_cell? w _ hx161_0)).trans hx161_0
                    replace hx161_1 := (HB.out.cell (World.block_lt_of_cell? w _ hx161_1)).trans hx161_1
                    replace hx161_2 := (HB.out.cell (World.block_lt_of_cell? w _ hx161_2)).trans hx161_2
                    replace hx161_3 := (HB.out.cell (World.block_lt_of_cell? w _ hx161_3)).trans hx161_3
                    replace p161 := eq_true p161
                    replace q161 := eq_true q161
                    go_wp2_with (first | ((with_reducible refine gate_builtin (b := .append) (xs := #[.tmp 66, .tmp 68]) rfl ?_); at_builtin; refine Kd.R_append (Kd.int .u8) (w0 := w) w.heap.size rfl (.tmp 66) (.tmp 68) 33 46 (.int .u8 0) 1 rfl Try.underlying33 info46 rfl (by decide) (by omega) u155001 x155001_2 (Int.tmod ((rd_T50 l0 (ji32)).f3) 4) [.int .u8 (Int.tmod ((rd_T50 l0 (ji32)).f3) 4)] (fun _ => True) (fun _ => False) rfl rfl ?aP (fun _ hk => hk.elim) ?aF ?aO ?aB ?aS ?aL ?_; (case aP => exact rfl); (case aB => exact (by repeat (first | (with_reducible first | exact HB.out | apply below_alloc | apply pw_below_drewN | apply below_drew1 | refine below_set ?_ GE153.out | refine below_set ?_ GE154.out) | exact HB.out))); (case aF => exact (fun _ _ => trivial)); (case aO => exact (by (with_reducible repeat (first | apply Kd.R_alloc | apply Kd.R_drewN | apply Kd.R_drew)); exact HO_155001.out)); (case aS => exact (below_size (by repeat (first | (with_reducible first | exact HB.out | apply below_alloc | apply pw_below_drewN | apply below_drew1 | refine below_set ?_ GE153.out | refine below_set ?_ GE154.out) | exact HB.out)))); (case aL => have := LMc35.out; omega); intro v163 w39 ho hb hg hat; rw [← Ny162.out] at ho; have n0_ := Aside0.mk (Kd.R_over' (by (with_reducible repeat (first | apply Kd.R_alloc | apply Kd.R_drewN | apply Kd.R_drew)); exact HO_155000.out) (Kd.R_typed (by (with_reducible repeat (first | apply Kd.R_alloc | apply Kd.R_drewN | apply Kd.R_drew)); exact HO_155001.out)) (by decide) hg); have n1_ := Aside0.mk (blk_grown (g := gb153) (o := .cells #[.slice none 0 0, .slice none 0 0] 35 (0, 0)) (by (with_reducible repeat (first | refine blk_drewN ?_ _ | refine blk_drew ?_ | refine blk_alloc ?_ _)); exact BK153.out) hg (Kd.R_ne HO_155001.out BK153.out (by decide))); have n2_ := Aside0.mk (blk_grown (g := gb154) (o := .cells #[.slice Ao38 x155000_1.length co38, u155001] 35 (0, 0)) (by (with_reducible repeat (first | refine blk_drewN ?_ _ | refine blk_drew ?_ | refine blk_alloc ?_ _)); exact BK154.out) hg (Kd.R_ne HO_155001.out BK154.out (by decide))); have n3_ := Aside0.mk (hb); have n4_ := Aside0.mk (ho); clear HO_155000; clear BK153; clear BK154; clear HB; clear HO_155001; have HO_155000 := n0_; have BK153 := n1_; have BK154 := n2_; have HB := n3_; have HO164 := n4_; clear n0_ n1_ n2_ n3_ n4_; clear ho hb hg hat; obtain ⟨Ao40, co40, eo40⟩ := Kd.R_slice HO164.out; subst eo40; have hcz41_0 : w39.cell? ⟨gb154, 0, none⟩ = some (.slice Ao38 x155000_1.length co38) := (blk_cell BK154.out 0).trans rfl; have hcz41_1 : w39.cell? ⟨gb154, 1, none⟩ = some (u155001) := (blk_cell BK154.out 1).trans rfl; have hfz41_0 := blk_frozen BK154.out 0; have hfz41_1 := blk_frozen BK154.out 1))
                    go_roundg k2
                    case measure => have := HJ1.out; have := HK2.out; omega
                    case rel => exact ⟨(wrap64 (x8_2 + 1)), (y162), (.slice Ao40 y162.length co40), (by first | rfl | (simp; done) | (simp [*]; done)), H', ⟨by have := HJ1.out; have := HK2.out; omega⟩, ⟨by (with_reducible repeat (first | apply Kd.R_alloc | apply Kd.R_drewN | apply Kd.R_drew)); exact Kd.R_mono (Kd.R_far (p := ⟨gb154, 1, none⟩) (Kd.R_types HO_155000.out BK154.out (by decide)) (fun _ hk => hk.2) (.slice Ao40 y162.length co40)) (fun _ hk => trivial)⟩, ⟨by (with_reducible repeat (first | apply Kd.R_alloc | apply Kd.R_drewN | apply Kd.R_drew)); exact Kd.R_mono (Kd.R_far (p := ⟨gb154, 1, none⟩) (Kd.R_types HO164.out BK154.out (by decide)) (fun _ hk => hk.2) (.slice Ao40 y162.length co40)) (fun _ hk => trivial)⟩, ⟨by (with_reducible repeat (first | refine blk_drewN ?_ _ | refine blk_drew ?_ | refine blk_alloc ?_ _)); refine blk_far ?_ NB153_154.out _; (with_reducible repeat (first | refine blk_drewN ?_ _ | refine blk_drew ?_ | refine blk_alloc ?_ _)); exact BK153.out⟩, ⟨by (with_reducible repeat (first | refine blk_drewN ?_ _ | refine blk_drew ?_ | refine blk_alloc ?_ _)); refine blk_put (cs := #[.slice Ao38 x155000_1.length co38, u155001]) ?_ 1 _ rfl; (with_reducible repeat (first | refine blk_drewN ?_ _ | refine blk_drew ?_ | refine blk_alloc ?_ _)); exact BK154.out⟩, ⟨by repeat (first | (with_reducible first | exact HB.out | apply below_alloc | apply pw_below_drewN | apply below_drew1 | refine below_set ?_ GE153.out | refine below_set ?_ GE154.out) | exact HB.out)⟩⟩
                  · rw [if_neg c35] at H
                    exact absurd H (by simp)
                · rw [if_neg c34] at H
                  exact absurd H (by simp)
              · rw [if_neg c33] at H
                exact absurd H (by simp)
            · rw [if_neg c31] at H
              have c31b0 : decide (0 < x8_2) = false := decide_eq_false c31
              clear c31
              by_cases c42 : x155001_2.length < 140737488355328
              · rw [if_pos c42] at H
                have LMc42 := Aside0.mk c42
                clear c42
                obtain ⟨y165, hy165⟩ : ∃ y_ : List Int, y_ = (x155001_2 ++ [0]) := ⟨_, rfl⟩
                replace H : (stanzahand03_Para.l1 k2 l0 (wrap64 (x8_2 + 1)) x155000_1 y165) = some (r1, r2) := by first | (rw [hy165]; with_reducible exact H) | (have H2_ := (Option.bind_some _ _).symm.trans H; rw [hy165]; with_reducible exact H2_) | (have H2_ := (Option.bind_some _ _).symm.trans H; with_reducible exact H2_) | with_reducible exact H | (rw [hy165]; exact H) | exact H
                have Ny165 := Aside0.mk hy165
                clear hy165
                have H' := Aside0.mk H
                clear H
                have hnb43 := NB154_153.out
                have hnc43 := NB153_154.out
                have hcz44_0 : wr.cell? ⟨gb154, 0, none⟩ = some (u155000) := (blk_cell BK154.out 0).trans rfl
                have hcz44_1 : wr.cell? ⟨gb154, 1, none⟩ = some (u155001) := (blk_cell BK154.out 1).trans rfl
                have hfz44_0 := blk_frozen BK154.out 0
                have hfz44_1 := blk_frozen BK154.out 1
                obtain ⟨Ao45, co45, eo45⟩ := Kd.R_slice HO_155000.out
                subst eo45
                go_wp2_with (first | ((with_reducible refine gate_builtin (b := .append) (xs := #[.tmp 66, .tmp 68]) rfl ?_); at_builtin; refine Kd.R_append (Kd.int .u8) (w0 := w) w.heap.size rfl (.tmp 66) (.tmp 68) 33 46 (.int .u8 0) 1 rfl Try.underlying33 info46 rfl (by decide) (by omega) u155001 x155001_2 0 [.int .u8 0] (fun _ => True) (fun _ => False) rfl rfl ?aP (fun _ hk => hk.elim) ?aF ?aO ?aB ?aS ?aL ?_; (case aP => exact rfl); (case aB => exact (by repeat (first | (with_reducible first | exact HB.out | apply below_alloc | apply pw_below_drewN | apply below_drew1 | refine below_set ?_ GE153.out | refine below_set ?_ GE154.out) | exact HB.out))); (case aF => exact (fun _ _ => trivial)); (case aO => exact (by (with_reducible repeat (first | apply Kd.R_alloc | apply Kd.R_drewN | apply Kd.R_drew)); exact HO_155001.out)); (case aS => exact (below_size (by repeat (first | (with_reducible first | exact HB.out | apply below_alloc | apply pw_below_drewN | apply below_drew1 | refine below_set ?_ GE153.out | refine below_set ?_ GE154.out) | exact HB.out)))); (case aL => have := LMc42.out; omega); intro v166 w46 ho hb hg hat; rw [← Ny165.out] at ho; have n0_ := Aside0.mk (Kd.R_over' (by (with_reducible repeat (first | apply Kd.R_alloc | apply Kd.R_drewN | apply Kd.R_drew)); exact HO_155000.out) (Kd.R_typed (by (with_reducible repeat (first | apply Kd.R_alloc | apply Kd.R_drewN | apply Kd.R_drew)); exact HO_155001.out)) (by decide) hg); have n1_ := Aside0.mk (blk_grown (g := gb153) (o := .cells #[.slice none 0 0, .slice none 0 0] 35 (0, 0)) (by (with_reducible repeat (first | refine blk_drewN ?_ _ | refine blk_drew ?_ | refine blk_alloc ?_ _)); exact BK153.out) hg (Kd.R_ne HO_155001.out BK153.out (by decide))); have n2_ := Aside0.mk (blk_grown (g := gb154) (o := .cells #[.slice Ao45 x155000_1.length co45, u155001] 35 (0, 0)) (by (with_reducible repeat (first | refine blk_drewN ?_ _ | refine blk_drew ?_ | refine blk_alloc ?_ _)); exact BK154.out) hg (Kd.R_ne HO_155001.out BK154.out (by decide))); have n3_ := Aside0.mk (hb); have n4_ := Aside0.mk (ho); clear HO_155000; clear BK153; clear BK154; clear HB; clear HO_155001; have HO_155000 := n0_; have BK153 := n1_; have BK154 := n2_; have HB := n3_; have HO167 := n4_; clear n0_ n1_ n2_ n3_ n4_; clear ho hb hg hat; obtain ⟨Ao47, co47, eo47⟩ := Kd.R_slice HO167.out; subst eo47; have hcz48_0 : w46.cell? ⟨gb154, 0, none⟩ = some (.slice Ao45 x155000_1.length co45) := (blk_cell BK154.out 0).trans rfl; have hcz48_1 : w46.cell? ⟨gb154, 1, none⟩ = some (u155001) := (blk_cell BK154.out 1).trans rfl; have hfz48_0 := blk_frozen BK154.out 0; have hfz48_1 := blk_frozen BK154.out 1))
                go_roundg k2
                case measure => have := HJ1.out; have := HK2.out; omega
                case rel => exact ⟨(wrap64 (x8_2 + 1)), (y165), (.slice Ao47 y165.length co47), (by first | rfl | (simp; done) | (simp [*]; done)), H', ⟨by have := HJ1.out; have := HK2.out; omega⟩, ⟨by (with_reducible repeat (first | apply Kd.R_alloc | apply Kd.R_drewN | apply Kd.R_drew)); exact Kd.R_mono (Kd.R_far (p := ⟨gb154, 1, none⟩) (Kd.R_types HO_155000.out BK154.out (by decide)) (fun _ hk => hk.2) (.slice Ao47 y165.length co47)) (fun _ hk => trivial)⟩, ⟨by (with_reducible repeat (first | apply Kd.R_alloc | apply Kd.R_drewN | apply Kd.R_drew)); exact Kd.R_mono (Kd.R_far (p := ⟨gb154, 1, none⟩) (Kd.R_types HO167.out BK154.out (by decide)) (fun _ hk => hk.2) (.slice Ao47 y165.length co47)) (fun _ hk => trivial)⟩, ⟨by (with_reducible repeat (first | refine blk_drewN ?_ _ | refine blk_drew ?_ | refine blk_alloc ?_ _)); refine blk_far ?_ NB153_154.out _; (with_reducible repeat (first | refine blk_drewN ?_ _ | refine blk_drew ?_ | refine blk_alloc ?_ _)); exact BK153.out⟩, ⟨by (with_reducible repeat (first | refine blk_drewN ?_ _ | refine blk_drew ?_ | refine blk_alloc ?_ _)); refine blk_put (cs := #[.slice Ao45 x155000_1.length co45, u155001]) ?_ 1 _ rfl; (with_reducible repeat (first | refine blk_drewN ?_ _ | refine blk_drew ?_ | refine blk_alloc ?_ _)); exact BK154.out⟩, ⟨by repeat (first | (with_reducible first | exact HB.out | apply below_alloc | apply pw_below_drewN | apply below_drew1 | refine below_set ?_ GE153.out | refine below_set ?_ GE154.out) | exact HB.out)⟩⟩
              · rw [if_neg c42] at H
                exact absurd H (by simp)
          · rw [if_neg c30] at H
            have c30b0 : decide (x8_2 < (x155000_1.length : Int)) = false := decide_eq_false c30
            clear c30
            by_cases c49 : x155001_2.length < 140737488355328
            · rw [if_pos c49] at H
              have LMc49 := Aside0.mk c49
              clear c49
              obtain ⟨y168, hy168⟩ : ∃ y_ : List Int, y_ = (x155001_2 ++ [2]) := ⟨_, rfl⟩
              replace H : (some (x155000_1, y168)) = some (r1, r2) := by first | (rw [hy168]; with_reducible exact H) | (have H2_ := (Option.bind_some _ _).symm.trans H; rw [hy168]; with_reducible exact H2_) | (have H2_ := (Option.bind_some _ _).symm.trans H; with_reducible exact H2_) | with_reducible exact H | (rw [hy168]; exact H) | exact H
              have Ny168 := Aside0.mk hy168
              clear hy168
              simp only [Option.some.injEq, Prod.mk.injEq] at H
              obtain ⟨rfl, rfl⟩ := H
              have hnb50 := NB154_153.out
              have hnc50 := NB153_154.out
              have hcz51_0 : wr.cell? ⟨gb154, 0, none⟩ = some (u155000) := (blk_cell BK154.out 0).trans rfl
              have hcz51_1 : wr.cell? ⟨gb154, 1, none⟩ = some (u155001) := (blk_cell BK154.out 1).trans rfl
              have hfz51_0 := blk_frozen BK154.out 0
              have hfz51_1 := blk_frozen BK154.out 1
              obtain ⟨Ao52, co52, eo52⟩ := Kd.R_slice HO_155000.out
              subst eo52
              go_wp2_with (first | ((with_reducible refine gate_builtin (b := .append) (xs := #[.tmp 72, .tmp 73]) rfl ?_); at_builtin; refine Kd.R_append (Kd.int .u8) (w0 := w) w.heap.size rfl (.tmp 72) (.tmp 73) 33 46 (.int .u8 0) 1 rfl Try.underlying33 info46 rfl (by decide) (by omega) u155001 x155001_2 2 [.int .u8 2] (fun _ => True) (fun _ => False) rfl rfl ?aP (fun _ hk => hk.elim) ?aF ?aO ?aB ?aS ?aL ?_; (case aP => exact rfl); (case aB => exact (by repeat (first | (with_reducible first | exact HB.out | apply below_alloc | apply pw_below_drewN | apply below_drew1 | refine below_set ?_ GE153.out | refine below_set ?_ GE154.out) | exact HB.out))); (case aF => exact (fun _ _ => trivial)); (case aO => exact (by (with_reducible repeat (first | apply Kd.R_alloc | apply Kd.R_drewN | apply Kd.R_drew)); exact HO_155001.out)); (case aS => exact (below_size (by repeat (first | (with_reducible first | exact HB.out | apply below_alloc | apply pw_below_drewN | apply below_drew1 | refine below_set ?_ GE153.out | refine below_set ?_ GE154.out) | exact HB.out)))); (case aL => have := LMc49.out; omega); intro v169 w53 ho hb hg hat; rw [← Ny168.out] at ho; have n0_ := Aside0.mk (Kd.R_over' (by (with_reducible repeat (first | apply Kd.R_alloc | apply Kd.R_drewN | apply Kd.R_drew)); exact HO_155000.out) (Kd.R_typed (by (with_reducible repeat (first | apply Kd.R_alloc | apply Kd.R_drewN | apply Kd.R_drew)); exact HO_155001.out)) (by decide) hg); have n1_ := Aside0.mk (blk_grown (g := gb153) (o := .cells #[.slice none 0 0, .slice none 0 0] 35 (0, 0)) (by (with_reducible repeat (first | refine blk_drewN ?_ _ | refine blk_drew ?_ | refine blk_alloc ?_ _)); exact BK153.out) hg (Kd.R_ne HO_155001.out BK153.out (by decide))); have n2_ := Aside0.mk (blk_grown (g := gb154) (o := .cells #[.slice Ao52 x155000_1.length co52, u155001] 35 (0, 0)) (by (with_reducible repeat (first | refine blk_drewN ?_ _ | refine blk_drew ?_ | refine blk_alloc ?_ _)); exact BK154.out) hg (Kd.R_ne HO_155001.out BK154.out (by decide))); have n3_ := Aside0.mk (hb); have n4_ := Aside0.mk (ho); clear HO_155000; clear BK153; clear BK154; clear HB; clear HO_155001; have HO_155000 := n0_; have BK153 := n1_; have BK154 := n2_; have HB := n3_; have HO170 := n4_; clear n0_ n1_ n2_ n3_ n4_; clear ho hb hg hat; obtain ⟨Ao54, co54, eo54⟩ := Kd.R_slice HO170.out; subst eo54; have hcz55_0 : w53.cell? ⟨gb154, 0, none⟩ = some (.slice Ao52 x155000_1.length co52) := (blk_cell BK154.out 0).trans rfl; have hcz55_1 : w53.cell? ⟨gb154, 1, none⟩ = some (u155001) := (blk_cell BK154.out 1).trans rfl; have hfz55_0 := blk_frozen BK154.out 0; have hfz55_1 := blk_frozen BK154.out 1; have hcz56_0 : w53.cell? ⟨gb153, 0, none⟩ = some (.slice none 0 0) := (blk_cell BK153.out 0).trans rfl; have hcz56_1 : w53.cell? ⟨gb153, 1, none⟩ = some (.slice none 0 0) := (blk_cell BK153.out 1).trans rfl; have hfz56_0 := blk_frozen BK153.out 0; have hfz56_1 := blk_frozen BK153.out 1) | ((with_reducible refine gate_store (t := 35) (p := 2) rfl ?_); refine store_event (t := 35) (p := 2) (v := ?vo_w57) (w1 := (((w53.setCell ⟨gb154, 1, none⟩ (.slice Ao54 y168.length co54)).setCell ⟨gb153, 0, none⟩ (.slice Ao52 x155000_1.length co52)).setCell ⟨gb153, 1, none⟩ (.slice Ao54 y168.length co54))) ?hg ?ho ?hn ?hr ?_; (case ho => rfl); (case hg => rfl); (case hn => rfl); (case hr => first | (go_simp; done) | (go_simp; rfl)); intro w57 hw; have n0_ : Aside0 (Kd.R k41 41 w57 w.heap.size (fun _ => True) (.slice Ao52 x155000_1.length co52) x155000_1) := ⟨(by rw [hw]; exact (by (with_reducible repeat (first | apply Kd.R_alloc | apply Kd.R_drewN | apply Kd.R_drew)); exact Kd.R_mono (Kd.R_far (p := ⟨gb153, 1, none⟩) (Kd.R_far (p := ⟨gb153, 0, none⟩) (Kd.R_far (p := ⟨gb154, 1, none⟩) (Kd.R_types (Kd.R_types HO_155000.out BK154.out (by decide)) BK153.out (by decide)) (fun _ hk => hk.1.2) (.slice Ao54 y168.length co54)) (fun _ hk => hk.2) (.slice Ao52 x155000_1.length co52)) (fun _ hk => hk.2) (.slice Ao54 y168.length co54)) (fun _ hk => trivial)))⟩; have n1_ : Aside0 (Kd.R (Kd.int .u8) 46 w57 w.heap.size (fun _ => True) (.slice Ao54 y168.length co54) y168) := ⟨(by rw [hw]; exact (by (with_reducible repeat (first | apply Kd.R_alloc | apply Kd.R_drewN | apply Kd.R_drew)); exact Kd.R_mono (Kd.R_far (p := ⟨gb153, 1, none⟩) (Kd.R_far (p := ⟨gb153, 0, none⟩) (Kd.R_far (p := ⟨gb154, 1, none⟩) (Kd.R_types (Kd.R_types HO170.out BK154.out (by decide)) BK153.out (by decide)) (fun _ hk => hk.1.2) (.slice Ao54 y168.length co54)) (fun _ hk => hk.2) (.slice Ao52 x155000_1.length co52)) (fun _ hk => hk.2) (.slice Ao54 y168.length co54)) (fun _ hk => trivial)))⟩; have n2_ : Aside0 (w57.heap[gb153]? = some (.cells #[.slice Ao52 x155000_1.length co52, .slice Ao54 y168.length co54] 35 (0, 0))) := ⟨(by rw [hw]; exact (by (with_reducible repeat (first | refine blk_drewN ?_ _ | refine blk_drew ?_ | refine blk_alloc ?_ _)); refine blk_put (cs := #[.slice Ao52 x155000_1.length co52, .slice none 0 0]) ?_ 1 _ rfl; (with_reducible repeat (first | refine blk_drewN ?_ _ | refine blk_drew ?_ | refine blk_alloc ?_ _)); refine blk_put (cs := #[.slice none 0 0, .slice none 0 0]) ?_ 0 _ rfl; (with_reducible repeat (first | refine blk_drewN ?_ _ | refine blk_drew ?_ | refine blk_alloc ?_ _)); refine blk_far ?_ NB153_154.out _; (with_reducible repeat (first | refine blk_drewN ?_ _ | refine blk_drew ?_ | refine blk_alloc ?_ _)); exact BK153.out))⟩; have n3_ : Aside0 (w57.heap[gb154]? = some (.cells #[.slice Ao52 x155000_1.length co52, .slice Ao54 y168.length co54] 35 (0, 0))) := ⟨(by rw [hw]; exact (by (with_reducible repeat (first | refine blk_drewN ?_ _ | refine blk_drew ?_ | refine blk_alloc ?_ _)); refine blk_far ?_ NB154_153.out _; (with_reducible repeat (first | refine blk_drewN ?_ _ | refine blk_drew ?_ | refine blk_alloc ?_ _)); refine blk_far ?_ NB154_153.out _; (with_reducible repeat (first | refine blk_drewN ?_ _ | refine blk_drew ?_ | refine blk_alloc ?_ _)); refine blk_put (cs := #[.slice Ao52 x155000_1.length co52, u155001]) ?_ 1 _ rfl; (with_reducible repeat (first | refine blk_drewN ?_ _ | refine blk_drew ?_ | refine blk_alloc ?_ _)); exact BK154.out))⟩; have n4_ : Aside0 (Below w.heap.size w w57) := ⟨(by rw [hw]; exact (by repeat (first | (with_reducible first | exact HB.out | apply below_alloc | apply pw_below_drewN | apply below_drew1 | refine below_set ?_ GE153.out | refine below_set ?_ GE154.out) | exact HB.out)))⟩; clear hw; clear HO_155000; clear HO170; clear BK153; clear BK154; clear HB; have HO_155000 := n0_; have HO170 := n1_; have BK153 := n2_; have BK154 := n3_; have HB := n4_; clear n0_ n1_ n2_ n3_ n4_))
              refine bodyPost_ret (results_cell_row rfl _ _ gb153 35 #[.slice Ao52 x155000_1.length co52, .slice Ao54 y168.length co54] (0, 0) _ rfl (by (with_reducible repeat (first | refine blk_drewN ?_ _ | refine blk_drew ?_ | refine blk_alloc ?_ _)); exact BK153.out) Try.underlying35 rfl (by kernel_rfl)) rfl ?_
              exact ⟨_, _, by first | rfl | (simp [errW_none, errW_some] <;> rfl) | (simp [*, errW_none, errW_some] <;> rfl), by (with_reducible repeat (first | apply Kd.R_alloc | apply Kd.R_drewN | apply Kd.R_drew)); exact HO_155000.out, by (with_reducible repeat (first | apply Kd.R_alloc | apply Kd.R_drewN | apply Kd.R_drew)); exact HO170.out, by repeat (first | (with_reducible first | exact HB.out | apply below_alloc | apply pw_below_drewN | apply below_drew1 | refine below_set ?_ GE153.out | refine below_set ?_ GE154.out) | exact HB.out)⟩
            · rw [if_neg c49] at H
              exact absurd H (by simp)

end Go.Proofs.Ytbnoeeflpegcoaa.F
