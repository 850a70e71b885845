/- Printed by a program: Lean functions that answer as the Go functions do, and the proofs of it. -/
import Derived.Test.YtfeidhmkmbgnoaaVFirstHyphens0
section
namespace Go.Proofs.Ytfeidhmkmbgnoaa.F
open Go.RowKit Go.Proofs.YtfeidhmkmbgnoaaW.PrintWords Go.Proofs.YtfeidhmkmbgnoaaW.PrintLast Go.Proofs.YtfeidhmkmbgnoaaW.PrintMore
attribute [local go_sem] max2_int min2_int max_two min_two max_three min_three max_four min_four   -- for this text's walks alone
set_option linter.unusedVariables false
set_option linter.unusedSimpArgs false
mutual
def stanzahand03_Para.j1 : Nat → List (S49) → List (S61) → Option ((List (S61)) × List Int)
  | 0, _, _ => none
  | k + 1, x0, x181000 => stanzahand03_Para.l1 k x0 0 x181000 ([] : List Int)
def stanzahand03_Para.l1 : Nat → List (S49) → Int → List (S61) → List Int → Option ((List (S61)) × List Int)
  | 0, _, _, _, _ => none
  | k + 1, x0, x8, x181000, x181001 => if x8 < (x181000.length : Int) then (if x8 > 0 then (if 0 ≤ (wrap64 (x8 - 1)) then (if (wrap64 (x8 - 1)) < (x0.length : Int) then (if x181001.length < 140737488355328 then (stanzahand03_Para.l1 k x0 (wrap64 (x8 + 1)) x181000 (x181001 ++ [Int.tmod ((rd_T49 x0 (wrap64 (x8 - 1))).f3) 4])) else (none)) else (none)) else (none)) else (if x181001.length < 140737488355328 then (stanzahand03_Para.l1 k x0 (wrap64 (x8 + 1)) x181000 (x181001 ++ [0])) else (none))) else (if x181001.length < 140737488355328 then (some (x181000, (x181001 ++ [2]))) else (none))
def stanzahand03_Para.l0 : Nat → List (S49) → Int → Int → List (S61) → Option ((List (S61)) × List Int)
  | 0, _, _, _, _ => none
  | k + 1, x0, x4, x5, x181000 => if x5 < (x0.length : Int) then (if x4 < 4000 then (if 0 ≤ x5 then (if x181000.length < 4398046511104 then (stanzahand03_Para.l0 k x0 (wrap64 (x4 + (wrap64 (1 + (wrap64 (Int.tmod ((rd_T49 x0 x5).f2) 4)))))) (wrap64 (x5 + 1)) (x181000 ++ [(⟨x4, wrap64 (1 + (wrap64 (Int.tmod ((rd_T49 x0 x5).f2) 4))), wrap64 (Int.tmod ((rd_T49 x0 x5).f0) 3), Int.tmod ((rd_T49 x0 x5).f1) 3⟩ : S61)])) else (none)) else (none)) else (stanzahand03_Para.j1 k x0 x181000)) else (stanzahand03_Para.j1 k x0 x181000)
end
def stanzahand03_Para.f (k : Nat) (l0 : List (S49)) : Option ((List (S61)) × List Int) := stanzahand03_Para.l0 k l0 0 0 ([] : List (S61))
theorem stanzahand03_Para.mono_l : ∀ k, (∀ y0 y1, LeO (stanzahand03_Para.j1 k y0 y1) (stanzahand03_Para.j1 (k + 1) y0 y1)) ∧ (∀ y0 y1 y2 y3, LeO (stanzahand03_Para.l1 k y0 y1 y2 y3) (stanzahand03_Para.l1 (k + 1) y0 y1 y2 y3)) ∧ (∀ y0 y1 y2 y3, LeO (stanzahand03_Para.l0 k y0 y1 y2 y3) (stanzahand03_Para.l0 (k + 1) y0 y1 y2 y3))
  | 0 => ⟨fun _ _ r h => by simp [stanzahand03_Para.j1] at h, fun _ _ _ _ r h => by simp [stanzahand03_Para.l1] at h, fun _ _ _ _ r h => by simp [stanzahand03_Para.l0] at h⟩
  | k + 1 => by
    obtain ⟨ih0, ih1, ih2⟩ := stanzahand03_Para.mono_l k; refine ⟨?_, ?_, ?_⟩
    · intro y0 y1
      unfold stanzahand03_Para.j1
      repeat' first
      | (with_reducible exact ih0 _ _)
      | (with_reducible exact ih1 _ _ _ _)
      | (with_reducible exact ih2 _ _ _ _)
      | (with_reducible exact LeO.refl _)
      | (with_reducible exact LeO.none _)
      | (with_reducible refine LeO.ite ?_ ?_)
      | (with_reducible refine LeO.bind ?_ (fun _ => ?_))
      | exact ih0 _ _
      | exact ih1 _ _ _ _
      | exact ih2 _ _ _ _
      | exact LeO.none _
      | refine LeO.ite ?_ ?_
      | refine LeO.bind ?_ (fun _ => ?_)
    · intro y0 y1 y2 y3
      unfold stanzahand03_Para.l1
      repeat' first
      | (with_reducible exact ih0 _ _)
      | (with_reducible exact ih1 _ _ _ _)
      | (with_reducible exact ih2 _ _ _ _)
      | (with_reducible exact LeO.refl _)
      | (with_reducible exact LeO.none _)
      | (with_reducible refine LeO.ite ?_ ?_)
      | (with_reducible refine LeO.bind ?_ (fun _ => ?_))
      | exact ih0 _ _
      | exact ih1 _ _ _ _
      | exact ih2 _ _ _ _
      | exact LeO.none _
      | refine LeO.ite ?_ ?_
      | refine LeO.bind ?_ (fun _ => ?_)
    · intro y0 y1 y2 y3
      unfold stanzahand03_Para.l0
      repeat' first
      | (with_reducible exact ih0 _ _)
      | (with_reducible exact ih1 _ _ _ _)
      | (with_reducible exact ih2 _ _ _ _)
      | (with_reducible exact LeO.refl _)
      | (with_reducible exact LeO.none _)
      | (with_reducible refine LeO.ite ?_ ?_)
      | (with_reducible refine LeO.bind ?_ (fun _ => ?_))
      | exact ih0 _ _
      | exact ih1 _ _ _ _
      | exact ih2 _ _ _ _
      | exact LeO.none _
      | refine LeO.ite ?_ ?_
      | refine LeO.bind ?_ (fun _ => ?_)
theorem stanzahand03_Para.mono : ∀ a0 k, LeO (stanzahand03_Para.f k a0) (stanzahand03_Para.f (k + 1) a0) := by
  intro a0 k
  obtain ⟨ih0, ih1, ih2⟩ := stanzahand03_Para.mono_l k; unfold stanzahand03_Para.f
  repeat' first
      | (with_reducible exact ih0 _ _)
      | (with_reducible exact ih1 _ _ _ _)
      | (with_reducible exact ih2 _ _ _ _)
      | (with_reducible exact LeO.refl _)
      | (with_reducible exact LeO.none _)
      | (with_reducible refine LeO.ite ?_ ?_)
      | (with_reducible refine LeO.bind ?_ (fun _ => ?_))
      | exact ih0 _ _
      | exact ih1 _ _ _ _
      | exact ih2 _ _ _ _
      | exact LeO.none _
      | refine LeO.ite ?_ ?_
      | refine LeO.bind ?_ (fun _ => ?_)
set_option maxHeartbeats 8000000 in
set_option maxRecDepth 100000 in
theorem stanzahand03_Para.calls (k : Nat) (A0 : Option Addr) (c0 : Nat) (l0 : List (S49)) (r1 : List (S61)) (r2 : List Int) (w : World) (hr0 : Kd.C k49 w A0 l0.length l0) (hc0 : l0.length ≤ c0) (h : stanzahand03_Para.f k l0 = some (r1, r2)) :
    Calls Try.prog 13 #[.slice A0 l0.length c0] w fun e w' => ∃ v0_ v1_ : Value, e = .returned (.agg #[v0_, v1_]) ∧ Kd.R k61 61 w' w.heap.size (fun _ => True) v0_ r1 ∧ Kd.R (Kd.int .u8) 43 w' w.heap.size (fun _ => True) v1_ r2 ∧ Below w.heap.size w w' := by
  have hu31 := Try.underlying31; have hu49 := Try.underlying49; have hu61 := Try.underlying61; have HR0 := zC.mk hr0; have HC0 := zC.mk hc0; clear hr0 hc0; have HB := zC.mk (Below.refl w.heap.size w); have H : (stanzahand03_Para.l0 k l0 0 0 ([] : List (S61))) = some (r1, r2) := h
  clear h; have HC2 := zC.mk H; clear H; go_enter Try.func13, Try.ntmps13
  go_upto_block 0 with (first | ((with_reducible refine gate_dst (N := 2) rfl ?_); refine box_event ?hg (N := 2) ?hd (cs := #[.slice none 0 0, .slice none 0 0]) (t := 31) ?hr ?_; (case hd => rfl); (case hg => rfl); (case hr => first | (go_simp; done) | (go_simp; rfl)); intro gb179 hg w3 hbox hb; have n0_ := zC.mk (below_step (by repeat (first | (with_reducible first | exact HB.out | apply zJ | apply zE | apply zI) | exact HB.out)) hb); have n1_ := zC.mk (hbox); have n2_ := zC.mk ((by rw [hg]; exact (below_size (by repeat (first | (with_reducible first | exact HB.out | apply zJ | apply zE | apply zI) | exact HB.out))) : w.heap.size ≤ gb179)); have n3_ := zC.mk ((by rw [hg]; exact (below_size (by repeat (first | (with_reducible first | exact HB.out | apply zJ | apply zE | apply zI) | exact HB.out))) : w.heap.size ≤ gb179)); clear HB; have HB := n0_; have BK179 := n1_; have GW179 := n2_; have GE179 := n3_; clear n0_ n1_ n2_ n3_; clear hb hbox hg) | ((with_reducible refine gate_dst (N := 3) rfl ?_); refine box_event ?hg (N := 3) ?hd (cs := #[.slice none 0 0, .slice none 0 0]) (t := 31) ?hr ?_; (case hd => rfl); (case hg => rfl); (case hr => first | (go_simp; done) | (go_simp; rfl)); intro gb180 hg w4 hbox hb; have n0_ := zC.mk (blk_below (g := gb179) (o := .cells #[.slice none 0 0, .slice none 0 0] 31 (0, 0)) (by (with_reducible repeat (first | refine zA ?_ _ | refine zD ?_ | refine zB ?_ _)); exact BK179.out) hb); have n1_ := zC.mk (below_step (by repeat (first | (with_reducible first | exact HB.out | apply zJ | apply zE | apply zI | refine zF ?_ GE179.out) | exact HB.out)) hb); have n2_ := zC.mk (hbox); have n3_ := zC.mk ((by rw [hg]; exact (below_size (by repeat (first | (with_reducible first | exact HB.out | apply zJ | apply zE | apply zI | refine zF ?_ GE179.out) | exact HB.out))) : w.heap.size ≤ gb180)); have n4_ := zC.mk ((by rw [hg]; exact (below_size (by repeat (first | (with_reducible first | exact HB.out | apply zJ | apply zE | apply zI | refine zF ?_ GE179.out) | exact HB.out))) : w.heap.size ≤ gb180)); have n5_ := zC.mk ((by rw [hg]; exact Nat.ne_of_lt (blk_lt (g := gb179) (o := .cells #[.slice none 0 0, .slice none 0 0] 31 (0, 0)) (by (with_reducible repeat (first | refine zA ?_ _ | refine zD ?_ | refine zB ?_ _)); exact BK179.out)) : gb179 ≠ gb180)); have n6_ := zC.mk ((by rw [hg]; exact Nat.ne_of_gt (blk_lt (g := gb179) (o := .cells #[.slice none 0 0, .slice none 0 0] 31 (0, 0)) (by (with_reducible repeat (first | refine zA ?_ _ | refine zD ?_ | refine zB ?_ _)); exact BK179.out)) : gb180 ≠ gb179)); clear BK179; clear HB; have BK179 := n0_; have HB := n1_; have BK180 := n2_; have GW180 := n3_; have GE180 := n4_; have NB179_180 := n5_; have NB180_179 := n6_; clear n0_ n1_ n2_ n3_ n4_ n5_ n6_; clear hb hbox hg; have hnb5 := NB180_179.out; have hnc5 := NB179_180.out; have hcz6_0 : w4.cell? ⟨gb180, 0, none⟩ = some (.slice none 0 0) := (zH BK180.out 0).trans rfl; have hcz6_1 : w4.cell? ⟨gb180, 1, none⟩ = some (.slice none 0 0) := (zH BK180.out 1).trans rfl; have hfz6_0 := zG BK180.out 0; have hfz6_1 := zG BK180.out 1) | ((with_reducible refine gate_store (t := 31) (p := 3) rfl ?_); refine store_event (t := 31) (p := 3) (v := ?vo_w7) (w1 := ((w4.setCell ⟨gb180, 0, none⟩ (.slice none 0 0)).setCell ⟨gb180, 1, none⟩ (.slice none 0 0))) ?hg ?ho ?hn ?hr ?_; (case ho => rfl); (case hg => rfl); (case hn => rfl); (case hr => first | (go_simp; done) | (go_simp; rfl)); intro w7 hw; have n0_ : zC (w7.heap[gb179]? = some (.cells #[.slice none 0 0, .slice none 0 0] 31 (0, 0))) := ⟨(by rw [hw]; exact (by (with_reducible repeat (first | refine zA ?_ _ | refine zD ?_ | refine zB ?_ _)); refine blk_far ?_ NB179_180.out _; (with_reducible repeat (first | refine zA ?_ _ | refine zD ?_ | refine zB ?_ _)); refine blk_far ?_ NB179_180.out _; (with_reducible repeat (first | refine zA ?_ _ | refine zD ?_ | refine zB ?_ _)); exact BK179.out))⟩; have n1_ : zC (w7.heap[gb180]? = some (.cells #[.slice none 0 0, .slice none 0 0] 31 (0, 0))) := ⟨(by rw [hw]; exact (by (with_reducible repeat (first | refine zA ?_ _ | refine zD ?_ | refine zB ?_ _)); refine blk_put (cs := #[.slice none 0 0, .slice none 0 0]) ?_ 1 _ rfl; (with_reducible repeat (first | refine zA ?_ _ | refine zD ?_ | refine zB ?_ _)); refine blk_put (cs := #[.slice none 0 0, .slice none 0 0]) ?_ 0 _ rfl; (with_reducible repeat (first | refine zA ?_ _ | refine zD ?_ | refine zB ?_ _)); exact BK180.out))⟩; have n2_ : zC (Below w.heap.size w w7) := ⟨(by rw [hw]; exact (by repeat (first | (with_reducible first | exact HB.out | apply zJ | apply zE | apply zI | refine zF ?_ GE179.out | refine zF ?_ GE180.out) | exact HB.out)))⟩; clear hw; clear BK179; clear BK180; clear HB; have BK179 := n0_; have BK180 := n1_; have HB := n2_; clear n0_ n1_ n2_))
  (try simp only [Act.put, sA_, sB_, sC_])
  go_cut [] (fun wc => ∃ (kq : Nat) (x181000_1 : List (S61)) (u181000 : Value), zC (stanzahand03_Para.j1 kq l0 x181000_1 = some (r1, r2)) ∧ zC (kq ≤ k) ∧ zC (Kd.R k61 61 wc w.heap.size (fun _ => True) u181000 x181000_1) ∧ zC (wc.heap[gb179]? = some (.cells #[(.slice none 0 0), (.slice none 0 0)] 31 (0, 0))) ∧ zC (wc.heap[gb180]? = some (.cells #[u181000, (.slice none 0 0)] 31 (0, 0))) ∧ zC (Below w.heap.size w wc))
  case first =>
    have H := HC2.out; clear HC2; have H' := zC.mk H
    clear H; go_wp2
    go_loopg [4, 5] k (fun kq v4 v5 w' => ∃ (x4_1 : Int) (x5_1 : Int) (x181000_1 : List (S61)) (u181000 : Value), v4 = .int .i64 x4_1 ∧ v5 = .int .i64 x5_1 ∧ zC (stanzahand03_Para.l0 kq l0 x4_1 x5_1 x181000_1 = some (r1, r2)) ∧ zC (kq ≤ k) ∧ zC (Kd.R k61 61 w' w.heap.size (fun _ => True) u181000 x181000_1) ∧ zC (w'.heap[gb179]? = some (.cells #[(.slice none 0 0), (.slice none 0 0)] 31 (0, 0))) ∧ zC (w'.heap[gb180]? = some (.cells #[u181000, (.slice none 0 0)] 31 (0, 0))) ∧ zC (Below w.heap.size w w'))
    case atStart => exact ⟨(0), (0), (([] : List (S61))), (.slice none 0 0), (by first | rfl | (simp; done) | (simp [*]; done)), (by first | rfl | (simp; done) | (simp [*]; done)), H', ⟨Nat.le_refl _⟩, ⟨by first | exact Kd.R_nil _ _ _ _ _ | exact Kd.N_nil _ _ _ _ _ | exact Kd.V_nil _ _ _ _ _ | exact Kd.Q_nil _ _ _ _ _ | exact Kd.S_nil _ _ _ _ _⟩, ⟨by (with_reducible repeat (first | refine zA ?_ _ | refine zD ?_ | refine zB ?_ _)); exact BK179.out⟩, ⟨by (with_reducible repeat (first | refine zA ?_ _ | refine zD ?_ | refine zB ?_ _)); exact BK180.out⟩, ⟨by repeat (first | (with_reducible first | exact HB.out | apply zJ | apply zE | apply zI | refine zF ?_ GE179.out | refine zF ?_ GE180.out) | exact HB.out)⟩⟩
    clear H'; try clear c1
    try clear p2
    try clear c5
    try clear hcz6_0
    try clear hcz6_1
    try clear hfz6_0
    try clear hfz6_1
    obtain ⟨x4_1, x5_1, x181000_1, u181000, rfl, rfl, HA, HK1, HO_181000, BK179, BK180, HB⟩ := hrel; cases gk with
    | zero => exact absurd HA.out (by simp [stanzahand03_Para.l0])
    | succ k1 =>
      have H := HA.out; clear HA; simp only [stanzahand03_Para.l0] at H; by_cases c8 : x5_1 < (l0.length : Int)
      rotate_left
      · rw [if_neg c8] at H
        have c8b0 : decide (x5_1 < (l0.length : Int)) = false := decide_eq_false c8
        clear c8; (first | rw [c8b0] | (simp only [i64_w, i32_w]; rw [c8b0]) | skip)
        have H' := zC.mk H
        clear H; go_wp2
        go_meet
        case rel => exact ⟨_, (x181000_1), (u181000), H', ⟨by have := HK1.out; first | omega | exact Nat.le_refl _⟩, ⟨by (with_reducible repeat (first | apply Kd.R_alloc | apply Kd.R_drewN | apply Kd.R_drew)); exact HO_181000.out⟩, ⟨by (with_reducible repeat (first | refine zA ?_ _ | refine zD ?_ | refine zB ?_ _)); exact BK179.out⟩, ⟨by (with_reducible repeat (first | refine zA ?_ _ | refine zD ?_ | refine zB ?_ _)); exact BK180.out⟩, ⟨by repeat (first | (with_reducible first | exact HB.out | apply zJ | apply zE | apply zI | refine zF ?_ GE179.out | refine zF ?_ GE180.out) | exact HB.out)⟩⟩
      rw [if_pos c8] at H; have c8b0 : decide (x5_1 < (l0.length : Int)) = true := decide_eq_true c8
      clear c8; (first | rw [c8b0] | (simp only [i64_w, i32_w]; rw [c8b0]) | skip)
      by_cases c9 : x4_1 < 4000
      rotate_left
      · rw [if_neg c9] at H
        have c9b0 : decide (x4_1 < 4000) = false := decide_eq_false c9
        clear c9; have H' := zC.mk H
        clear H; go_wp2
        go_meet
        case rel => exact ⟨_, (x181000_1), (u181000), H', ⟨by have := HK1.out; first | omega | exact Nat.le_refl _⟩, ⟨by (with_reducible repeat (first | apply Kd.R_alloc | apply Kd.R_drewN | apply Kd.R_drew)); exact HO_181000.out⟩, ⟨by (with_reducible repeat (first | refine zA ?_ _ | refine zD ?_ | refine zB ?_ _)); exact BK179.out⟩, ⟨by (with_reducible repeat (first | refine zA ?_ _ | refine zD ?_ | refine zB ?_ _)); exact BK180.out⟩, ⟨by repeat (first | (with_reducible first | exact HB.out | apply zJ | apply zE | apply zI | refine zF ?_ GE179.out | refine zF ?_ GE180.out) | exact HB.out)⟩⟩
      rw [if_pos c9] at H; have c9b0 : decide (x4_1 < 4000) = true := decide_eq_true c9
      clear c9; by_cases c10 : 0 ≤ x5_1
      rotate_left
      · rw [if_neg c10] at H
        exact absurd H (by simp)
      rw [if_pos c10] at H; have c10b0 : decide (0 ≤ x5_1) = true := decide_eq_true c10
      clear c10; by_cases c11 : x181000_1.length < 4398046511104
      rotate_left
      · rw [if_neg c11] at H
        exact absurd H (by simp)
      rw [if_pos c11] at H; have LMc11 := zC.mk c11; clear c11; obtain ⟨y184, hy184⟩ : ∃ y_ : List (S61), y_ = (x181000_1 ++ [(⟨x4_1, wrap64 (1 + (wrap64 (Int.tmod ((rd_T49 l0 x5_1).f2) 4))), wrap64 (Int.tmod ((rd_T49 l0 x5_1).f0) 3), Int.tmod ((rd_T49 l0 x5_1).f1) 3⟩ : S61)]) := ⟨_, rfl⟩; replace H : (stanzahand03_Para.l0 k1 l0 (wrap64 (x4_1 + (wrap64 (1 + (wrap64 (Int.tmod ((rd_T49 l0 x5_1).f2) 4)))))) (wrap64 (x5_1 + 1)) y184) = some (r1, r2) := by first | (rw [hy184]; with_reducible exact H) | (have H2_ := (Option.bind_some _ _).symm.trans H; rw [hy184]; with_reducible exact H2_) | (have H2_ := (Option.bind_some _ _).symm.trans H; with_reducible exact H2_) | with_reducible exact H | (rw [hy184]; exact H) | exact H
      have Ny184 := zC.mk hy184; clear hy184; have H' := zC.mk H
      clear H; have p181 : 0 ≤ (x5_1 : Int) := of_decide_eq_true (by first | (with_reducible assumption) | assumption)
      have q181 : x5_1 < (l0.length : Int) := of_decide_eq_true (by first | (with_reducible assumption) | assumption)
      obtain ⟨ad181, e181, hx181_0, hx181_1, hx181_2, hx181_3⟩ := at_T49 HR0.out x5_1 p181 q181; cases e181
      replace hx181_0 := (HB.out.cell (World.block_lt_of_cell? w _ hx181_0)).trans hx181_0; replace hx181_1 := (HB.out.cell (World.block_lt_of_cell? w _ hx181_1)).trans hx181_1; replace hx181_2 := (HB.out.cell (World.block_lt_of_cell? w _ hx181_2)).trans hx181_2; replace hx181_3 := (HB.out.cell (World.block_lt_of_cell? w _ hx181_3)).trans hx181_3; replace p181 := eq_true p181; replace q181 := eq_true q181; go_wp2_with (first | ((with_reducible refine gate_dst (N := 6) rfl ?_); refine box_event ?hg (N := 6) ?hd (cs := #[.int .u8 0, .int .u8 0, .int .u8 0, .int .u8 0]) (t := 49) ?hr ?_; (case hd => rfl); (case hg => rfl); (case hr => first | (go_simp; done) | (go_simp; rfl)); intro gb182 hg w12 hbox hb; have n0_ := zC.mk (Kd.R_below (by (with_reducible repeat (first | apply Kd.R_alloc | apply Kd.R_drewN | apply Kd.R_drew)); exact HO_181000.out) hb); have n1_ := zC.mk (blk_below (g := gb179) (o := .cells #[.slice none 0 0, .slice none 0 0] 31 (0, 0)) (by (with_reducible repeat (first | refine zA ?_ _ | refine zD ?_ | refine zB ?_ _)); exact BK179.out) hb); have n2_ := zC.mk (blk_below (g := gb180) (o := .cells #[u181000, .slice none 0 0] 31 (0, 0)) (by (with_reducible repeat (first | refine zA ?_ _ | refine zD ?_ | refine zB ?_ _)); exact BK180.out) hb); have n3_ := zC.mk (below_step (by repeat (first | (with_reducible first | exact HB.out | apply zJ | apply zE | apply zI | refine zF ?_ GE179.out | refine zF ?_ GE180.out) | exact HB.out)) hb); have n4_ := zC.mk (hbox); have n5_ := zC.mk ((by rw [hg]; exact (below_size (by repeat (first | (with_reducible first | exact HB.out | apply zJ | apply zE | apply zI | refine zF ?_ GE179.out | refine zF ?_ GE180.out) | exact HB.out))) : w.heap.size ≤ gb182)); have n6_ := zC.mk ((by rw [hg]; exact (below_size (by repeat (first | (with_reducible first | exact HB.out | apply zJ | apply zE | apply zI | refine zF ?_ GE179.out | refine zF ?_ GE180.out) | exact HB.out))) : w.heap.size ≤ gb182)); have n7_ := zC.mk ((by rw [hg]; exact Nat.ne_of_lt (blk_lt (g := gb179) (o := .cells #[.slice none 0 0, .slice none 0 0] 31 (0, 0)) (by (with_reducible repeat (first | refine zA ?_ _ | refine zD ?_ | refine zB ?_ _)); exact BK179.out)) : gb179 ≠ gb182)); have n8_ := zC.mk ((by rw [hg]; exact Nat.ne_of_gt (blk_lt (g := gb179) (o := .cells #[.slice none 0 0, .slice none 0 0] 31 (0, 0)) (by (with_reducible repeat (first | refine zA ?_ _ | refine zD ?_ | refine zB ?_ _)); exact BK179.out)) : gb182 ≠ gb179)); have n9_ := zC.mk ((by rw [hg]; exact Nat.ne_of_lt (blk_lt (g := gb180) (o := .cells #[u181000, .slice none 0 0] 31 (0, 0)) (by (with_reducible repeat (first | refine zA ?_ _ | refine zD ?_ | refine zB ?_ _)); exact BK180.out)) : gb180 ≠ gb182)); have n10_ := zC.mk ((by rw [hg]; exact Nat.ne_of_gt (blk_lt (g := gb180) (o := .cells #[u181000, .slice none 0 0] 31 (0, 0)) (by (with_reducible repeat (first | refine zA ?_ _ | refine zD ?_ | refine zB ?_ _)); exact BK180.out)) : gb182 ≠ gb180)); clear HO_181000; clear BK179; clear BK180; clear HB; have HO_181000 := n0_; have BK179 := n1_; have BK180 := n2_; have HB := n3_; have BK182 := n4_; have GW182 := n5_; have GE182 := n6_; have NB179_182 := n7_; have NB182_179 := n8_; have NB180_182 := n9_; have NB182_180 := n10_; clear n0_ n1_ n2_ n3_ n4_ n5_ n6_ n7_ n8_ n9_ n10_; clear hb hbox hg; have hnb13 := NB182_179.out; have hnc13 := NB179_182.out; have hnb14 := NB182_180.out; have hnc14 := NB180_182.out; have hcz15_0 : w12.cell? ⟨gb182, 0, none⟩ = some (.int .u8 0) := (zH BK182.out 0).trans rfl; have hcz15_1 : w12.cell? ⟨gb182, 1, none⟩ = some (.int .u8 0) := (zH BK182.out 1).trans rfl; have hcz15_2 : w12.cell? ⟨gb182, 2, none⟩ = some (.int .u8 0) := (zH BK182.out 2).trans rfl; have hcz15_3 : w12.cell? ⟨gb182, 3, none⟩ = some (.int .u8 0) := (zH BK182.out 3).trans rfl; have hfz15_0 := zG BK182.out 0; have hfz15_1 := zG BK182.out 1; have hfz15_2 := zG BK182.out 2; have hfz15_3 := zG BK182.out 3) | ((with_reducible refine gate_store (t := 49) (p := 6) rfl ?_); refine store_event (t := 49) (p := 6) (v := ?vo_w16) (w1 := ((((w12.setCell ⟨gb182, 0, none⟩ (.int .u8 ((rd_T49 l0 x5_1).f0))).setCell ⟨gb182, 1, none⟩ (.int .u8 ((rd_T49 l0 x5_1).f1))).setCell ⟨gb182, 2, none⟩ (.int .u8 ((rd_T49 l0 x5_1).f2))).setCell ⟨gb182, 3, none⟩ (.int .u8 ((rd_T49 l0 x5_1).f3)))) ?hg ?ho ?hn ?hr ?_; (case ho => rfl); (case hg => rfl); (case hn => rfl); (case hr => first | (go_simp; done) | (go_simp; rfl)); intro w16 hw; have n0_ : zC (Kd.R k61 61 w16 w.heap.size (fun _ => True) u181000 x181000_1) := ⟨(by rw [hw]; exact (by (with_reducible repeat (first | apply Kd.R_alloc | apply Kd.R_drewN | apply Kd.R_drew)); exact Kd.R_mono (Kd.R_far (p := ⟨gb182, 3, none⟩) (Kd.R_far (p := ⟨gb182, 2, none⟩) (Kd.R_far (p := ⟨gb182, 1, none⟩) (Kd.R_far (p := ⟨gb182, 0, none⟩) (Kd.R_types HO_181000.out BK182.out (by decide)) (fun _ hk => hk.2) (.int .u8 ((rd_T49 l0 x5_1).f0))) (fun _ hk => hk.2) (.int .u8 ((rd_T49 l0 x5_1).f1))) (fun _ hk => hk.2) (.int .u8 ((rd_T49 l0 x5_1).f2))) (fun _ hk => hk.2) (.int .u8 ((rd_T49 l0 x5_1).f3))) (fun _ hk => trivial)))⟩; have n1_ : zC (w16.heap[gb179]? = some (.cells #[.slice none 0 0, .slice none 0 0] 31 (0, 0))) := ⟨(by rw [hw]; exact (by (with_reducible repeat (first | refine zA ?_ _ | refine zD ?_ | refine zB ?_ _)); refine blk_far ?_ NB179_182.out _; (with_reducible repeat (first | refine zA ?_ _ | refine zD ?_ | refine zB ?_ _)); refine blk_far ?_ NB179_182.out _; (with_reducible repeat (first | refine zA ?_ _ | refine zD ?_ | refine zB ?_ _)); refine blk_far ?_ NB179_182.out _; (with_reducible repeat (first | refine zA ?_ _ | refine zD ?_ | refine zB ?_ _)); refine blk_far ?_ NB179_182.out _; (with_reducible repeat (first | refine zA ?_ _ | refine zD ?_ | refine zB ?_ _)); exact BK179.out))⟩; have n2_ : zC (w16.heap[gb180]? = some (.cells #[u181000, .slice none 0 0] 31 (0, 0))) := ⟨(by rw [hw]; exact (by (with_reducible repeat (first | refine zA ?_ _ | refine zD ?_ | refine zB ?_ _)); refine blk_far ?_ NB180_182.out _; (with_reducible repeat (first | refine zA ?_ _ | refine zD ?_ | refine zB ?_ _)); refine blk_far ?_ NB180_182.out _; (with_reducible repeat (first | refine zA ?_ _ | refine zD ?_ | refine zB ?_ _)); refine blk_far ?_ NB180_182.out _; (with_reducible repeat (first | refine zA ?_ _ | refine zD ?_ | refine zB ?_ _)); refine blk_far ?_ NB180_182.out _; (with_reducible repeat (first | refine zA ?_ _ | refine zD ?_ | refine zB ?_ _)); exact BK180.out))⟩; have n3_ : zC (w16.heap[gb182]? = some (.cells #[.int .u8 ((rd_T49 l0 x5_1).f0), .int .u8 ((rd_T49 l0 x5_1).f1), .int .u8 ((rd_T49 l0 x5_1).f2), .int .u8 ((rd_T49 l0 x5_1).f3)] 49 (0, 0))) := ⟨(by rw [hw]; exact (by (with_reducible repeat (first | refine zA ?_ _ | refine zD ?_ | refine zB ?_ _)); refine blk_put (cs := #[.int .u8 ((rd_T49 l0 x5_1).f0), .int .u8 ((rd_T49 l0 x5_1).f1), .int .u8 ((rd_T49 l0 x5_1).f2), .int .u8 0]) ?_ 3 _ rfl; (with_reducible repeat (first | refine zA ?_ _ | refine zD ?_ | refine zB ?_ _)); refine blk_put (cs := #[.int .u8 ((rd_T49 l0 x5_1).f0), .int .u8 ((rd_T49 l0 x5_1).f1), .int .u8 0, .int .u8 0]) ?_ 2 _ rfl; (with_reducible repeat (first | refine zA ?_ _ | refine zD ?_ | refine zB ?_ _)); refine blk_put (cs := #[.int .u8 ((rd_T49 l0 x5_1).f0), .int .u8 0, .int .u8 0, .int .u8 0]) ?_ 1 _ rfl; (with_reducible repeat (first | refine zA ?_ _ | refine zD ?_ | refine zB ?_ _)); refine blk_put (cs := #[.int .u8 0, .int .u8 0, .int .u8 0, .int .u8 0]) ?_ 0 _ rfl; (with_reducible repeat (first | refine zA ?_ _ | refine zD ?_ | refine zB ?_ _)); exact BK182.out))⟩; have n4_ : zC (Below w.heap.size w w16) := ⟨(by rw [hw]; exact (by repeat (first | (with_reducible first | exact HB.out | apply zJ | apply zE | apply zI | refine zF ?_ GE179.out | refine zF ?_ GE180.out | refine zF ?_ GE182.out) | exact HB.out)))⟩; clear hw; clear HO_181000; clear BK179; clear BK180; clear BK182; clear HB; have HO_181000 := n0_; have BK179 := n1_; have BK180 := n2_; have BK182 := n3_; have HB := n4_; clear n0_ n1_ n2_ n3_ n4_; have hcz17_0 : w16.cell? ⟨gb182, 0, none⟩ = some (.int .u8 ((rd_T49 l0 x5_1).f0)) := (zH BK182.out 0).trans rfl; have hcz17_1 : w16.cell? ⟨gb182, 1, none⟩ = some (.int .u8 ((rd_T49 l0 x5_1).f1)) := (zH BK182.out 1).trans rfl; have hcz17_2 : w16.cell? ⟨gb182, 2, none⟩ = some (.int .u8 ((rd_T49 l0 x5_1).f2)) := (zH BK182.out 2).trans rfl; have hcz17_3 : w16.cell? ⟨gb182, 3, none⟩ = some (.int .u8 ((rd_T49 l0 x5_1).f3)) := (zH BK182.out 3).trans rfl; have hfz17_0 := zG BK182.out 0; have hfz17_1 := zG BK182.out 1; have hfz17_2 := zG BK182.out 2; have hfz17_3 := zG BK182.out 3) | ((with_reducible refine gate_dst (N := 7) rfl ?_); refine box_event ?hg (N := 7) ?hd (cs := #[.int .i64 0, .int .i64 0, .int .i64 0, .int .u8 0]) (t := 61) ?hr ?_; (case hd => rfl); (case hg => rfl); (case hr => first | (go_simp; done) | (go_simp; rfl)); intro gb183 hg w18 hbox hb; have n0_ := zC.mk (Kd.R_below (Kd.R_elderB (by (with_reducible repeat (first | apply Kd.R_alloc | apply Kd.R_drewN | apply Kd.R_drew)); exact HO_181000.out) gb183 (Nat.le_of_eq hg.symm)) hb); have n1_ := zC.mk (blk_below (g := gb179) (o := .cells #[.slice none 0 0, .slice none 0 0] 31 (0, 0)) (by (with_reducible repeat (first | refine zA ?_ _ | refine zD ?_ | refine zB ?_ _)); exact BK179.out) hb); have n2_ := zC.mk (blk_below (g := gb180) (o := .cells #[u181000, .slice none 0 0] 31 (0, 0)) (by (with_reducible repeat (first | refine zA ?_ _ | refine zD ?_ | refine zB ?_ _)); exact BK180.out) hb); have n3_ := zC.mk (blk_below (g := gb182) (o := .cells #[.int .u8 ((rd_T49 l0 x5_1).f0), .int .u8 ((rd_T49 l0 x5_1).f1), .int .u8 ((rd_T49 l0 x5_1).f2), .int .u8 ((rd_T49 l0 x5_1).f3)] 49 (0, 0)) (by (with_reducible repeat (first | refine zA ?_ _ | refine zD ?_ | refine zB ?_ _)); exact BK182.out) hb); have n4_ := zC.mk (below_step (by repeat (first | (with_reducible first | exact HB.out | apply zJ | apply zE | apply zI | refine zF ?_ GE179.out | refine zF ?_ GE180.out | refine zF ?_ GE182.out) | exact HB.out)) hb); have n5_ := zC.mk (hbox); have n6_ := zC.mk ((by rw [hg]; exact (below_size (by repeat (first | (with_reducible first | exact HB.out | apply zJ | apply zE | apply zI | refine zF ?_ GE179.out | refine zF ?_ GE180.out | refine zF ?_ GE182.out) | exact HB.out))) : w.heap.size ≤ gb183)); have n7_ := zC.mk ((by rw [hg]; exact (below_size (by repeat (first | (with_reducible first | exact HB.out | apply zJ | apply zE | apply zI | refine zF ?_ GE179.out | refine zF ?_ GE180.out | refine zF ?_ GE182.out) | exact HB.out))) : w.heap.size ≤ gb183)); have n8_ := zC.mk ((by rw [hg]; exact Nat.ne_of_lt (blk_lt (g := gb179) (o := .cells #[.slice none 0 0, .slice none 0 0] 31 (0, 0)) (by (with_reducible repeat (first | refine zA ?_ _ | refine zD ?_ | refine zB ?_ _)); exact BK179.out)) : gb179 ≠ gb183)); have n9_ := zC.mk ((by rw [hg]; exact Nat.ne_of_gt (blk_lt (g := gb179) (o := .cells #[.slice none 0 0, .slice none 0 0] 31 (0, 0)) (by (with_reducible repeat (first | refine zA ?_ _ | refine zD ?_ | refine zB ?_ _)); exact BK179.out)) : gb183 ≠ gb179)); have n10_ := zC.mk ((by rw [hg]; exact Nat.ne_of_lt (blk_lt (g := gb180) (o := .cells #[u181000, .slice none 0 0] 31 (0, 0)) (by (with_reducible repeat (first | refine zA ?_ _ | refine zD ?_ | refine zB ?_ _)); exact BK180.out)) : gb180 ≠ gb183)); have n11_ := zC.mk ((by rw [hg]; exact Nat.ne_of_gt (blk_lt (g := gb180) (o := .cells #[u181000, .slice none 0 0] 31 (0, 0)) (by (with_reducible repeat (first | refine zA ?_ _ | refine zD ?_ | refine zB ?_ _)); exact BK180.out)) : gb183 ≠ gb180)); have n12_ := zC.mk ((by rw [hg]; exact Nat.ne_of_lt (blk_lt (g := gb182) (o := .cells #[.int .u8 ((rd_T49 l0 x5_1).f0), .int .u8 ((rd_T49 l0 x5_1).f1), .int .u8 ((rd_T49 l0 x5_1).f2), .int .u8 ((rd_T49 l0 x5_1).f3)] 49 (0, 0)) (by (with_reducible repeat (first | refine zA ?_ _ | refine zD ?_ | refine zB ?_ _)); exact BK182.out)) : gb182 ≠ gb183)); have n13_ := zC.mk ((by rw [hg]; exact Nat.ne_of_gt (blk_lt (g := gb182) (o := .cells #[.int .u8 ((rd_T49 l0 x5_1).f0), .int .u8 ((rd_T49 l0 x5_1).f1), .int .u8 ((rd_T49 l0 x5_1).f2), .int .u8 ((rd_T49 l0 x5_1).f3)] 49 (0, 0)) (by (with_reducible repeat (first | refine zA ?_ _ | refine zD ?_ | refine zB ?_ _)); exact BK182.out)) : gb183 ≠ gb182)); clear HO_181000; clear BK179; clear BK180; clear BK182; clear HB; have HO_181000 := n0_; have BK179 := n1_; have BK180 := n2_; have BK182 := n3_; have HB := n4_; have BK183 := n5_; have GW183 := n6_; have GE183 := n7_; have NB179_183 := n8_; have NB183_179 := n9_; have NB180_183 := n10_; have NB183_180 := n11_; have NB182_183 := n12_; have NB183_182 := n13_; clear n0_ n1_ n2_ n3_ n4_ n5_ n6_ n7_ n8_ n9_ n10_ n11_ n12_ n13_; clear hb hbox hg; have hnb19 := NB183_179.out; have hnc19 := NB179_183.out; have hnb20 := NB183_180.out; have hnc20 := NB180_183.out; have hnb21 := NB183_182.out; have hnc21 := NB182_183.out; have hcz22_0 : w18.cell? ⟨gb183, 0, none⟩ = some (.int .i64 0) := (zH BK183.out 0).trans rfl; have hcz22_1 : w18.cell? ⟨gb183, 1, none⟩ = some (.int .i64 0) := (zH BK183.out 1).trans rfl; have hcz22_2 : w18.cell? ⟨gb183, 2, none⟩ = some (.int .i64 0) := (zH BK183.out 2).trans rfl; have hcz22_3 : w18.cell? ⟨gb183, 3, none⟩ = some (.int .u8 0) := (zH BK183.out 3).trans rfl; have hfz22_0 := zG BK183.out 0; have hfz22_1 := zG BK183.out 1; have hfz22_2 := zG BK183.out 2; have hfz22_3 := zG BK183.out 3) | ((with_reducible refine gate_store (t := 61) (p := 7) rfl ?_); refine store_event (t := 61) (p := 7) (v := ?vo_w23) (w1 := ((((w18.setCell ⟨gb183, 0, none⟩ (.int .i64 x4_1)).setCell ⟨gb183, 1, none⟩ (.int .i64 (wrap64 (1 + (wrap64 (Int.tmod ((rd_T49 l0 x5_1).f2) 4)))))).setCell ⟨gb183, 2, none⟩ (.int .i64 (wrap64 (Int.tmod ((rd_T49 l0 x5_1).f0) 3)))).setCell ⟨gb183, 3, none⟩ (.int .u8 (Int.tmod ((rd_T49 l0 x5_1).f1) 3)))) ?hg ?ho ?hn ?hr ?_; (case ho => rfl); (case hg => rfl); (case hn => rfl); (case hr => first | (go_simp; done) | (go_simp; rfl)); intro w23 hw; have n0_ : zC (Kd.R k61 61 w23 w.heap.size (fun k_ => k_ ≠ gb183) u181000 x181000_1) := ⟨(by rw [hw]; exact (by (with_reducible repeat (first | apply Kd.R_alloc | apply Kd.R_drewN | apply Kd.R_drew)); exact Kd.R_mono (Kd.R_far (p := ⟨gb183, 3, none⟩) (Kd.R_far (p := ⟨gb183, 2, none⟩) (Kd.R_far (p := ⟨gb183, 1, none⟩) (Kd.R_far (p := ⟨gb183, 0, none⟩) (Kd.R_mono HO_181000.out (fun k_ hk => (⟨hk, hk.2⟩ : _ ∧ k_ ≠ gb183))) (fun _ hk => hk.2) (.int .i64 x4_1)) (fun _ hk => hk.2) (.int .i64 (wrap64 (1 + (wrap64 (Int.tmod ((rd_T49 l0 x5_1).f2) 4)))))) (fun _ hk => hk.2) (.int .i64 (wrap64 (Int.tmod ((rd_T49 l0 x5_1).f0) 3)))) (fun _ hk => hk.2) (.int .u8 (Int.tmod ((rd_T49 l0 x5_1).f1) 3))) (fun _ hk => hk.1.2)))⟩; have n1_ : zC (w23.heap[gb179]? = some (.cells #[.slice none 0 0, .slice none 0 0] 31 (0, 0))) := ⟨(by rw [hw]; exact (by (with_reducible repeat (first | refine zA ?_ _ | refine zD ?_ | refine zB ?_ _)); refine blk_far ?_ NB179_183.out _; (with_reducible repeat (first | refine zA ?_ _ | refine zD ?_ | refine zB ?_ _)); refine blk_far ?_ NB179_183.out _; (with_reducible repeat (first | refine zA ?_ _ | refine zD ?_ | refine zB ?_ _)); refine blk_far ?_ NB179_183.out _; (with_reducible repeat (first | refine zA ?_ _ | refine zD ?_ | refine zB ?_ _)); refine blk_far ?_ NB179_183.out _; (with_reducible repeat (first | refine zA ?_ _ | refine zD ?_ | refine zB ?_ _)); exact BK179.out))⟩; have n2_ : zC (w23.heap[gb180]? = some (.cells #[u181000, .slice none 0 0] 31 (0, 0))) := ⟨(by rw [hw]; exact (by (with_reducible repeat (first | refine zA ?_ _ | refine zD ?_ | refine zB ?_ _)); refine blk_far ?_ NB180_183.out _; (with_reducible repeat (first | refine zA ?_ _ | refine zD ?_ | refine zB ?_ _)); refine blk_far ?_ NB180_183.out _; (with_reducible repeat (first | refine zA ?_ _ | refine zD ?_ | refine zB ?_ _)); refine blk_far ?_ NB180_183.out _; (with_reducible repeat (first | refine zA ?_ _ | refine zD ?_ | refine zB ?_ _)); refine blk_far ?_ NB180_183.out _; (with_reducible repeat (first | refine zA ?_ _ | refine zD ?_ | refine zB ?_ _)); exact BK180.out))⟩; have n3_ : zC (w23.heap[gb182]? = some (.cells #[.int .u8 ((rd_T49 l0 x5_1).f0), .int .u8 ((rd_T49 l0 x5_1).f1), .int .u8 ((rd_T49 l0 x5_1).f2), .int .u8 ((rd_T49 l0 x5_1).f3)] 49 (0, 0))) := ⟨(by rw [hw]; exact (by (with_reducible repeat (first | refine zA ?_ _ | refine zD ?_ | refine zB ?_ _)); refine blk_far ?_ NB182_183.out _; (with_reducible repeat (first | refine zA ?_ _ | refine zD ?_ | refine zB ?_ _)); refine blk_far ?_ NB182_183.out _; (with_reducible repeat (first | refine zA ?_ _ | refine zD ?_ | refine zB ?_ _)); refine blk_far ?_ NB182_183.out _; (with_reducible repeat (first | refine zA ?_ _ | refine zD ?_ | refine zB ?_ _)); refine blk_far ?_ NB182_183.out _; (with_reducible repeat (first | refine zA ?_ _ | refine zD ?_ | refine zB ?_ _)); exact BK182.out))⟩; have n4_ : zC (w23.heap[gb183]? = some (.cells #[.int .i64 x4_1, .int .i64 (wrap64 (1 + (wrap64 (Int.tmod ((rd_T49 l0 x5_1).f2) 4)))), .int .i64 (wrap64 (Int.tmod ((rd_T49 l0 x5_1).f0) 3)), .int .u8 (Int.tmod ((rd_T49 l0 x5_1).f1) 3)] 61 (0, 0))) := ⟨(by rw [hw]; exact (by (with_reducible repeat (first | refine zA ?_ _ | refine zD ?_ | refine zB ?_ _)); refine blk_put (cs := #[.int .i64 x4_1, .int .i64 (wrap64 (1 + (wrap64 (Int.tmod ((rd_T49 l0 x5_1).f2) 4)))), .int .i64 (wrap64 (Int.tmod ((rd_T49 l0 x5_1).f0) 3)), .int .u8 0]) ?_ 3 _ rfl; (with_reducible repeat (first | refine zA ?_ _ | refine zD ?_ | refine zB ?_ _)); refine blk_put (cs := #[.int .i64 x4_1, .int .i64 (wrap64 (1 + (wrap64 (Int.tmod ((rd_T49 l0 x5_1).f2) 4)))), .int .i64 0, .int .u8 0]) ?_ 2 _ rfl; (with_reducible repeat (first | refine zA ?_ _ | refine zD ?_ | refine zB ?_ _)); refine blk_put (cs := #[.int .i64 x4_1, .int .i64 0, .int .i64 0, .int .u8 0]) ?_ 1 _ rfl; (with_reducible repeat (first | refine zA ?_ _ | refine zD ?_ | refine zB ?_ _)); refine blk_put (cs := #[.int .i64 0, .int .i64 0, .int .i64 0, .int .u8 0]) ?_ 0 _ rfl; (with_reducible repeat (first | refine zA ?_ _ | refine zD ?_ | refine zB ?_ _)); exact BK183.out))⟩; have n5_ : zC (Below w.heap.size w w23) := ⟨(by rw [hw]; exact (by repeat (first | (with_reducible first | exact HB.out | apply zJ | apply zE | apply zI | refine zF ?_ GE179.out | refine zF ?_ GE180.out | refine zF ?_ GE182.out | refine zF ?_ GE183.out) | exact HB.out)))⟩; clear hw; clear HO_181000; clear BK179; clear BK180; clear BK182; clear BK183; clear HB; have HO_181000 := n0_; have BK179 := n1_; have BK180 := n2_; have BK182 := n3_; have BK183 := n4_; have HB := n5_; clear n0_ n1_ n2_ n3_ n4_ n5_; have hcz24_0 : w23.cell? ⟨gb183, 0, none⟩ = some (.int .i64 x4_1) := (zH BK183.out 0).trans rfl; have hcz24_1 : w23.cell? ⟨gb183, 1, none⟩ = some (.int .i64 (wrap64 (1 + (wrap64 (Int.tmod ((rd_T49 l0 x5_1).f2) 4))))) := (zH BK183.out 1).trans rfl; have hcz24_2 : w23.cell? ⟨gb183, 2, none⟩ = some (.int .i64 (wrap64 (Int.tmod ((rd_T49 l0 x5_1).f0) 3))) := (zH BK183.out 2).trans rfl; have hcz24_3 : w23.cell? ⟨gb183, 3, none⟩ = some (.int .u8 (Int.tmod ((rd_T49 l0 x5_1).f1) 3)) := (zH BK183.out 3).trans rfl; have hfz24_0 := zG BK183.out 0; have hfz24_1 := zG BK183.out 1; have hfz24_2 := zG BK183.out 2; have hfz24_3 := zG BK183.out 3; have hnb25 := NB180_179.out; have hnc25 := NB179_180.out; have hcz26_0 : w23.cell? ⟨gb180, 0, none⟩ = some (u181000) := (zH BK180.out 0).trans rfl; have hcz26_1 : w23.cell? ⟨gb180, 1, none⟩ = some (.slice none 0 0) := (zH BK180.out 1).trans rfl; have hfz26_0 := zG BK180.out 0; have hfz26_1 := zG BK180.out 1) | ((with_reducible refine gate_builtin (b := .append) (xs := #[.tmp 44, .tmp 46]) rfl ?_); at_builtin; refine Kd.R_append k61 (w0 := w) w.heap.size rfl (.tmp 44) (.tmp 46) 28 61 (.agg #[(.int .i64 0), (.int .i64 0), (.int .i64 0), (.int .u8 0)]) 32 rfl Try.underlying28 info61 rfl (by decide) (by omega) u181000 x181000_1 (⟨x4_1, wrap64 (1 + (wrap64 (Int.tmod ((rd_T49 l0 x5_1).f2) 4))), wrap64 (Int.tmod ((rd_T49 l0 x5_1).f0) 3), Int.tmod ((rd_T49 l0 x5_1).f1) 3⟩ : S61) [.int .i64 x4_1, .int .i64 (wrap64 (1 + (wrap64 (Int.tmod ((rd_T49 l0 x5_1).f2) 4)))), .int .i64 (wrap64 (Int.tmod ((rd_T49 l0 x5_1).f0) 3)), .int .u8 (Int.tmod ((rd_T49 l0 x5_1).f1) 3)] (fun k_ => k_ ≠ gb183) (fun _ => False) rfl rfl ?aP (fun _ hk => hk.elim) ?aF ?aO ?aB ?aS ?aL ?_; (case aP => exact k61_mkM _ _ _ (⟨x4_1, wrap64 (1 + (wrap64 (Int.tmod ((rd_T49 l0 x5_1).f2) 4))), wrap64 (Int.tmod ((rd_T49 l0 x5_1).f0) 3), Int.tmod ((rd_T49 l0 x5_1).f1) 3⟩ : S61)); (case aB => exact (by repeat (first | (with_reducible first | exact HB.out | apply zJ | apply zE | apply zI | refine zF ?_ GE179.out | refine zF ?_ GE180.out | refine zF ?_ GE182.out | refine zF ?_ GE183.out) | exact HB.out))); (case aF => exact (fun k_ hk => Kd.freshB (g := gb183) (o := .cells #[.int .i64 x4_1, .int .i64 (wrap64 (1 + (wrap64 (Int.tmod ((rd_T49 l0 x5_1).f2) 4)))), .int .i64 (wrap64 (Int.tmod ((rd_T49 l0 x5_1).f0) 3)), .int .u8 (Int.tmod ((rd_T49 l0 x5_1).f1) 3)] 61 (0, 0)) (by (with_reducible repeat (first | refine zA ?_ _ | refine zD ?_ | refine zB ?_ _)); exact BK183.out) k_ hk)); (case aO => exact (by (with_reducible repeat (first | apply Kd.R_alloc | apply Kd.R_drewN | apply Kd.R_drew)); exact HO_181000.out)); (case aS => exact (below_size (by repeat (first | (with_reducible first | exact HB.out | apply zJ | apply zE | apply zI | refine zF ?_ GE179.out | refine zF ?_ GE180.out | refine zF ?_ GE182.out | refine zF ?_ GE183.out) | exact HB.out)))); (case aL => have := LMc11.out; omega); intro v185 w27 ho hb hg hat; rw [← Ny184.out] at ho; have n0_ := zC.mk (blk_grown (g := gb179) (o := .cells #[.slice none 0 0, .slice none 0 0] 31 (0, 0)) (by (with_reducible repeat (first | refine zA ?_ _ | refine zD ?_ | refine zB ?_ _)); exact BK179.out) hg (Kd.R_ne HO_181000.out BK179.out (by decide))); have n1_ := zC.mk (blk_grown (g := gb180) (o := .cells #[u181000, .slice none 0 0] 31 (0, 0)) (by (with_reducible repeat (first | refine zA ?_ _ | refine zD ?_ | refine zB ?_ _)); exact BK180.out) hg (Kd.R_ne HO_181000.out BK180.out (by decide))); have n2_ := zC.mk (blk_grown (g := gb182) (o := .cells #[.int .u8 ((rd_T49 l0 x5_1).f0), .int .u8 ((rd_T49 l0 x5_1).f1), .int .u8 ((rd_T49 l0 x5_1).f2), .int .u8 ((rd_T49 l0 x5_1).f3)] 49 (0, 0)) (by (with_reducible repeat (first | refine zA ?_ _ | refine zD ?_ | refine zB ?_ _)); exact BK182.out) hg (Kd.R_ne HO_181000.out BK182.out (by decide))); have n3_ := zC.mk (blk_grown (g := gb183) (o := .cells #[.int .i64 x4_1, .int .i64 (wrap64 (1 + (wrap64 (Int.tmod ((rd_T49 l0 x5_1).f2) 4)))), .int .i64 (wrap64 (Int.tmod ((rd_T49 l0 x5_1).f0) 3)), .int .u8 (Int.tmod ((rd_T49 l0 x5_1).f1) 3)] 61 (0, 0)) (by (with_reducible repeat (first | refine zA ?_ _ | refine zD ?_ | refine zB ?_ _)); exact BK183.out) hg (Kd.R_away HO_181000.out (fun _ hk => hk))); have n4_ := zC.mk (hb); have n5_ := zC.mk (ho); clear BK179; clear BK180; clear BK182; clear BK183; clear HB; clear HO_181000; have BK179 := n0_; have BK180 := n1_; have BK182 := n2_; have BK183 := n3_; have HB := n4_; have HO186 := n5_; clear n0_ n1_ n2_ n3_ n4_ n5_; clear ho hb hg hat; obtain ⟨Ao28, co28, eo28⟩ := Kd.R_slice HO186.out; subst eo28; have hcz29_0 : w27.cell? ⟨gb180, 0, none⟩ = some (u181000) := (zH BK180.out 0).trans rfl; have hcz29_1 : w27.cell? ⟨gb180, 1, none⟩ = some (.slice none 0 0) := (zH BK180.out 1).trans rfl; have hfz29_0 := zG BK180.out 0; have hfz29_1 := zG BK180.out 1))
      go_roundg k1
      case measure => have := HK1.out; omega
      case rel => exact ⟨(wrap64 (x4_1 + (wrap64 (1 + (wrap64 (Int.tmod ((rd_T49 l0 x5_1).f2) 4)))))), (wrap64 (x5_1 + 1)), (y184), (.slice Ao28 y184.length co28), (by first | rfl | (simp; done) | (simp [*]; done)), (by first | rfl | (simp; done) | (simp [*]; done)), H', ⟨by have := HK1.out; omega⟩, ⟨by (with_reducible repeat (first | apply Kd.R_alloc | apply Kd.R_drewN | apply Kd.R_drew)); exact Kd.R_mono (Kd.R_far (p := ⟨gb180, 0, none⟩) (Kd.R_types HO186.out BK180.out (by decide)) (fun _ hk => hk.2) (.slice Ao28 y184.length co28)) (fun _ hk => trivial)⟩, ⟨by (with_reducible repeat (first | refine zA ?_ _ | refine zD ?_ | refine zB ?_ _)); refine blk_far ?_ NB179_180.out _; (with_reducible repeat (first | refine zA ?_ _ | refine zD ?_ | refine zB ?_ _)); exact BK179.out⟩, ⟨by (with_reducible repeat (first | refine zA ?_ _ | refine zD ?_ | refine zB ?_ _)); refine blk_put (cs := #[u181000, .slice none 0 0]) ?_ 0 _ rfl; (with_reducible repeat (first | refine zA ?_ _ | refine zD ?_ | refine zB ?_ _)); exact BK180.out⟩, ⟨by repeat (first | (with_reducible first | exact HB.out | apply zJ | apply zE | apply zI | refine zF ?_ GE179.out | refine zF ?_ GE180.out | refine zF ?_ GE182.out | refine zF ?_ GE183.out) | exact HB.out)⟩⟩
  clear HC2; try clear c1
  try clear p1
  try clear q1
  try clear hx1
  try clear c2
  try clear p2
  try clear c5
  try clear p6
  try clear c8
  try clear c8b0
  try clear c9
  try clear c9b0
  try clear c10
  try clear c10b0
  try clear c11
  try clear c13
  try clear c14
  try clear p18
  try clear q18
  try clear hx18
  try clear c19
  try clear c20
  try clear c21
  try clear c25
  try clear hcz15_0
  try clear hcz15_1
  try clear hcz15_2
  try clear hcz15_3
  try clear hcz17_0
  try clear hcz17_1
  try clear hcz17_2
  try clear hcz17_3
  try clear hcz22_0
  try clear hcz22_1
  try clear hcz22_2
  try clear hcz22_3
  try clear hcz24_0
  try clear hcz24_1
  try clear hcz24_2
  try clear hcz24_3
  try clear hcz26_0
  try clear hcz26_1
  try clear hcz29_0
  try clear hcz29_1
  try clear hcz6_0
  try clear hcz6_1
  try clear hfz15_0
  try clear hfz15_1
  try clear hfz15_2
  try clear hfz15_3
  try clear hfz17_0
  try clear hfz17_1
  try clear hfz17_2
  try clear hfz17_3
  try clear hfz22_0
  try clear hfz22_1
  try clear hfz22_2
  try clear hfz22_3
  try clear hfz24_0
  try clear hfz24_1
  try clear hfz24_2
  try clear hfz24_3
  try clear hfz26_0
  try clear hfz26_1
  try clear hfz29_0
  try clear hfz29_1
  try clear hfz6_0
  try clear hfz6_1
  try clear hx181_0
  try clear hx181_1
  try clear hx181_2
  try clear hx181_3
  try clear p181
  try clear p2
  try clear q181
  obtain ⟨kq, x181000_1, u181000, HA, HJ1, HO_181000, BK179, BK180, HB⟩ := hcut; cases kq with
  | zero => exact absurd HA.out (by simp [stanzahand03_Para.j1])
  | succ kj1 =>
    have H := HA.out; clear HA; simp only [stanzahand03_Para.j1] at H; have H' := zC.mk H
    clear H; go_wp2
    go_loopg [8] kj1 (fun kq v8 w' => ∃ (x8_2 : Int) (x181001_2 : List Int) (u181001 : Value), v8 = .int .i64 x8_2 ∧ zC (stanzahand03_Para.l1 kq l0 x8_2 x181000_1 x181001_2 = some (r1, r2)) ∧ zC (kq ≤ kj1) ∧ zC (Kd.R k61 61 w' w.heap.size (fun _ => True) u181000 x181000_1) ∧ zC (Kd.R (Kd.int .u8) 43 w' w.heap.size (fun _ => True) u181001 x181001_2) ∧ zC (w'.heap[gb179]? = some (.cells #[(.slice none 0 0), (.slice none 0 0)] 31 (0, 0))) ∧ zC (w'.heap[gb180]? = some (.cells #[u181000, u181001] 31 (0, 0))) ∧ zC (Below w.heap.size w w'))
    case atStart => exact ⟨(0), (([] : List Int)), (.slice none 0 0), (by first | rfl | (simp; done) | (simp [*]; done)), H', ⟨Nat.le_refl _⟩, ⟨by (with_reducible repeat (first | apply Kd.R_alloc | apply Kd.R_drewN | apply Kd.R_drew)); exact HO_181000.out⟩, ⟨by first | exact Kd.R_nil _ _ _ _ _ | exact Kd.N_nil _ _ _ _ _ | exact Kd.V_nil _ _ _ _ _ | exact Kd.Q_nil _ _ _ _ _ | exact Kd.S_nil _ _ _ _ _⟩, ⟨by (with_reducible repeat (first | refine zA ?_ _ | refine zD ?_ | refine zB ?_ _)); exact BK179.out⟩, ⟨by (with_reducible repeat (first | refine zA ?_ _ | refine zD ?_ | refine zB ?_ _)); exact BK180.out⟩, ⟨by repeat (first | (with_reducible first | exact HB.out | apply zJ | apply zE | apply zI | refine zF ?_ GE179.out | refine zF ?_ GE180.out) | exact HB.out)⟩⟩
    clear H'; try clear c1
    try clear p1
    try clear q1
    try clear hx1
    try clear c2
    try clear p2
    try clear c5
    try clear p6
    try clear c8
    try clear c8b0
    try clear c9
    try clear c9b0
    try clear c10
    try clear c10b0
    try clear c11
    try clear c13
    try clear c14
    try clear p18
    try clear q18
    try clear hx18
    try clear c19
    try clear c20
    try clear c21
    try clear c25
    try clear hcz15_0
    try clear hcz15_1
    try clear hcz15_2
    try clear hcz15_3
    try clear hcz17_0
    try clear hcz17_1
    try clear hcz17_2
    try clear hcz17_3
    try clear hcz22_0
    try clear hcz22_1
    try clear hcz22_2
    try clear hcz22_3
    try clear hcz24_0
    try clear hcz24_1
    try clear hcz24_2
    try clear hcz24_3
    try clear hcz26_0
    try clear hcz26_1
    try clear hcz29_0
    try clear hcz29_1
    try clear hcz6_0
    try clear hcz6_1
    try clear hfz15_0
    try clear hfz15_1
    try clear hfz15_2
    try clear hfz15_3
    try clear hfz17_0
    try clear hfz17_1
    try clear hfz17_2
    try clear hfz17_3
    try clear hfz22_0
    try clear hfz22_1
    try clear hfz22_2
    try clear hfz22_3
    try clear hfz24_0
    try clear hfz24_1
    try clear hfz24_2
    try clear hfz24_3
    try clear hfz26_0
    try clear hfz26_1
    try clear hfz29_0
    try clear hfz29_1
    try clear hfz6_0
    try clear hfz6_1
    try clear hx181_0
    try clear hx181_1
    try clear hx181_2
    try clear hx181_3
    try clear p1
    try clear p18
    try clear p181
    try clear p2
    try clear p6
    try clear q1
    try clear q18
    try clear q181
    obtain ⟨x8_2, x181001_2, u181001, rfl, HA, HK2, HO_181000, HO_181001, BK179, BK180, HB⟩ := hrel; cases gk with
    | zero => exact absurd HA.out (by simp [stanzahand03_Para.l1])
    | succ k2 =>
      have H := HA.out; clear HA; simp only [stanzahand03_Para.l1] at H; by_cases c30 : x8_2 < (x181000_1.length : Int)
      rotate_left
      · rw [if_neg c30] at H
        have c30b0 : decide (x8_2 < (x181000_1.length : Int)) = false := decide_eq_false c30
        clear c30; by_cases c49 : x181001_2.length < 140737488355328
        rotate_left
        · rw [if_neg c49] at H
          exact absurd H (by simp)
        rw [if_pos c49] at H; have LMc49 := zC.mk c49; clear c49; obtain ⟨y194, hy194⟩ : ∃ y_ : List Int, y_ = (x181001_2 ++ [2]) := ⟨_, rfl⟩; replace H : (some (x181000_1, y194)) = some (r1, r2) := by first | (rw [hy194]; with_reducible exact H) | (have H2_ := (Option.bind_some _ _).symm.trans H; rw [hy194]; with_reducible exact H2_) | (have H2_ := (Option.bind_some _ _).symm.trans H; with_reducible exact H2_) | with_reducible exact H | (rw [hy194]; exact H) | exact H
        have Ny194 := zC.mk hy194; clear hy194; simp only [Option.some.injEq, Prod.mk.injEq] at H; obtain ⟨rfl, rfl⟩ := H; have hnb50 := NB180_179.out; have hnc50 := NB179_180.out; have hcz51_0 : wr.cell? ⟨gb180, 0, none⟩ = some (u181000) := (zH BK180.out 0).trans rfl
        have hcz51_1 : wr.cell? ⟨gb180, 1, none⟩ = some (u181001) := (zH BK180.out 1).trans rfl
        have hfz51_0 := zG BK180.out 0; have hfz51_1 := zG BK180.out 1; obtain ⟨Ao52, co52, eo52⟩ := Kd.R_slice HO_181000.out; subst eo52; go_wp2_with (first | ((with_reducible refine gate_builtin (b := .append) (xs := #[.tmp 72, .tmp 73]) rfl ?_); at_builtin; refine Kd.R_append (Kd.int .u8) (w0 := w) w.heap.size rfl (.tmp 72) (.tmp 73) 29 43 (.int .u8 0) 1 rfl Try.underlying29 info43 rfl (by decide) (by omega) u181001 x181001_2 2 [.int .u8 2] (fun _ => True) (fun _ => False) rfl rfl ?aP (fun _ hk => hk.elim) ?aF ?aO ?aB ?aS ?aL ?_; (case aP => exact rfl); (case aB => exact (by repeat (first | (with_reducible first | exact HB.out | apply zJ | apply zE | apply zI | refine zF ?_ GE179.out | refine zF ?_ GE180.out) | exact HB.out))); (case aF => exact (fun _ _ => trivial)); (case aO => exact (by (with_reducible repeat (first | apply Kd.R_alloc | apply Kd.R_drewN | apply Kd.R_drew)); exact HO_181001.out)); (case aS => exact (below_size (by repeat (first | (with_reducible first | exact HB.out | apply zJ | apply zE | apply zI | refine zF ?_ GE179.out | refine zF ?_ GE180.out) | exact HB.out)))); (case aL => have := LMc49.out; omega); intro v195 w53 ho hb hg hat; rw [← Ny194.out] at ho; have n0_ := zC.mk (Kd.R_over' (by (with_reducible repeat (first | apply Kd.R_alloc | apply Kd.R_drewN | apply Kd.R_drew)); exact HO_181000.out) (Kd.R_typed (by (with_reducible repeat (first | apply Kd.R_alloc | apply Kd.R_drewN | apply Kd.R_drew)); exact HO_181001.out)) (by decide) hg); have n1_ := zC.mk (blk_grown (g := gb179) (o := .cells #[.slice none 0 0, .slice none 0 0] 31 (0, 0)) (by (with_reducible repeat (first | refine zA ?_ _ | refine zD ?_ | refine zB ?_ _)); exact BK179.out) hg (Kd.R_ne HO_181001.out BK179.out (by decide))); have n2_ := zC.mk (blk_grown (g := gb180) (o := .cells #[.slice Ao52 x181000_1.length co52, u181001] 31 (0, 0)) (by (with_reducible repeat (first | refine zA ?_ _ | refine zD ?_ | refine zB ?_ _)); exact BK180.out) hg (Kd.R_ne HO_181001.out BK180.out (by decide))); have n3_ := zC.mk (hb); have n4_ := zC.mk (ho); clear HO_181000; clear BK179; clear BK180; clear HB; clear HO_181001; have HO_181000 := n0_; have BK179 := n1_; have BK180 := n2_; have HB := n3_; have HO196 := n4_; clear n0_ n1_ n2_ n3_ n4_; clear ho hb hg hat; obtain ⟨Ao54, co54, eo54⟩ := Kd.R_slice HO196.out; subst eo54; have hcz55_0 : w53.cell? ⟨gb180, 0, none⟩ = some (.slice Ao52 x181000_1.length co52) := (zH BK180.out 0).trans rfl; have hcz55_1 : w53.cell? ⟨gb180, 1, none⟩ = some (u181001) := (zH BK180.out 1).trans rfl; have hfz55_0 := zG BK180.out 0; have hfz55_1 := zG BK180.out 1; have hcz56_0 : w53.cell? ⟨gb179, 0, none⟩ = some (.slice none 0 0) := (zH BK179.out 0).trans rfl; have hcz56_1 : w53.cell? ⟨gb179, 1, none⟩ = some (.slice none 0 0) := (zH BK179.out 1).trans rfl; have hfz56_0 := zG BK179.out 0; have hfz56_1 := zG BK179.out 1) | ((with_reducible refine gate_store (t := 31) (p := 2) rfl ?_); refine store_event (t := 31) (p := 2) (v := ?vo_w57) (w1 := (((w53.setCell ⟨gb180, 1, none⟩ (.slice Ao54 y194.length co54)).setCell ⟨gb179, 0, none⟩ (.slice Ao52 x181000_1.length co52)).setCell ⟨gb179, 1, none⟩ (.slice Ao54 y194.length co54))) ?hg ?ho ?hn ?hr ?_; (case ho => rfl); (case hg => rfl); (case hn => rfl); (case hr => first | (go_simp; done) | (go_simp; rfl)); intro w57 hw; have n0_ : zC (Kd.R k61 61 w57 w.heap.size (fun _ => True) (.slice Ao52 x181000_1.length co52) x181000_1) := ⟨(by rw [hw]; exact (by (with_reducible repeat (first | apply Kd.R_alloc | apply Kd.R_drewN | apply Kd.R_drew)); exact Kd.R_mono (Kd.R_far (p := ⟨gb179, 1, none⟩) (Kd.R_far (p := ⟨gb179, 0, none⟩) (Kd.R_far (p := ⟨gb180, 1, none⟩) (Kd.R_types (Kd.R_types HO_181000.out BK180.out (by decide)) BK179.out (by decide)) (fun _ hk => hk.1.2) (.slice Ao54 y194.length co54)) (fun _ hk => hk.2) (.slice Ao52 x181000_1.length co52)) (fun _ hk => hk.2) (.slice Ao54 y194.length co54)) (fun _ hk => trivial)))⟩; have n1_ : zC (Kd.R (Kd.int .u8) 43 w57 w.heap.size (fun _ => True) (.slice Ao54 y194.length co54) y194) := ⟨(by rw [hw]; exact (by (with_reducible repeat (first | apply Kd.R_alloc | apply Kd.R_drewN | apply Kd.R_drew)); exact Kd.R_mono (Kd.R_far (p := ⟨gb179, 1, none⟩) (Kd.R_far (p := ⟨gb179, 0, none⟩) (Kd.R_far (p := ⟨gb180, 1, none⟩) (Kd.R_types (Kd.R_types HO196.out BK180.out (by decide)) BK179.out (by decide)) (fun _ hk => hk.1.2) (.slice Ao54 y194.length co54)) (fun _ hk => hk.2) (.slice Ao52 x181000_1.length co52)) (fun _ hk => hk.2) (.slice Ao54 y194.length co54)) (fun _ hk => trivial)))⟩; have n2_ : zC (w57.heap[gb179]? = some (.cells #[.slice Ao52 x181000_1.length co52, .slice Ao54 y194.length co54] 31 (0, 0))) := ⟨(by rw [hw]; exact (by (with_reducible repeat (first | refine zA ?_ _ | refine zD ?_ | refine zB ?_ _)); refine blk_put (cs := #[.slice Ao52 x181000_1.length co52, .slice none 0 0]) ?_ 1 _ rfl; (with_reducible repeat (first | refine zA ?_ _ | refine zD ?_ | refine zB ?_ _)); refine blk_put (cs := #[.slice none 0 0, .slice none 0 0]) ?_ 0 _ rfl; (with_reducible repeat (first | refine zA ?_ _ | refine zD ?_ | refine zB ?_ _)); refine blk_far ?_ NB179_180.out _; (with_reducible repeat (first | refine zA ?_ _ | refine zD ?_ | refine zB ?_ _)); exact BK179.out))⟩; have n3_ : zC (w57.heap[gb180]? = some (.cells #[.slice Ao52 x181000_1.length co52, .slice Ao54 y194.length co54] 31 (0, 0))) := ⟨(by rw [hw]; exact (by (with_reducible repeat (first | refine zA ?_ _ | refine zD ?_ | refine zB ?_ _)); refine blk_far ?_ NB180_179.out _; (with_reducible repeat (first | refine zA ?_ _ | refine zD ?_ | refine zB ?_ _)); refine blk_far ?_ NB180_179.out _; (with_reducible repeat (first | refine zA ?_ _ | refine zD ?_ | refine zB ?_ _)); refine blk_put (cs := #[.slice Ao52 x181000_1.length co52, u181001]) ?_ 1 _ rfl; (with_reducible repeat (first | refine zA ?_ _ | refine zD ?_ | refine zB ?_ _)); exact BK180.out))⟩; have n4_ : zC (Below w.heap.size w w57) := ⟨(by rw [hw]; exact (by repeat (first | (with_reducible first | exact HB.out | apply zJ | apply zE | apply zI | refine zF ?_ GE179.out | refine zF ?_ GE180.out) | exact HB.out)))⟩; clear hw; clear HO_181000; clear HO196; clear BK179; clear BK180; clear HB; have HO_181000 := n0_; have HO196 := n1_; have BK179 := n2_; have BK180 := n3_; have HB := n4_; clear n0_ n1_ n2_ n3_ n4_))
        refine bodyPost_ret (results_cell_row rfl _ _ gb179 31 #[.slice Ao52 x181000_1.length co52, .slice Ao54 y194.length co54] (0, 0) _ rfl (by (with_reducible repeat (first | refine zA ?_ _ | refine zD ?_ | refine zB ?_ _)); exact BK179.out) Try.underlying31 rfl (by kernel_rfl)) rfl ?_
        exact ⟨_, _, by first | rfl | (simp [errW_none, errW_some] <;> rfl) | (simp [*, errW_none, errW_some] <;> rfl), by (with_reducible repeat (first | apply Kd.R_alloc | apply Kd.R_drewN | apply Kd.R_drew)); exact HO_181000.out, by (with_reducible repeat (first | apply Kd.R_alloc | apply Kd.R_drewN | apply Kd.R_drew)); exact HO196.out, by repeat (first | (with_reducible first | exact HB.out | apply zJ | apply zE | apply zI | refine zF ?_ GE179.out | refine zF ?_ GE180.out) | exact HB.out)⟩
      rw [if_pos c30] at H; have c30b0 : decide (x8_2 < (x181000_1.length : Int)) = true := decide_eq_true c30
      clear c30; by_cases c31 : x8_2 > 0
      rotate_left
      · rw [if_neg c31] at H
        have c31b0 : decide (0 < x8_2) = false := decide_eq_false c31
        clear c31; by_cases c42 : x181001_2.length < 140737488355328
        rotate_left
        · rw [if_neg c42] at H
          exact absurd H (by simp)
        rw [if_pos c42] at H; have LMc42 := zC.mk c42; clear c42; obtain ⟨y191, hy191⟩ : ∃ y_ : List Int, y_ = (x181001_2 ++ [0]) := ⟨_, rfl⟩; replace H : (stanzahand03_Para.l1 k2 l0 (wrap64 (x8_2 + 1)) x181000_1 y191) = some (r1, r2) := by first | (rw [hy191]; with_reducible exact H) | (have H2_ := (Option.bind_some _ _).symm.trans H; rw [hy191]; with_reducible exact H2_) | (have H2_ := (Option.bind_some _ _).symm.trans H; with_reducible exact H2_) | with_reducible exact H | (rw [hy191]; exact H) | exact H
        have Ny191 := zC.mk hy191; clear hy191; have H' := zC.mk H
        clear H; have hnb43 := NB180_179.out; have hnc43 := NB179_180.out; have hcz44_0 : wr.cell? ⟨gb180, 0, none⟩ = some (u181000) := (zH BK180.out 0).trans rfl
        have hcz44_1 : wr.cell? ⟨gb180, 1, none⟩ = some (u181001) := (zH BK180.out 1).trans rfl
        have hfz44_0 := zG BK180.out 0; have hfz44_1 := zG BK180.out 1; obtain ⟨Ao45, co45, eo45⟩ := Kd.R_slice HO_181000.out; subst eo45; go_wp2_with (first | ((with_reducible refine gate_builtin (b := .append) (xs := #[.tmp 66, .tmp 68]) rfl ?_); at_builtin; refine Kd.R_append (Kd.int .u8) (w0 := w) w.heap.size rfl (.tmp 66) (.tmp 68) 29 43 (.int .u8 0) 1 rfl Try.underlying29 info43 rfl (by decide) (by omega) u181001 x181001_2 0 [.int .u8 0] (fun _ => True) (fun _ => False) rfl rfl ?aP (fun _ hk => hk.elim) ?aF ?aO ?aB ?aS ?aL ?_; (case aP => exact rfl); (case aB => exact (by repeat (first | (with_reducible first | exact HB.out | apply zJ | apply zE | apply zI | refine zF ?_ GE179.out | refine zF ?_ GE180.out) | exact HB.out))); (case aF => exact (fun _ _ => trivial)); (case aO => exact (by (with_reducible repeat (first | apply Kd.R_alloc | apply Kd.R_drewN | apply Kd.R_drew)); exact HO_181001.out)); (case aS => exact (below_size (by repeat (first | (with_reducible first | exact HB.out | apply zJ | apply zE | apply zI | refine zF ?_ GE179.out | refine zF ?_ GE180.out) | exact HB.out)))); (case aL => have := LMc42.out; omega); intro v192 w46 ho hb hg hat; rw [← Ny191.out] at ho; have n0_ := zC.mk (Kd.R_over' (by (with_reducible repeat (first | apply Kd.R_alloc | apply Kd.R_drewN | apply Kd.R_drew)); exact HO_181000.out) (Kd.R_typed (by (with_reducible repeat (first | apply Kd.R_alloc | apply Kd.R_drewN | apply Kd.R_drew)); exact HO_181001.out)) (by decide) hg); have n1_ := zC.mk (blk_grown (g := gb179) (o := .cells #[.slice none 0 0, .slice none 0 0] 31 (0, 0)) (by (with_reducible repeat (first | refine zA ?_ _ | refine zD ?_ | refine zB ?_ _)); exact BK179.out) hg (Kd.R_ne HO_181001.out BK179.out (by decide))); have n2_ := zC.mk (blk_grown (g := gb180) (o := .cells #[.slice Ao45 x181000_1.length co45, u181001] 31 (0, 0)) (by (with_reducible repeat (first | refine zA ?_ _ | refine zD ?_ | refine zB ?_ _)); exact BK180.out) hg (Kd.R_ne HO_181001.out BK180.out (by decide))); have n3_ := zC.mk (hb); have n4_ := zC.mk (ho); clear HO_181000; clear BK179; clear BK180; clear HB; clear HO_181001; have HO_181000 := n0_; have BK179 := n1_; have BK180 := n2_; have HB := n3_; have HO193 := n4_; clear n0_ n1_ n2_ n3_ n4_; clear ho hb hg hat; obtain ⟨Ao47, co47, eo47⟩ := Kd.R_slice HO193.out; subst eo47; have hcz48_0 : w46.cell? ⟨gb180, 0, none⟩ = some (.slice Ao45 x181000_1.length co45) := (zH BK180.out 0).trans rfl; have hcz48_1 : w46.cell? ⟨gb180, 1, none⟩ = some (u181001) := (zH BK180.out 1).trans rfl; have hfz48_0 := zG BK180.out 0; have hfz48_1 := zG BK180.out 1))
        go_roundg k2
        case measure => have := HJ1.out; have := HK2.out; omega
        case rel => exact ⟨(wrap64 (x8_2 + 1)), (y191), (.slice Ao47 y191.length co47), (by first | rfl | (simp; done) | (simp [*]; done)), H', ⟨by have := HJ1.out; have := HK2.out; omega⟩, ⟨by (with_reducible repeat (first | apply Kd.R_alloc | apply Kd.R_drewN | apply Kd.R_drew)); exact Kd.R_mono (Kd.R_far (p := ⟨gb180, 1, none⟩) (Kd.R_types HO_181000.out BK180.out (by decide)) (fun _ hk => hk.2) (.slice Ao47 y191.length co47)) (fun _ hk => trivial)⟩, ⟨by (with_reducible repeat (first | apply Kd.R_alloc | apply Kd.R_drewN | apply Kd.R_drew)); exact Kd.R_mono (Kd.R_far (p := ⟨gb180, 1, none⟩) (Kd.R_types HO193.out BK180.out (by decide)) (fun _ hk => hk.2) (.slice Ao47 y191.length co47)) (fun _ hk => trivial)⟩, ⟨by (with_reducible repeat (first | refine zA ?_ _ | refine zD ?_ | refine zB ?_ _)); refine blk_far ?_ NB179_180.out _; (with_reducible repeat (first | refine zA ?_ _ | refine zD ?_ | refine zB ?_ _)); exact BK179.out⟩, ⟨by (with_reducible repeat (first | refine zA ?_ _ | refine zD ?_ | refine zB ?_ _)); refine blk_put (cs := #[.slice Ao45 x181000_1.length co45, u181001]) ?_ 1 _ rfl; (with_reducible repeat (first | refine zA ?_ _ | refine zD ?_ | refine zB ?_ _)); exact BK180.out⟩, ⟨by repeat (first | (with_reducible first | exact HB.out | apply zJ | apply zE | apply zI | refine zF ?_ GE179.out | refine zF ?_ GE180.out) | exact HB.out)⟩⟩
      rw [if_pos c31] at H; have c31b0 : decide (0 < x8_2) = true := decide_eq_true c31
      clear c31; obtain ⟨ji32, hji32⟩ : ∃ j_ : Int, (wrap64 (x8_2 - 1)) = j_ := ⟨_, rfl⟩; replace H : (if 0 ≤ (ji32) then (if (ji32) < (l0.length : Int) then (if x181001_2.length < 140737488355328 then (stanzahand03_Para.l1 k2 l0 (wrap64 (x8_2 + 1)) x181000_1 (x181001_2 ++ [Int.tmod ((rd_T49 l0 (ji32)).f3) 4])) else (none)) else (none)) else (none)) = some (r1, r2) := by first | (rw [hji32] at H; exact H) | (simp only [hji32] at H ⊢; exact H)
      have hji32w : (IntKind.i64.wrap (x8_2 - 1)) = ji32 := (i64_w _).trans hji32
      by_cases c33 : 0 ≤ (ji32)
      rotate_left
      · rw [if_neg c33] at H
        exact absurd H (by simp)
      rw [if_pos c33] at H; have c33b0 : decide (0 ≤ (ji32)) = true := decide_eq_true c33
      clear c33; by_cases c34 : (ji32) < (l0.length : Int)
      rotate_left
      · rw [if_neg c34] at H
        exact absurd H (by simp)
      rw [if_pos c34] at H; have c34b0 : decide ((ji32) < (l0.length : Int)) = true := decide_eq_true c34
      clear c34; by_cases c35 : x181001_2.length < 140737488355328
      rotate_left
      · rw [if_neg c35] at H
        exact absurd H (by simp)
      rw [if_pos c35] at H; have LMc35 := zC.mk c35; clear c35; obtain ⟨y188, hy188⟩ : ∃ y_ : List Int, y_ = (x181001_2 ++ [Int.tmod ((rd_T49 l0 (ji32)).f3) 4]) := ⟨_, rfl⟩; replace H : (stanzahand03_Para.l1 k2 l0 (wrap64 (x8_2 + 1)) x181000_1 y188) = some (r1, r2) := by first | (rw [hy188]; with_reducible exact H) | (have H2_ := (Option.bind_some _ _).symm.trans H; rw [hy188]; with_reducible exact H2_) | (have H2_ := (Option.bind_some _ _).symm.trans H; with_reducible exact H2_) | with_reducible exact H | (rw [hy188]; exact H) | exact H
      have Ny188 := zC.mk hy188; clear hy188; have H' := zC.mk H
      clear H; have hnb36 := NB180_179.out; have hnc36 := NB179_180.out; have hcz37_0 : wr.cell? ⟨gb180, 0, none⟩ = some (u181000) := (zH BK180.out 0).trans rfl
      have hcz37_1 : wr.cell? ⟨gb180, 1, none⟩ = some (u181001) := (zH BK180.out 1).trans rfl
      have hfz37_0 := zG BK180.out 0; have hfz37_1 := zG BK180.out 1; obtain ⟨Ao38, co38, eo38⟩ := Kd.R_slice HO_181000.out; subst eo38; have p187 : 0 ≤ ((ji32) : Int) := of_decide_eq_true (by first | (with_reducible assumption) | assumption)
      have q187 : (ji32) < (l0.length : Int) := of_decide_eq_true (by first | (with_reducible assumption) | assumption)
      obtain ⟨ad187, e187, hx187_0, hx187_1, hx187_2, hx187_3⟩ := at_T49 HR0.out (ji32) p187 q187; cases e187
      replace hx187_0 := (HB.out.cell (World.block_lt_of_cell? w _ hx187_0)).trans hx187_0; replace hx187_1 := (HB.out.cell (World.block_lt_of_cell? w _ hx187_1)).trans hx187_1; replace hx187_2 := (HB.out.cell (World.block_lt_of_cell? w _ hx187_2)).trans hx187_2; replace hx187_3 := (HB.out.cell (World.block_lt_of_cell? w _ hx187_3)).trans hx187_3; replace p187 := eq_true p187; replace q187 := eq_true q187; go_wp2_with (first | ((with_reducible refine gate_builtin (b := .append) (xs := #[.tmp 66, .tmp 68]) rfl ?_); at_builtin; refine Kd.R_append (Kd.int .u8) (w0 := w) w.heap.size rfl (.tmp 66) (.tmp 68) 29 43 (.int .u8 0) 1 rfl Try.underlying29 info43 rfl (by decide) (by omega) u181001 x181001_2 (Int.tmod ((rd_T49 l0 (ji32)).f3) 4) [.int .u8 (Int.tmod ((rd_T49 l0 (ji32)).f3) 4)] (fun _ => True) (fun _ => False) rfl rfl ?aP (fun _ hk => hk.elim) ?aF ?aO ?aB ?aS ?aL ?_; (case aP => exact rfl); (case aB => exact (by repeat (first | (with_reducible first | exact HB.out | apply zJ | apply zE | apply zI | refine zF ?_ GE179.out | refine zF ?_ GE180.out) | exact HB.out))); (case aF => exact (fun _ _ => trivial)); (case aO => exact (by (with_reducible repeat (first | apply Kd.R_alloc | apply Kd.R_drewN | apply Kd.R_drew)); exact HO_181001.out)); (case aS => exact (below_size (by repeat (first | (with_reducible first | exact HB.out | apply zJ | apply zE | apply zI | refine zF ?_ GE179.out | refine zF ?_ GE180.out) | exact HB.out)))); (case aL => have := LMc35.out; omega); intro v189 w39 ho hb hg hat; rw [← Ny188.out] at ho; have n0_ := zC.mk (Kd.R_over' (by (with_reducible repeat (first | apply Kd.R_alloc | apply Kd.R_drewN | apply Kd.R_drew)); exact HO_181000.out) (Kd.R_typed (by (with_reducible repeat (first | apply Kd.R_alloc | apply Kd.R_drewN | apply Kd.R_drew)); exact HO_181001.out)) (by decide) hg); have n1_ := zC.mk (blk_grown (g := gb179) (o := .cells #[.slice none 0 0, .slice none 0 0] 31 (0, 0)) (by (with_reducible repeat (first | refine zA ?_ _ | refine zD ?_ | refine zB ?_ _)); exact BK179.out) hg (Kd.R_ne HO_181001.out BK179.out (by decide))); have n2_ := zC.mk (blk_grown (g := gb180) (o := .cells #[.slice Ao38 x181000_1.length co38, u181001] 31 (0, 0)) (by (with_reducible repeat (first | refine zA ?_ _ | refine zD ?_ | refine zB ?_ _)); exact BK180.out) hg (Kd.R_ne HO_181001.out BK180.out (by decide))); have n3_ := zC.mk (hb); have n4_ := zC.mk (ho); clear HO_181000; clear BK179; clear BK180; clear HB; clear HO_181001; have HO_181000 := n0_; have BK179 := n1_; have BK180 := n2_; have HB := n3_; have HO190 := n4_; clear n0_ n1_ n2_ n3_ n4_; clear ho hb hg hat; obtain ⟨Ao40, co40, eo40⟩ := Kd.R_slice HO190.out; subst eo40; have hcz41_0 : w39.cell? ⟨gb180, 0, none⟩ = some (.slice Ao38 x181000_1.length co38) := (zH BK180.out 0).trans rfl; have hcz41_1 : w39.cell? ⟨gb180, 1, none⟩ = some (u181001) := (zH BK180.out 1).trans rfl; have hfz41_0 := zG BK180.out 0; have hfz41_1 := zG BK180.out 1))
      go_roundg k2
      case measure => have := HJ1.out; have := HK2.out; omega
      case rel => exact ⟨(wrap64 (x8_2 + 1)), (y188), (.slice Ao40 y188.length co40), (by first | rfl | (simp; done) | (simp [*]; done)), H', ⟨by have := HJ1.out; have := HK2.out; omega⟩, ⟨by (with_reducible repeat (first | apply Kd.R_alloc | apply Kd.R_drewN | apply Kd.R_drew)); exact Kd.R_mono (Kd.R_far (p := ⟨gb180, 1, none⟩) (Kd.R_types HO_181000.out BK180.out (by decide)) (fun _ hk => hk.2) (.slice Ao40 y188.length co40)) (fun _ hk => trivial)⟩, ⟨by (with_reducible repeat (first | apply Kd.R_alloc | apply Kd.R_drewN | apply Kd.R_drew)); exact Kd.R_mono (Kd.R_far (p := ⟨gb180, 1, none⟩) (Kd.R_types HO190.out BK180.out (by decide)) (fun _ hk => hk.2) (.slice Ao40 y188.length co40)) (fun _ hk => trivial)⟩, ⟨by (with_reducible repeat (first | refine zA ?_ _ | refine zD ?_ | refine zB ?_ _)); refine blk_far ?_ NB179_180.out _; (with_reducible repeat (first | refine zA ?_ _ | refine zD ?_ | refine zB ?_ _)); exact BK179.out⟩, ⟨by (with_reducible repeat (first | refine zA ?_ _ | refine zD ?_ | refine zB ?_ _)); refine blk_put (cs := #[.slice Ao38 x181000_1.length co38, u181001]) ?_ 1 _ rfl; (with_reducible repeat (first | refine zA ?_ _ | refine zD ?_ | refine zB ?_ _)); exact BK180.out⟩, ⟨by repeat (first | (with_reducible first | exact HB.out | apply zJ | apply zE | apply zI | refine zF ?_ GE179.out | refine zF ?_ GE180.out) | exact HB.out)⟩⟩
end Go.Proofs.Ytfeidhmkmbgnoaa.F
end
section
namespace Go.Proofs.Ytfeidhmkmbgnoaa.F
open Go.RowKit Go.Proofs.YtfeidhmkmbgnoaaW.PrintWords Go.Proofs.YtfeidhmkmbgnoaaW.PrintLast Go.Proofs.YtfeidhmkmbgnoaaW.PrintMore
attribute [local go_sem] max2_int min2_int max_two min_two max_three min_three max_four min_four   -- for this text's walks alone
set_option linter.unusedVariables false
set_option linter.unusedSimpArgs false
def stanzalaw14_Text.l0 : Nat → List (S49) → List Int → Int → Int → Option ((List (S61)) × List Int)
  | 0, _, _, _, _ => none
  | k + 1, x3, x8, x9, x10 => if x10 < x9 then (if 0 ≤ x10 then (if x10 < (x8.length : Int) then (if (rd x8 x10) = 32 then (if x3.length < 35184372088832 then (stanzalaw14_Text.l0 k (x3 ++ [(⟨1, 1, 0, 1⟩ : S49)]) x8 x9 (wrap64 (x10 + 1))) else (none)) else (if x3.length < 35184372088832 then (stanzalaw14_Text.l0 k (x3 ++ [(⟨1, 0, 0, 0⟩ : S49)]) x8 x9 (wrap64 (x10 + 1))) else (none))) else (none)) else (none)) else ((stanzahand03_Para.f k x3).bind fun bt211 => (some (bt211.1, bt211.2)))
def stanzalaw14_Text.f (k : Nat) (a0 : ByteArray) : Option ((List (S61)) × List Int) := if (a0.size : Int) ≤ 140737488355327 then ((some (bytesOf a0 : List Int)).bind fun y199 => (stanzalaw14_Text.l0 k ([] : List (S49)) y199 (y199.length : Int) 0)) else (none)
theorem stanzalaw14_Text.mono_l : ∀ k, (∀ y0 y1 y2 y3, LeO (stanzalaw14_Text.l0 k y0 y1 y2 y3) (stanzalaw14_Text.l0 (k + 1) y0 y1 y2 y3))
  | 0 => fun _ _ _ _ r h => by simp [stanzalaw14_Text.l0] at h
  | k + 1 => by
    have ih0 := stanzalaw14_Text.mono_l k
    · intro y0 y1 y2 y3
      unfold stanzalaw14_Text.l0
      repeat' first
      | (with_reducible exact ih0 _ _ _ _)
      | (with_reducible exact stanzahand03_Para.mono _ _)
      | (with_reducible exact LeO.refl _)
      | (with_reducible exact LeO.none _)
      | (with_reducible refine LeO.ite ?_ ?_)
      | (with_reducible refine LeO.bind ?_ (fun _ => ?_))
      | exact ih0 _ _ _ _
      | exact stanzahand03_Para.mono _ _
      | exact LeO.none _
      | refine LeO.ite ?_ ?_
      | refine LeO.bind ?_ (fun _ => ?_)
theorem stanzalaw14_Text.mono : ∀ a0 k, LeO (stanzalaw14_Text.f k a0) (stanzalaw14_Text.f (k + 1) a0) := by
  intro a0 k
  have ih0 := stanzalaw14_Text.mono_l k; unfold stanzalaw14_Text.f
  repeat' first
      | (with_reducible exact ih0 _ _ _ _)
      | (with_reducible exact stanzahand03_Para.mono _ _)
      | (with_reducible exact LeO.refl _)
      | (with_reducible exact LeO.none _)
      | (with_reducible refine LeO.ite ?_ ?_)
      | (with_reducible refine LeO.bind ?_ (fun _ => ?_))
      | exact ih0 _ _ _ _
      | exact stanzahand03_Para.mono _ _
      | exact LeO.none _
      | refine LeO.ite ?_ ?_
      | refine LeO.bind ?_ (fun _ => ?_)
set_option maxHeartbeats 8000000 in
set_option maxRecDepth 100000 in
theorem stanzalaw14_Text.calls (k : Nat) (a0 : ByteArray) (r1 : List (S61)) (r2 : List Int) (w : World) (h : stanzalaw14_Text.f k a0 = some (r1, r2)) :
    Calls Try.prog 28 #[.string a0] w fun e w' => ∃ v0_ v1_ : Value, e = .returned (.agg #[v0_, v1_]) ∧ Kd.R k61 61 w' w.heap.size (fun _ => True) v0_ r1 ∧ Kd.R (Kd.int .u8) 43 w' w.heap.size (fun _ => True) v1_ r2 ∧ Below w.heap.size w w' := by
  have hu31 := Try.underlying31; have hu49 := Try.underlying49; have HB := zC.mk (Below.refl w.heap.size w); have H : (if (a0.size : Int) ≤ 140737488355327 then ((some (bytesOf a0 : List Int)).bind fun y199 => (stanzalaw14_Text.l0 k ([] : List (S49)) y199 (y199.length : Int) 0)) else (none)) = some (r1, r2) := h
  clear h; by_cases c2 : (a0.size : Int) ≤ 140737488355327
  rotate_left
  · rw [if_neg c2] at H
    exact absurd H (by simp)
  rw [if_pos c2] at H; have c2b0 := eq_true c2; have c2b1 : decide ((a0.size : Int) ≤ 140737488355327) = true := decide_eq_true c2
  clear c2; obtain ⟨y199, hy199⟩ : ∃ y_ : List Int, y_ = (bytesOf a0) := ⟨_, rfl⟩; replace H : (stanzalaw14_Text.l0 k ([] : List (S49)) y199 (y199.length : Int) 0) = some (r1, r2) := by first | (rw [hy199]; with_reducible exact H) | (have H2_ := (Option.bind_some _ _).symm.trans H; rw [hy199]; with_reducible exact H2_) | (have H2_ := (Option.bind_some _ _).symm.trans H; with_reducible exact H2_) | with_reducible exact H | (rw [hy199]; exact H) | exact H
  have Ny199 := zC.mk hy199; clear hy199; have H' := zC.mk H
  clear H; go_enter Try.func28, Try.ntmps28
  go_wp2_with (first | ((with_reducible refine gate_dst (N := 2) rfl ?_); refine box_event ?hg (N := 2) ?hd (cs := #[.slice none 0 0, .slice none 0 0]) (t := 31) ?hr ?_; (case hd => rfl); (case hg => rfl); (case hr => first | (go_simp; done) | (go_simp; rfl)); intro gb197 hg w3 hbox hb; have n0_ := zC.mk (below_step (by repeat (first | (with_reducible first | exact HB.out | apply zJ | apply zE | apply zI) | exact HB.out)) hb); have n1_ := zC.mk (hbox); have n2_ := zC.mk ((by rw [hg]; exact (below_size (by repeat (first | (with_reducible first | exact HB.out | apply zJ | apply zE | apply zI) | exact HB.out))) : w.heap.size ≤ gb197)); have n3_ := zC.mk ((by rw [hg]; exact (below_size (by repeat (first | (with_reducible first | exact HB.out | apply zJ | apply zE | apply zI) | exact HB.out))) : w.heap.size ≤ gb197)); clear HB; have HB := n0_; have BK197 := n1_; have GW197 := n2_; have GE197 := n3_; clear n0_ n1_ n2_ n3_; clear hb hbox hg) | ((with_reducible refine gate_dst (N := 8) rfl ?_); refine conv_event ?hg (N := 8) ?hd (src := 9) (dst := 51) (e := 5) (s := a0) (x := ?cx) ?ho ?hx Try.underlying9 Try.underlying51 Try.underlying5 (of_decide_eq_true (by first | (with_reducible assumption) | assumption)) y199 Ny199.out ?_; (case hd => rfl); (case hg => rfl); (case ho => rfl); (case hx => first | rfl | (go_simp; done)); intro gb198 hg cv198 ob198 w4 hcap hcv hbox hb; have HV198 := zC.mk hcv; have HC202 := zC.mk hcap; clear hcv hcap; have n0_ := zC.mk (blk_below (g := gb197) (o := .cells #[.slice none 0 0, .slice none 0 0] 31 (0, 0)) (by (with_reducible repeat (first | refine zA ?_ _ | refine zD ?_ | refine zB ?_ _)); exact BK197.out) hb); have n1_ := zC.mk (below_step (by repeat (first | (with_reducible first | exact HB.out | apply zJ | apply zE | apply zI | refine zF ?_ GE197.out) | exact HB.out)) hb); have n2_ := zC.mk (hbox); have n3_ := zC.mk ((by rw [hg]; exact (below_size (by repeat (first | (with_reducible first | exact HB.out | apply zJ | apply zE | apply zI | refine zF ?_ GE197.out) | exact HB.out))) : w.heap.size ≤ gb198)); have n4_ := zC.mk ((by rw [hg]; exact (below_size (by repeat (first | (with_reducible first | exact HB.out | apply zJ | apply zE | apply zI | refine zF ?_ GE197.out) | exact HB.out))) : w.heap.size ≤ gb198)); have n5_ := zC.mk ((by rw [hg]; exact Nat.ne_of_lt (blk_lt (g := gb197) (o := .cells #[.slice none 0 0, .slice none 0 0] 31 (0, 0)) (by (with_reducible repeat (first | refine zA ?_ _ | refine zD ?_ | refine zB ?_ _)); exact BK197.out)) : gb197 ≠ gb198)); have n6_ := zC.mk ((by rw [hg]; exact Nat.ne_of_gt (blk_lt (g := gb197) (o := .cells #[.slice none 0 0, .slice none 0 0] 31 (0, 0)) (by (with_reducible repeat (first | refine zA ?_ _ | refine zD ?_ | refine zB ?_ _)); exact BK197.out)) : gb198 ≠ gb197)); clear BK197; clear HB; have BK197 := n0_; have HB := n1_; have BK198 := n2_; have GW198 := n3_; have GE198 := n4_; have NB197_198 := n5_; have NB198_197 := n6_; clear n0_ n1_ n2_ n3_ n4_ n5_ n6_; clear hb hbox hg))
  go_loopg [3, 10] k (fun kq v3 v10 w' => ∃ (x3_1 : List (S49)) (x10_1 : Int), v10 = .int .i64 x10_1 ∧ zC (stanzalaw14_Text.l0 kq x3_1 y199 (y199.length : Int) x10_1 = some (r1, r2)) ∧ zC (kq ≤ k) ∧ zC (Kd.R k49 49 w' w.heap.size (fun k_ => k_ ≠ gb198) v3 x3_1) ∧ zC (w'.heap[gb197]? = some (.cells #[(.slice none 0 0), (.slice none 0 0)] 31 (0, 0))) ∧ zC (w'.heap[gb198]? = some ob198) ∧ zC (Below w.heap.size w w'))
  case atStart => exact ⟨(([] : List (S49))), (0), (by first | rfl | (simp; done) | (simp [*]; done)), H', ⟨Nat.le_refl _⟩, ⟨by first | exact Kd.R_nil _ _ _ _ _ | exact Kd.N_nil _ _ _ _ _ | exact Kd.V_nil _ _ _ _ _ | exact Kd.Q_nil _ _ _ _ _ | exact Kd.S_nil _ _ _ _ _⟩, ⟨by (with_reducible repeat (first | refine zA ?_ _ | refine zD ?_ | refine zB ?_ _)); exact BK197.out⟩, ⟨by (with_reducible repeat (first | refine zA ?_ _ | refine zD ?_ | refine zB ?_ _)); exact BK198.out⟩, ⟨by repeat (first | (with_reducible first | exact HB.out | apply zJ | apply zE | apply zI | refine zF ?_ GE197.out | refine zF ?_ GE198.out) | exact HB.out)⟩⟩
  clear H'; try clear c2
  try clear c2b0
  try clear c2b1
  try clear p2
  obtain ⟨x3_1, x10_1, rfl, HA, HK1, HO_3, BK197, BK198, HB⟩ := hrel; cases gk with
  | zero => exact absurd HA.out (by simp [stanzalaw14_Text.l0])
  | succ k1 =>
    have H := HA.out; clear HA; simp only [stanzalaw14_Text.l0] at H; by_cases c5 : x10_1 < (y199.length : Int)
    rotate_left
    · rw [if_neg c5] at H
      have c5b0 : decide (x10_1 < (y199.length : Int)) = false := decide_eq_false c5
      clear c5; replace H := Option.bind_eq_some_iff.mp H; obtain ⟨⟨t211, t214⟩, A270, H⟩ := H; replace H : (some (t211, t214)) = some (r1, r2) := H; have A27 := zC.mk A270; clear A270; simp only [Option.some.injEq, Prod.mk.injEq] at H; obtain ⟨rfl, rfl⟩ := H; obtain ⟨Ao28, co28, eo28⟩ := Kd.R_slice HO_3.out; subst eo28; go_wp2_with (first | ((with_reducible refine gate_callee (f := 13) rfl ?_); refine goesL_ (some 25) rfl rfl Try.func13 (by kernel_rfl) rfl #[.slice Ao28 x3_1.length co28] rfl (by (try simp only [List.map_toArray, List.map_cons, List.map_nil]); first | done | rfl | (simp only [List.length_drop, List.length_take]; rfl)) ?_; (with_reducible refine (stanzahand03_Para.calls k1 _ _ x3_1 t211 t214 _ ?side1 ?side2 A27.out).mono ?_); (case side1 => repeat (first | exact (Kd.R_reads' HO_3.out).2.2 | (with_reducible refine Kd.C_alloc ?_ _) | (with_reducible refine Kd.C_drewN ?_ _) | (with_reducible refine Kd.C_drew ?_))); (case side2 => exact (Kd.R_reads' HO_3.out).2.1); rintro e w29 ⟨v212, v215, rfl, ho0, ho1, hb⟩; refine ⟨_, rfl, ?_⟩; have n0_ := zC.mk (Kd.R_below (by (with_reducible repeat (first | apply Kd.R_alloc | apply Kd.R_drewN | apply Kd.R_drew)); exact HO_3.out) hb); have n1_ := zC.mk (Kd.R_lower (Kd.R_newB ho0 (g := gb198) (o := ob198) (by (with_reducible repeat (first | refine zA ?_ _ | refine zD ?_ | refine zB ?_ _)); exact BK198.out)) (below_size (by repeat (first | (with_reducible first | exact HB.out | apply zJ | apply zE | apply zI | refine zF ?_ GE197.out | refine zF ?_ GE198.out) | exact HB.out)))); have n2_ := zC.mk (Kd.R_lower (Kd.R_newB ho1 (g := gb198) (o := ob198) (by (with_reducible repeat (first | refine zA ?_ _ | refine zD ?_ | refine zB ?_ _)); exact BK198.out)) (below_size (by repeat (first | (with_reducible first | exact HB.out | apply zJ | apply zE | apply zI | refine zF ?_ GE197.out | refine zF ?_ GE198.out) | exact HB.out)))); have n3_ := zC.mk (blk_below (g := gb197) (o := .cells #[.slice none 0 0, .slice none 0 0] 31 (0, 0)) (by (with_reducible repeat (first | refine zA ?_ _ | refine zD ?_ | refine zB ?_ _)); exact BK197.out) hb); have n4_ := zC.mk (blk_below (g := gb198) (o := ob198) (by (with_reducible repeat (first | refine zA ?_ _ | refine zD ?_ | refine zB ?_ _)); exact BK198.out) hb); have n5_ := zC.mk (below_step (by repeat (first | (with_reducible first | exact HB.out | apply zJ | apply zE | apply zI | refine zF ?_ GE197.out | refine zF ?_ GE198.out) | exact HB.out)) hb); clear HO_3; clear BK197; clear BK198; clear HB; have HO_3 := n0_; have HO213 := n1_; have HO216 := n2_; have BK197 := n3_; have BK198 := n4_; have HB := n5_; clear n0_ n1_ n2_ n3_ n4_ n5_; (try clear hb); (try clear hb2); (try clear hk); (try clear hi); (try clear ho0); (try clear ho1); obtain ⟨Ao30, co30, eo30⟩ := Kd.R_slice HO213.out; subst eo30; have hnb31 := NB197_198.out; have hnc31 := NB198_197.out; have hcz32_0 : w29.cell? ⟨gb197, 0, none⟩ = some (.slice none 0 0) := (zH BK197.out 0).trans rfl; have hcz32_1 : w29.cell? ⟨gb197, 1, none⟩ = some (.slice none 0 0) := (zH BK197.out 1).trans rfl; have hfz32_0 := zG BK197.out 0; have hfz32_1 := zG BK197.out 1; obtain ⟨Ao33, co33, eo33⟩ := Kd.R_slice HO216.out; subst eo33) | ((with_reducible refine gate_store (t := 31) (p := 2) rfl ?_); refine store_event (t := 31) (p := 2) (v := ?vo_w34) (w1 := ((w29.setCell ⟨gb197, 0, none⟩ (.slice Ao30 t211.length co30)).setCell ⟨gb197, 1, none⟩ (.slice Ao33 t214.length co33))) ?hg ?ho ?hn ?hr ?_; (case ho => rfl); (case hg => rfl); (case hn => rfl); (case hr => first | (go_simp; done) | (go_simp; rfl)); intro w34 hw; have n0_ : zC (Kd.R k49 49 w34 w.heap.size (fun k_ => k_ ≠ gb198) (.slice Ao28 x3_1.length co28) x3_1) := ⟨(by rw [hw]; exact (by (with_reducible repeat (first | apply Kd.R_alloc | apply Kd.R_drewN | apply Kd.R_drew)); exact Kd.R_mono (Kd.R_far (p := ⟨gb197, 1, none⟩) (Kd.R_far (p := ⟨gb197, 0, none⟩) (Kd.R_types HO_3.out BK197.out (by decide)) (fun _ hk => hk.2) (.slice Ao30 t211.length co30)) (fun _ hk => hk.2) (.slice Ao33 t214.length co33)) (fun _ hk => hk.1)))⟩; have n1_ : zC (Kd.R k61 61 w34 w.heap.size (fun k_ => k_ ≠ gb198) (.slice Ao30 t211.length co30) t211) := ⟨(by rw [hw]; exact (by (with_reducible repeat (first | apply Kd.R_alloc | apply Kd.R_drewN | apply Kd.R_drew)); exact Kd.R_mono (Kd.R_far (p := ⟨gb197, 1, none⟩) (Kd.R_far (p := ⟨gb197, 0, none⟩) (Kd.R_types HO213.out BK197.out (by decide)) (fun _ hk => hk.2) (.slice Ao30 t211.length co30)) (fun _ hk => hk.2) (.slice Ao33 t214.length co33)) (fun _ hk => hk.1.2)))⟩; have n2_ : zC (Kd.R (Kd.int .u8) 43 w34 w.heap.size (fun k_ => k_ ≠ gb198) (.slice Ao33 t214.length co33) t214) := ⟨(by rw [hw]; exact (by (with_reducible repeat (first | apply Kd.R_alloc | apply Kd.R_drewN | apply Kd.R_drew)); exact Kd.R_mono (Kd.R_far (p := ⟨gb197, 1, none⟩) (Kd.R_far (p := ⟨gb197, 0, none⟩) (Kd.R_types HO216.out BK197.out (by decide)) (fun _ hk => hk.2) (.slice Ao30 t211.length co30)) (fun _ hk => hk.2) (.slice Ao33 t214.length co33)) (fun _ hk => hk.1.2)))⟩; have n3_ : zC (w34.heap[gb197]? = some (.cells #[.slice Ao30 t211.length co30, .slice Ao33 t214.length co33] 31 (0, 0))) := ⟨(by rw [hw]; exact (by (with_reducible repeat (first | refine zA ?_ _ | refine zD ?_ | refine zB ?_ _)); refine blk_put (cs := #[.slice Ao30 t211.length co30, .slice none 0 0]) ?_ 1 _ rfl; (with_reducible repeat (first | refine zA ?_ _ | refine zD ?_ | refine zB ?_ _)); refine blk_put (cs := #[.slice none 0 0, .slice none 0 0]) ?_ 0 _ rfl; (with_reducible repeat (first | refine zA ?_ _ | refine zD ?_ | refine zB ?_ _)); exact BK197.out))⟩; have n4_ : zC (w34.heap[gb198]? = some (ob198)) := ⟨(by rw [hw]; exact (by (with_reducible repeat (first | refine zA ?_ _ | refine zD ?_ | refine zB ?_ _)); refine blk_farO ?_ NB198_197.out _; (with_reducible repeat (first | refine zA ?_ _ | refine zD ?_ | refine zB ?_ _)); refine blk_farO ?_ NB198_197.out _; (with_reducible repeat (first | refine zA ?_ _ | refine zD ?_ | refine zB ?_ _)); exact BK198.out))⟩; have n5_ : zC (Below w.heap.size w w34) := ⟨(by rw [hw]; exact (by repeat (first | (with_reducible first | exact HB.out | apply zJ | apply zE | apply zI | refine zF ?_ GE197.out | refine zF ?_ GE198.out) | exact HB.out)))⟩; clear hw; clear HO_3; clear HO213; clear HO216; clear BK197; clear BK198; clear HB; have HO_3 := n0_; have HO213 := n1_; have HO216 := n2_; have BK197 := n3_; have BK198 := n4_; have HB := n5_; clear n0_ n1_ n2_ n3_ n4_ n5_))
      refine bodyPost_ret (results_cell_row rfl _ _ gb197 31 #[.slice Ao30 t211.length co30, .slice Ao33 t214.length co33] (0, 0) _ rfl (by (with_reducible repeat (first | refine zA ?_ _ | refine zD ?_ | refine zB ?_ _)); exact BK197.out) Try.underlying31 rfl (by kernel_rfl)) rfl ?_
      exact ⟨_, _, by first | rfl | (simp [errW_none, errW_some] <;> rfl) | (simp [*, errW_none, errW_some] <;> rfl), by (with_reducible repeat (first | apply Kd.R_alloc | apply Kd.R_drewN | apply Kd.R_drew)); exact Kd.R_mono HO213.out (fun _ hk => trivial), by (with_reducible repeat (first | apply Kd.R_alloc | apply Kd.R_drewN | apply Kd.R_drew)); exact Kd.R_mono HO216.out (fun _ hk => trivial), by repeat (first | (with_reducible first | exact HB.out | apply zJ | apply zE | apply zI | refine zF ?_ GE197.out | refine zF ?_ GE198.out) | exact HB.out)⟩
    rw [if_pos c5] at H; have c5b0 : decide (x10_1 < (y199.length : Int)) = true := decide_eq_true c5
    clear c5; by_cases c6 : 0 ≤ x10_1
    rotate_left
    · rw [if_neg c6] at H
      exact absurd H (by simp)
    rw [if_pos c6] at H; have c6b0 : decide (0 ≤ x10_1) = true := decide_eq_true c6
    clear c6; by_cases c7 : x10_1 < (y199.length : Int)
    rotate_left
    · rw [if_neg c7] at H
      exact absurd H (by simp)
    rw [if_pos c7] at H; have c7b0 : decide (x10_1 < (y199.length : Int)) = true := decide_eq_true c7
    clear c7; by_cases c8 : (rd y199 x10_1) = 32
    rotate_left
    · rw [if_neg c8] at H
      have c8b0 : ((rd y199 x10_1) == 32) = false := beq_eq_false_iff_ne.mpr c8
      have c8b1 : ((rd y199 x10_1) != 32) = true := bne_iff_ne.mpr c8
      by_cases c19 : x3_1.length < 35184372088832
      rotate_left
      · rw [if_neg c19] at H
        exact absurd H (by simp)
      rw [if_pos c19] at H; have LMc19 := zC.mk c19; clear c19; obtain ⟨y208, hy208⟩ : ∃ y_ : List (S49), y_ = (x3_1 ++ [(⟨1, 0, 0, 0⟩ : S49)]) := ⟨_, rfl⟩; replace H : (stanzalaw14_Text.l0 k1 y208 y199 (y199.length : Int) (wrap64 (x10_1 + 1))) = some (r1, r2) := by first | (rw [hy208]; with_reducible exact H) | (have H2_ := (Option.bind_some _ _).symm.trans H; rw [hy208]; with_reducible exact H2_) | (have H2_ := (Option.bind_some _ _).symm.trans H; with_reducible exact H2_) | with_reducible exact H | (rw [hy208]; exact H) | exact H
      have Ny208 := zC.mk hy208; clear hy208; have H' := zC.mk H
      clear H; have p203 : 0 ≤ (x10_1 : Int) := of_decide_eq_true (by first | (with_reducible assumption) | assumption)
      have q203 : x10_1 < (y199.length : Int) := of_decide_eq_true (by first | (with_reducible assumption) | assumption)
      obtain ⟨ad203, e203, hx203_0⟩ := Kd.at_int (HV198.out _ BK198.out) x10_1 p203 q203; obtain rfl : (⟨gb198, 0, none⟩ : Addr) = ad203 := (by injection e203)
      (first | simp only [add_plain] at hx203_0 | simp only [add_at] at hx203_0 | simp only [Addr.add, Nat.zero_add] at hx203_0 | skip)
      replace p203 := eq_true p203; replace q203 := eq_true q203; go_wp2_with (first | ((with_reducible refine gate_dst (N := 6) rfl ?_); refine box_event ?hg (N := 6) ?hd (cs := #[.int .u8 0, .int .u8 0, .int .u8 0, .int .u8 0]) (t := 49) ?hr ?_; (case hd => rfl); (case hg => rfl); (case hr => first | (go_simp; done) | (go_simp; rfl)); intro gb204 hg w20 hbox hb; have n0_ := zC.mk (Kd.R_below (Kd.R_elderB (by (with_reducible repeat (first | apply Kd.R_alloc | apply Kd.R_drewN | apply Kd.R_drew)); exact HO_3.out) gb204 (Nat.le_of_eq hg.symm)) hb); have n1_ := zC.mk (blk_below (g := gb197) (o := .cells #[.slice none 0 0, .slice none 0 0] 31 (0, 0)) (by (with_reducible repeat (first | refine zA ?_ _ | refine zD ?_ | refine zB ?_ _)); exact BK197.out) hb); have n2_ := zC.mk (blk_below (g := gb198) (o := ob198) (by (with_reducible repeat (first | refine zA ?_ _ | refine zD ?_ | refine zB ?_ _)); exact BK198.out) hb); have n3_ := zC.mk (below_step (by repeat (first | (with_reducible first | exact HB.out | apply zJ | apply zE | apply zI | refine zF ?_ GE197.out | refine zF ?_ GE198.out) | exact HB.out)) hb); have n4_ := zC.mk (hbox); have n5_ := zC.mk ((by rw [hg]; exact (below_size (by repeat (first | (with_reducible first | exact HB.out | apply zJ | apply zE | apply zI | refine zF ?_ GE197.out | refine zF ?_ GE198.out) | exact HB.out))) : w.heap.size ≤ gb204)); have n6_ := zC.mk ((by rw [hg]; exact (below_size (by repeat (first | (with_reducible first | exact HB.out | apply zJ | apply zE | apply zI | refine zF ?_ GE197.out | refine zF ?_ GE198.out) | exact HB.out))) : w.heap.size ≤ gb204)); have n7_ := zC.mk ((by rw [hg]; exact Nat.ne_of_lt (blk_lt (g := gb197) (o := .cells #[.slice none 0 0, .slice none 0 0] 31 (0, 0)) (by (with_reducible repeat (first | refine zA ?_ _ | refine zD ?_ | refine zB ?_ _)); exact BK197.out)) : gb197 ≠ gb204)); have n8_ := zC.mk ((by rw [hg]; exact Nat.ne_of_gt (blk_lt (g := gb197) (o := .cells #[.slice none 0 0, .slice none 0 0] 31 (0, 0)) (by (with_reducible repeat (first | refine zA ?_ _ | refine zD ?_ | refine zB ?_ _)); exact BK197.out)) : gb204 ≠ gb197)); have n9_ := zC.mk ((by rw [hg]; exact Nat.ne_of_lt (blk_lt (g := gb198) (o := ob198) (by (with_reducible repeat (first | refine zA ?_ _ | refine zD ?_ | refine zB ?_ _)); exact BK198.out)) : gb198 ≠ gb204)); have n10_ := zC.mk ((by rw [hg]; exact Nat.ne_of_gt (blk_lt (g := gb198) (o := ob198) (by (with_reducible repeat (first | refine zA ?_ _ | refine zD ?_ | refine zB ?_ _)); exact BK198.out)) : gb204 ≠ gb198)); clear HO_3; clear BK197; clear BK198; clear HB; have HO_3 := n0_; have BK197 := n1_; have BK198 := n2_; have HB := n3_; have BK204 := n4_; have GW204 := n5_; have GE204 := n6_; have NB197_204 := n7_; have NB204_197 := n8_; have NB198_204 := n9_; have NB204_198 := n10_; clear n0_ n1_ n2_ n3_ n4_ n5_ n6_ n7_ n8_ n9_ n10_; clear hb hbox hg; have hnb21 := NB204_197.out; have hnc21 := NB197_204.out; have hnb22 := NB204_198.out; have hnc22 := NB198_204.out; have hcz23_0 : w20.cell? ⟨gb204, 0, none⟩ = some (.int .u8 0) := (zH BK204.out 0).trans rfl; have hcz23_1 : w20.cell? ⟨gb204, 1, none⟩ = some (.int .u8 0) := (zH BK204.out 1).trans rfl; have hcz23_2 : w20.cell? ⟨gb204, 2, none⟩ = some (.int .u8 0) := (zH BK204.out 2).trans rfl; have hcz23_3 : w20.cell? ⟨gb204, 3, none⟩ = some (.int .u8 0) := (zH BK204.out 3).trans rfl; have hfz23_0 := zG BK204.out 0; have hfz23_1 := zG BK204.out 1; have hfz23_2 := zG BK204.out 2; have hfz23_3 := zG BK204.out 3) | ((with_reducible refine gate_store (t := 49) (p := 6) rfl ?_); refine store_event (t := 49) (p := 6) (v := ?vo_w24) (w1 := ((((w20.setCell ⟨gb204, 0, none⟩ (.int .u8 1)).setCell ⟨gb204, 1, none⟩ (.int .u8 0)).setCell ⟨gb204, 2, none⟩ (.int .u8 0)).setCell ⟨gb204, 3, none⟩ (.int .u8 0))) ?hg ?ho ?hn ?hr ?_; (case ho => rfl); (case hg => rfl); (case hn => rfl); (case hr => first | (go_simp; done) | (go_simp; rfl)); intro w24 hw; have n0_ : zC (Kd.R k49 49 w24 w.heap.size (fun k_ => k_ ≠ gb198 ∧ k_ ≠ gb204) u3 x3_1) := ⟨(by rw [hw]; exact (by (with_reducible repeat (first | apply Kd.R_alloc | apply Kd.R_drewN | apply Kd.R_drew)); exact Kd.R_mono (Kd.R_far (p := ⟨gb204, 3, none⟩) (Kd.R_far (p := ⟨gb204, 2, none⟩) (Kd.R_far (p := ⟨gb204, 1, none⟩) (Kd.R_far (p := ⟨gb204, 0, none⟩) (Kd.R_mono HO_3.out (fun k_ hk => (⟨hk, hk.2⟩ : _ ∧ k_ ≠ gb204))) (fun _ hk => hk.2) (.int .u8 1)) (fun _ hk => hk.2) (.int .u8 0)) (fun _ hk => hk.2) (.int .u8 0)) (fun _ hk => hk.2) (.int .u8 0)) (fun _ hk => ⟨hk.1.1, hk.1.2⟩)))⟩; have n1_ : zC (w24.heap[gb197]? = some (.cells #[.slice none 0 0, .slice none 0 0] 31 (0, 0))) := ⟨(by rw [hw]; exact (by (with_reducible repeat (first | refine zA ?_ _ | refine zD ?_ | refine zB ?_ _)); refine blk_far ?_ NB197_204.out _; (with_reducible repeat (first | refine zA ?_ _ | refine zD ?_ | refine zB ?_ _)); refine blk_far ?_ NB197_204.out _; (with_reducible repeat (first | refine zA ?_ _ | refine zD ?_ | refine zB ?_ _)); refine blk_far ?_ NB197_204.out _; (with_reducible repeat (first | refine zA ?_ _ | refine zD ?_ | refine zB ?_ _)); refine blk_far ?_ NB197_204.out _; (with_reducible repeat (first | refine zA ?_ _ | refine zD ?_ | refine zB ?_ _)); exact BK197.out))⟩; have n2_ : zC (w24.heap[gb198]? = some (ob198)) := ⟨(by rw [hw]; exact (by (with_reducible repeat (first | refine zA ?_ _ | refine zD ?_ | refine zB ?_ _)); refine blk_farO ?_ NB198_204.out _; (with_reducible repeat (first | refine zA ?_ _ | refine zD ?_ | refine zB ?_ _)); refine blk_farO ?_ NB198_204.out _; (with_reducible repeat (first | refine zA ?_ _ | refine zD ?_ | refine zB ?_ _)); refine blk_farO ?_ NB198_204.out _; (with_reducible repeat (first | refine zA ?_ _ | refine zD ?_ | refine zB ?_ _)); refine blk_farO ?_ NB198_204.out _; (with_reducible repeat (first | refine zA ?_ _ | refine zD ?_ | refine zB ?_ _)); exact BK198.out))⟩; have n3_ : zC (w24.heap[gb204]? = some (.cells #[.int .u8 1, .int .u8 0, .int .u8 0, .int .u8 0] 49 (0, 0))) := ⟨(by rw [hw]; exact (by (with_reducible repeat (first | refine zA ?_ _ | refine zD ?_ | refine zB ?_ _)); refine blk_put (cs := #[.int .u8 1, .int .u8 0, .int .u8 0, .int .u8 0]) ?_ 3 _ rfl; (with_reducible repeat (first | refine zA ?_ _ | refine zD ?_ | refine zB ?_ _)); refine blk_put (cs := #[.int .u8 1, .int .u8 0, .int .u8 0, .int .u8 0]) ?_ 2 _ rfl; (with_reducible repeat (first | refine zA ?_ _ | refine zD ?_ | refine zB ?_ _)); refine blk_put (cs := #[.int .u8 1, .int .u8 0, .int .u8 0, .int .u8 0]) ?_ 1 _ rfl; (with_reducible repeat (first | refine zA ?_ _ | refine zD ?_ | refine zB ?_ _)); refine blk_put (cs := #[.int .u8 0, .int .u8 0, .int .u8 0, .int .u8 0]) ?_ 0 _ rfl; (with_reducible repeat (first | refine zA ?_ _ | refine zD ?_ | refine zB ?_ _)); exact BK204.out))⟩; have n4_ : zC (Below w.heap.size w w24) := ⟨(by rw [hw]; exact (by repeat (first | (with_reducible first | exact HB.out | apply zJ | apply zE | apply zI | refine zF ?_ GE197.out | refine zF ?_ GE198.out | refine zF ?_ GE204.out) | exact HB.out)))⟩; clear hw; clear HO_3; clear BK197; clear BK198; clear BK204; clear HB; have HO_3 := n0_; have BK197 := n1_; have BK198 := n2_; have BK204 := n3_; have HB := n4_; clear n0_ n1_ n2_ n3_ n4_; have hcz25_0 : w24.cell? ⟨gb204, 0, none⟩ = some (.int .u8 1) := (zH BK204.out 0).trans rfl; have hcz25_1 : w24.cell? ⟨gb204, 1, none⟩ = some (.int .u8 0) := (zH BK204.out 1).trans rfl; have hcz25_2 : w24.cell? ⟨gb204, 2, none⟩ = some (.int .u8 0) := (zH BK204.out 2).trans rfl; have hcz25_3 : w24.cell? ⟨gb204, 3, none⟩ = some (.int .u8 0) := (zH BK204.out 3).trans rfl; have hfz25_0 := zG BK204.out 0; have hfz25_1 := zG BK204.out 1; have hfz25_2 := zG BK204.out 2; have hfz25_3 := zG BK204.out 3) | ((with_reducible refine gate_builtin (b := .append) (xs := #[.tmp 19, .tmp 21]) rfl ?_); at_builtin; refine Kd.R_append k49 (w0 := w) w.heap.size rfl (.tmp 19) (.tmp 21) 22 49 (.agg #[(.int .u8 0), (.int .u8 0), (.int .u8 0), (.int .u8 0)]) 4 rfl Try.underlying22 info49 rfl (by decide) (by omega) u3 x3_1 (⟨1, 0, 0, 0⟩ : S49) [.int .u8 1, .int .u8 0, .int .u8 0, .int .u8 0] (fun k_ => k_ ≠ gb198 ∧ k_ ≠ gb204) (fun _ => False) rfl rfl ?aP (fun _ hk => hk.elim) ?aF ?aO ?aB ?aS ?aL ?_; (case aP => exact k49_mkM _ _ _ (⟨1, 0, 0, 0⟩ : S49)); (case aB => exact (by repeat (first | (with_reducible first | exact HB.out | apply zJ | apply zE | apply zI | refine zF ?_ GE197.out | refine zF ?_ GE198.out | refine zF ?_ GE204.out) | exact HB.out))); (case aF => exact (fun k_ hk => ⟨Kd.freshB (g := gb198) (o := ob198) (by (with_reducible repeat (first | refine zA ?_ _ | refine zD ?_ | refine zB ?_ _)); exact BK198.out) k_ hk, Kd.freshB (g := gb204) (o := .cells #[.int .u8 1, .int .u8 0, .int .u8 0, .int .u8 0] 49 (0, 0)) (by (with_reducible repeat (first | refine zA ?_ _ | refine zD ?_ | refine zB ?_ _)); exact BK204.out) k_ hk⟩)); (case aO => exact (by (with_reducible repeat (first | apply Kd.R_alloc | apply Kd.R_drewN | apply Kd.R_drew)); exact HO_3.out)); (case aS => exact (below_size (by repeat (first | (with_reducible first | exact HB.out | apply zJ | apply zE | apply zI | refine zF ?_ GE197.out | refine zF ?_ GE198.out | refine zF ?_ GE204.out) | exact HB.out)))); (case aL => have := LMc19.out; omega); intro v209 w26 ho hb hg hat; rw [← Ny208.out] at ho; have n0_ := zC.mk (blk_grown (g := gb197) (o := .cells #[.slice none 0 0, .slice none 0 0] 31 (0, 0)) (by (with_reducible repeat (first | refine zA ?_ _ | refine zD ?_ | refine zB ?_ _)); exact BK197.out) hg (Kd.R_ne HO_3.out BK197.out (by decide))); have n1_ := zC.mk (blk_grown (g := gb198) (o := ob198) (by (with_reducible repeat (first | refine zA ?_ _ | refine zD ?_ | refine zB ?_ _)); exact BK198.out) hg (Kd.R_away HO_3.out (fun _ hk => hk.1))); have n2_ := zC.mk (blk_grown (g := gb204) (o := .cells #[.int .u8 1, .int .u8 0, .int .u8 0, .int .u8 0] 49 (0, 0)) (by (with_reducible repeat (first | refine zA ?_ _ | refine zD ?_ | refine zB ?_ _)); exact BK204.out) hg (Kd.R_away HO_3.out (fun _ hk => hk.2))); have n3_ := zC.mk (hb); have n4_ := zC.mk (ho); clear BK197; clear BK198; clear BK204; clear HB; clear HO_3; have BK197 := n0_; have BK198 := n1_; have BK204 := n2_; have HB := n3_; have HO210 := n4_; clear n0_ n1_ n2_ n3_ n4_; clear ho hb hg hat))
      go_roundg k1
      case measure => have := HK1.out; omega
      case rel => exact ⟨(y208), (wrap64 (x10_1 + 1)), (by first | rfl | (simp; done) | (simp [*]; done)), H', ⟨by have := HK1.out; omega⟩, ⟨by (with_reducible repeat (first | apply Kd.R_alloc | apply Kd.R_drewN | apply Kd.R_drew)); exact Kd.R_mono HO210.out (fun _ hk => hk.1)⟩, ⟨by (with_reducible repeat (first | refine zA ?_ _ | refine zD ?_ | refine zB ?_ _)); exact BK197.out⟩, ⟨by (with_reducible repeat (first | refine zA ?_ _ | refine zD ?_ | refine zB ?_ _)); exact BK198.out⟩, ⟨by repeat (first | (with_reducible first | exact HB.out | apply zJ | apply zE | apply zI | refine zF ?_ GE197.out | refine zF ?_ GE198.out | refine zF ?_ GE204.out) | exact HB.out)⟩⟩
    rw [if_pos c8] at H; have c8b0 : ((rd y199 x10_1) == 32) = true := beq_iff_eq.mpr c8
    have c8b1 : ((rd y199 x10_1) != 32) = false := bne_eq_false_iff_eq.mpr c8
    clear c8; by_cases c9 : x3_1.length < 35184372088832
    rotate_left
    · rw [if_neg c9] at H
      exact absurd H (by simp)
    rw [if_pos c9] at H; have LMc9 := zC.mk c9; clear c9; obtain ⟨y205, hy205⟩ : ∃ y_ : List (S49), y_ = (x3_1 ++ [(⟨1, 1, 0, 1⟩ : S49)]) := ⟨_, rfl⟩; replace H : (stanzalaw14_Text.l0 k1 y205 y199 (y199.length : Int) (wrap64 (x10_1 + 1))) = some (r1, r2) := by first | (rw [hy205]; with_reducible exact H) | (have H2_ := (Option.bind_some _ _).symm.trans H; rw [hy205]; with_reducible exact H2_) | (have H2_ := (Option.bind_some _ _).symm.trans H; with_reducible exact H2_) | with_reducible exact H | (rw [hy205]; exact H) | exact H
    have Ny205 := zC.mk hy205; clear hy205; have H' := zC.mk H
    clear H; have p203 : 0 ≤ (x10_1 : Int) := of_decide_eq_true (by first | (with_reducible assumption) | assumption)
    have q203 : x10_1 < (y199.length : Int) := of_decide_eq_true (by first | (with_reducible assumption) | assumption)
    obtain ⟨ad203, e203, hx203_0⟩ := Kd.at_int (HV198.out _ BK198.out) x10_1 p203 q203; obtain rfl : (⟨gb198, 0, none⟩ : Addr) = ad203 := (by injection e203)
    (first | simp only [add_plain] at hx203_0 | simp only [add_at] at hx203_0 | simp only [Addr.add, Nat.zero_add] at hx203_0 | skip)
    replace p203 := eq_true p203; replace q203 := eq_true q203; go_wp2_with (first | ((with_reducible refine gate_dst (N := 6) rfl ?_); refine box_event ?hg (N := 6) ?hd (cs := #[.int .u8 0, .int .u8 0, .int .u8 0, .int .u8 0]) (t := 49) ?hr ?_; (case hd => rfl); (case hg => rfl); (case hr => first | (go_simp; done) | (go_simp; rfl)); intro gb204 hg w10 hbox hb; have n0_ := zC.mk (Kd.R_below (Kd.R_elderB (by (with_reducible repeat (first | apply Kd.R_alloc | apply Kd.R_drewN | apply Kd.R_drew)); exact HO_3.out) gb204 (Nat.le_of_eq hg.symm)) hb); have n1_ := zC.mk (blk_below (g := gb197) (o := .cells #[.slice none 0 0, .slice none 0 0] 31 (0, 0)) (by (with_reducible repeat (first | refine zA ?_ _ | refine zD ?_ | refine zB ?_ _)); exact BK197.out) hb); have n2_ := zC.mk (blk_below (g := gb198) (o := ob198) (by (with_reducible repeat (first | refine zA ?_ _ | refine zD ?_ | refine zB ?_ _)); exact BK198.out) hb); have n3_ := zC.mk (below_step (by repeat (first | (with_reducible first | exact HB.out | apply zJ | apply zE | apply zI | refine zF ?_ GE197.out | refine zF ?_ GE198.out) | exact HB.out)) hb); have n4_ := zC.mk (hbox); have n5_ := zC.mk ((by rw [hg]; exact (below_size (by repeat (first | (with_reducible first | exact HB.out | apply zJ | apply zE | apply zI | refine zF ?_ GE197.out | refine zF ?_ GE198.out) | exact HB.out))) : w.heap.size ≤ gb204)); have n6_ := zC.mk ((by rw [hg]; exact (below_size (by repeat (first | (with_reducible first | exact HB.out | apply zJ | apply zE | apply zI | refine zF ?_ GE197.out | refine zF ?_ GE198.out) | exact HB.out))) : w.heap.size ≤ gb204)); have n7_ := zC.mk ((by rw [hg]; exact Nat.ne_of_lt (blk_lt (g := gb197) (o := .cells #[.slice none 0 0, .slice none 0 0] 31 (0, 0)) (by (with_reducible repeat (first | refine zA ?_ _ | refine zD ?_ | refine zB ?_ _)); exact BK197.out)) : gb197 ≠ gb204)); have n8_ := zC.mk ((by rw [hg]; exact Nat.ne_of_gt (blk_lt (g := gb197) (o := .cells #[.slice none 0 0, .slice none 0 0] 31 (0, 0)) (by (with_reducible repeat (first | refine zA ?_ _ | refine zD ?_ | refine zB ?_ _)); exact BK197.out)) : gb204 ≠ gb197)); have n9_ := zC.mk ((by rw [hg]; exact Nat.ne_of_lt (blk_lt (g := gb198) (o := ob198) (by (with_reducible repeat (first | refine zA ?_ _ | refine zD ?_ | refine zB ?_ _)); exact BK198.out)) : gb198 ≠ gb204)); have n10_ := zC.mk ((by rw [hg]; exact Nat.ne_of_gt (blk_lt (g := gb198) (o := ob198) (by (with_reducible repeat (first | refine zA ?_ _ | refine zD ?_ | refine zB ?_ _)); exact BK198.out)) : gb204 ≠ gb198)); clear HO_3; clear BK197; clear BK198; clear HB; have HO_3 := n0_; have BK197 := n1_; have BK198 := n2_; have HB := n3_; have BK204 := n4_; have GW204 := n5_; have GE204 := n6_; have NB197_204 := n7_; have NB204_197 := n8_; have NB198_204 := n9_; have NB204_198 := n10_; clear n0_ n1_ n2_ n3_ n4_ n5_ n6_ n7_ n8_ n9_ n10_; clear hb hbox hg; have hnb11 := NB204_197.out; have hnc11 := NB197_204.out; have hnb12 := NB204_198.out; have hnc12 := NB198_204.out; have hcz13_0 : w10.cell? ⟨gb204, 0, none⟩ = some (.int .u8 0) := (zH BK204.out 0).trans rfl; have hcz13_1 : w10.cell? ⟨gb204, 1, none⟩ = some (.int .u8 0) := (zH BK204.out 1).trans rfl; have hcz13_2 : w10.cell? ⟨gb204, 2, none⟩ = some (.int .u8 0) := (zH BK204.out 2).trans rfl; have hcz13_3 : w10.cell? ⟨gb204, 3, none⟩ = some (.int .u8 0) := (zH BK204.out 3).trans rfl; have hfz13_0 := zG BK204.out 0; have hfz13_1 := zG BK204.out 1; have hfz13_2 := zG BK204.out 2; have hfz13_3 := zG BK204.out 3) | ((with_reducible refine gate_store (t := 49) (p := 6) rfl ?_); refine store_event (t := 49) (p := 6) (v := ?vo_w14) (w1 := ((((w10.setCell ⟨gb204, 0, none⟩ (.int .u8 1)).setCell ⟨gb204, 1, none⟩ (.int .u8 0)).setCell ⟨gb204, 2, none⟩ (.int .u8 0)).setCell ⟨gb204, 3, none⟩ (.int .u8 0))) ?hg ?ho ?hn ?hr ?_; (case ho => rfl); (case hg => rfl); (case hn => rfl); (case hr => first | (go_simp; done) | (go_simp; rfl)); intro w14 hw; have n0_ : zC (Kd.R k49 49 w14 w.heap.size (fun k_ => k_ ≠ gb198 ∧ k_ ≠ gb204) u3 x3_1) := ⟨(by rw [hw]; exact (by (with_reducible repeat (first | apply Kd.R_alloc | apply Kd.R_drewN | apply Kd.R_drew)); exact Kd.R_mono (Kd.R_far (p := ⟨gb204, 3, none⟩) (Kd.R_far (p := ⟨gb204, 2, none⟩) (Kd.R_far (p := ⟨gb204, 1, none⟩) (Kd.R_far (p := ⟨gb204, 0, none⟩) (Kd.R_mono HO_3.out (fun k_ hk => (⟨hk, hk.2⟩ : _ ∧ k_ ≠ gb204))) (fun _ hk => hk.2) (.int .u8 1)) (fun _ hk => hk.2) (.int .u8 0)) (fun _ hk => hk.2) (.int .u8 0)) (fun _ hk => hk.2) (.int .u8 0)) (fun _ hk => ⟨hk.1.1, hk.1.2⟩)))⟩; have n1_ : zC (w14.heap[gb197]? = some (.cells #[.slice none 0 0, .slice none 0 0] 31 (0, 0))) := ⟨(by rw [hw]; exact (by (with_reducible repeat (first | refine zA ?_ _ | refine zD ?_ | refine zB ?_ _)); refine blk_far ?_ NB197_204.out _; (with_reducible repeat (first | refine zA ?_ _ | refine zD ?_ | refine zB ?_ _)); refine blk_far ?_ NB197_204.out _; (with_reducible repeat (first | refine zA ?_ _ | refine zD ?_ | refine zB ?_ _)); refine blk_far ?_ NB197_204.out _; (with_reducible repeat (first | refine zA ?_ _ | refine zD ?_ | refine zB ?_ _)); refine blk_far ?_ NB197_204.out _; (with_reducible repeat (first | refine zA ?_ _ | refine zD ?_ | refine zB ?_ _)); exact BK197.out))⟩; have n2_ : zC (w14.heap[gb198]? = some (ob198)) := ⟨(by rw [hw]; exact (by (with_reducible repeat (first | refine zA ?_ _ | refine zD ?_ | refine zB ?_ _)); refine blk_farO ?_ NB198_204.out _; (with_reducible repeat (first | refine zA ?_ _ | refine zD ?_ | refine zB ?_ _)); refine blk_farO ?_ NB198_204.out _; (with_reducible repeat (first | refine zA ?_ _ | refine zD ?_ | refine zB ?_ _)); refine blk_farO ?_ NB198_204.out _; (with_reducible repeat (first | refine zA ?_ _ | refine zD ?_ | refine zB ?_ _)); refine blk_farO ?_ NB198_204.out _; (with_reducible repeat (first | refine zA ?_ _ | refine zD ?_ | refine zB ?_ _)); exact BK198.out))⟩; have n3_ : zC (w14.heap[gb204]? = some (.cells #[.int .u8 1, .int .u8 0, .int .u8 0, .int .u8 0] 49 (0, 0))) := ⟨(by rw [hw]; exact (by (with_reducible repeat (first | refine zA ?_ _ | refine zD ?_ | refine zB ?_ _)); refine blk_put (cs := #[.int .u8 1, .int .u8 0, .int .u8 0, .int .u8 0]) ?_ 3 _ rfl; (with_reducible repeat (first | refine zA ?_ _ | refine zD ?_ | refine zB ?_ _)); refine blk_put (cs := #[.int .u8 1, .int .u8 0, .int .u8 0, .int .u8 0]) ?_ 2 _ rfl; (with_reducible repeat (first | refine zA ?_ _ | refine zD ?_ | refine zB ?_ _)); refine blk_put (cs := #[.int .u8 1, .int .u8 0, .int .u8 0, .int .u8 0]) ?_ 1 _ rfl; (with_reducible repeat (first | refine zA ?_ _ | refine zD ?_ | refine zB ?_ _)); refine blk_put (cs := #[.int .u8 0, .int .u8 0, .int .u8 0, .int .u8 0]) ?_ 0 _ rfl; (with_reducible repeat (first | refine zA ?_ _ | refine zD ?_ | refine zB ?_ _)); exact BK204.out))⟩; have n4_ : zC (Below w.heap.size w w14) := ⟨(by rw [hw]; exact (by repeat (first | (with_reducible first | exact HB.out | apply zJ | apply zE | apply zI | refine zF ?_ GE197.out | refine zF ?_ GE198.out | refine zF ?_ GE204.out) | exact HB.out)))⟩; clear hw; clear HO_3; clear BK197; clear BK198; clear BK204; clear HB; have HO_3 := n0_; have BK197 := n1_; have BK198 := n2_; have BK204 := n3_; have HB := n4_; clear n0_ n1_ n2_ n3_ n4_; have hcz15_0 : w14.cell? ⟨gb204, 0, none⟩ = some (.int .u8 1) := (zH BK204.out 0).trans rfl; have hcz15_1 : w14.cell? ⟨gb204, 1, none⟩ = some (.int .u8 0) := (zH BK204.out 1).trans rfl; have hcz15_2 : w14.cell? ⟨gb204, 2, none⟩ = some (.int .u8 0) := (zH BK204.out 2).trans rfl; have hcz15_3 : w14.cell? ⟨gb204, 3, none⟩ = some (.int .u8 0) := (zH BK204.out 3).trans rfl; have hfz15_0 := zG BK204.out 0; have hfz15_1 := zG BK204.out 1; have hfz15_2 := zG BK204.out 2; have hfz15_3 := zG BK204.out 3) | ((with_reducible refine gate_store (t := 5) (p := 18) rfl ?_); refine store_event (t := 5) (p := 18) (v := ?vo_w16) (w1 := ((w14.setCell ⟨gb204, 1, none⟩ (.int .u8 1)).setCell ⟨gb204, 3, none⟩ (.int .u8 1))) ?hg ?ho ?hn ?hr ?_; (case ho => rfl); (case hg => rfl); (case hn => rfl); (case hr => first | (go_simp; done) | (go_simp; rfl)); intro w16 hw; have n0_ : zC (Kd.R k49 49 w16 w.heap.size (fun k_ => k_ ≠ gb198 ∧ k_ ≠ gb204) u3 x3_1) := ⟨(by rw [hw]; exact (by (with_reducible repeat (first | apply Kd.R_alloc | apply Kd.R_drewN | apply Kd.R_drew)); exact Kd.R_mono (Kd.R_far (p := ⟨gb204, 3, none⟩) (Kd.R_far (p := ⟨gb204, 1, none⟩) (Kd.R_mono HO_3.out (fun k_ hk => (⟨hk, hk.2⟩ : _ ∧ k_ ≠ gb204))) (fun _ hk => hk.2) (.int .u8 1)) (fun _ hk => hk.2) (.int .u8 1)) (fun _ hk => ⟨hk.1.1, hk.1.2⟩)))⟩; have n1_ : zC (w16.heap[gb197]? = some (.cells #[.slice none 0 0, .slice none 0 0] 31 (0, 0))) := ⟨(by rw [hw]; exact (by (with_reducible repeat (first | refine zA ?_ _ | refine zD ?_ | refine zB ?_ _)); refine blk_far ?_ NB197_204.out _; (with_reducible repeat (first | refine zA ?_ _ | refine zD ?_ | refine zB ?_ _)); refine blk_far ?_ NB197_204.out _; (with_reducible repeat (first | refine zA ?_ _ | refine zD ?_ | refine zB ?_ _)); exact BK197.out))⟩; have n2_ : zC (w16.heap[gb198]? = some (ob198)) := ⟨(by rw [hw]; exact (by (with_reducible repeat (first | refine zA ?_ _ | refine zD ?_ | refine zB ?_ _)); refine blk_farO ?_ NB198_204.out _; (with_reducible repeat (first | refine zA ?_ _ | refine zD ?_ | refine zB ?_ _)); refine blk_farO ?_ NB198_204.out _; (with_reducible repeat (first | refine zA ?_ _ | refine zD ?_ | refine zB ?_ _)); exact BK198.out))⟩; have n3_ : zC (w16.heap[gb204]? = some (.cells #[.int .u8 1, .int .u8 1, .int .u8 0, .int .u8 1] 49 (0, 0))) := ⟨(by rw [hw]; exact (by (with_reducible repeat (first | refine zA ?_ _ | refine zD ?_ | refine zB ?_ _)); refine blk_put (cs := #[.int .u8 1, .int .u8 1, .int .u8 0, .int .u8 0]) ?_ 3 _ rfl; (with_reducible repeat (first | refine zA ?_ _ | refine zD ?_ | refine zB ?_ _)); refine blk_put (cs := #[.int .u8 1, .int .u8 0, .int .u8 0, .int .u8 0]) ?_ 1 _ rfl; (with_reducible repeat (first | refine zA ?_ _ | refine zD ?_ | refine zB ?_ _)); exact BK204.out))⟩; have n4_ : zC (Below w.heap.size w w16) := ⟨(by rw [hw]; exact (by repeat (first | (with_reducible first | exact HB.out | apply zJ | apply zE | apply zI | refine zF ?_ GE197.out | refine zF ?_ GE198.out | refine zF ?_ GE204.out) | exact HB.out)))⟩; clear hw; clear HO_3; clear BK197; clear BK198; clear BK204; clear HB; have HO_3 := n0_; have BK197 := n1_; have BK198 := n2_; have BK204 := n3_; have HB := n4_; clear n0_ n1_ n2_ n3_ n4_; have hcz17_0 : w16.cell? ⟨gb204, 0, none⟩ = some (.int .u8 1) := (zH BK204.out 0).trans rfl; have hcz17_1 : w16.cell? ⟨gb204, 1, none⟩ = some (.int .u8 1) := (zH BK204.out 1).trans rfl; have hcz17_2 : w16.cell? ⟨gb204, 2, none⟩ = some (.int .u8 0) := (zH BK204.out 2).trans rfl; have hcz17_3 : w16.cell? ⟨gb204, 3, none⟩ = some (.int .u8 1) := (zH BK204.out 3).trans rfl; have hfz17_0 := zG BK204.out 0; have hfz17_1 := zG BK204.out 1; have hfz17_2 := zG BK204.out 2; have hfz17_3 := zG BK204.out 3) | ((with_reducible refine gate_builtin (b := .append) (xs := #[.tmp 19, .tmp 21]) rfl ?_); at_builtin; refine Kd.R_append k49 (w0 := w) w.heap.size rfl (.tmp 19) (.tmp 21) 22 49 (.agg #[(.int .u8 0), (.int .u8 0), (.int .u8 0), (.int .u8 0)]) 4 rfl Try.underlying22 info49 rfl (by decide) (by omega) u3 x3_1 (⟨1, 1, 0, 1⟩ : S49) [.int .u8 1, .int .u8 1, .int .u8 0, .int .u8 1] (fun k_ => k_ ≠ gb198 ∧ k_ ≠ gb204) (fun _ => False) rfl rfl ?aP (fun _ hk => hk.elim) ?aF ?aO ?aB ?aS ?aL ?_; (case aP => exact k49_mkM _ _ _ (⟨1, 1, 0, 1⟩ : S49)); (case aB => exact (by repeat (first | (with_reducible first | exact HB.out | apply zJ | apply zE | apply zI | refine zF ?_ GE197.out | refine zF ?_ GE198.out | refine zF ?_ GE204.out) | exact HB.out))); (case aF => exact (fun k_ hk => ⟨Kd.freshB (g := gb198) (o := ob198) (by (with_reducible repeat (first | refine zA ?_ _ | refine zD ?_ | refine zB ?_ _)); exact BK198.out) k_ hk, Kd.freshB (g := gb204) (o := .cells #[.int .u8 1, .int .u8 1, .int .u8 0, .int .u8 1] 49 (0, 0)) (by (with_reducible repeat (first | refine zA ?_ _ | refine zD ?_ | refine zB ?_ _)); exact BK204.out) k_ hk⟩)); (case aO => exact (by (with_reducible repeat (first | apply Kd.R_alloc | apply Kd.R_drewN | apply Kd.R_drew)); exact HO_3.out)); (case aS => exact (below_size (by repeat (first | (with_reducible first | exact HB.out | apply zJ | apply zE | apply zI | refine zF ?_ GE197.out | refine zF ?_ GE198.out | refine zF ?_ GE204.out) | exact HB.out)))); (case aL => have := LMc9.out; omega); intro v206 w18 ho hb hg hat; rw [← Ny205.out] at ho; have n0_ := zC.mk (blk_grown (g := gb197) (o := .cells #[.slice none 0 0, .slice none 0 0] 31 (0, 0)) (by (with_reducible repeat (first | refine zA ?_ _ | refine zD ?_ | refine zB ?_ _)); exact BK197.out) hg (Kd.R_ne HO_3.out BK197.out (by decide))); have n1_ := zC.mk (blk_grown (g := gb198) (o := ob198) (by (with_reducible repeat (first | refine zA ?_ _ | refine zD ?_ | refine zB ?_ _)); exact BK198.out) hg (Kd.R_away HO_3.out (fun _ hk => hk.1))); have n2_ := zC.mk (blk_grown (g := gb204) (o := .cells #[.int .u8 1, .int .u8 1, .int .u8 0, .int .u8 1] 49 (0, 0)) (by (with_reducible repeat (first | refine zA ?_ _ | refine zD ?_ | refine zB ?_ _)); exact BK204.out) hg (Kd.R_away HO_3.out (fun _ hk => hk.2))); have n3_ := zC.mk (hb); have n4_ := zC.mk (ho); clear BK197; clear BK198; clear BK204; clear HB; clear HO_3; have BK197 := n0_; have BK198 := n1_; have BK204 := n2_; have HB := n3_; have HO207 := n4_; clear n0_ n1_ n2_ n3_ n4_; clear ho hb hg hat))
    go_roundg k1
    case measure => have := HK1.out; omega
    case rel => exact ⟨(y205), (wrap64 (x10_1 + 1)), (by first | rfl | (simp; done) | (simp [*]; done)), H', ⟨by have := HK1.out; omega⟩, ⟨by (with_reducible repeat (first | apply Kd.R_alloc | apply Kd.R_drewN | apply Kd.R_drew)); exact Kd.R_mono HO207.out (fun _ hk => hk.1)⟩, ⟨by (with_reducible repeat (first | refine zA ?_ _ | refine zD ?_ | refine zB ?_ _)); exact BK197.out⟩, ⟨by (with_reducible repeat (first | refine zA ?_ _ | refine zD ?_ | refine zB ?_ _)); exact BK198.out⟩, ⟨by repeat (first | (with_reducible first | exact HB.out | apply zJ | apply zE | apply zI | refine zF ?_ GE197.out | refine zF ?_ GE198.out | refine zF ?_ GE204.out) | exact HB.out)⟩⟩
end Go.Proofs.Ytfeidhmkmbgnoaa.F
end
section
namespace Go.Proofs.Ytfeidhmkmbgnoaa.F
open Go.RowKit Go.Proofs.YtfeidhmkmbgnoaaW.PrintWords Go.Proofs.YtfeidhmkmbgnoaaW.PrintLast Go.Proofs.YtfeidhmkmbgnoaaW.PrintMore
attribute [local go_sem] max2_int min2_int max_two min_two max_three min_three max_four min_four   -- for this text's walks alone
set_option linter.unusedVariables false
set_option linter.unusedSimpArgs false
attribute [local go_sem high] eqA45
def stanzalaw14_Awake.f (k : Nat)  : Option (Bool) := (stanzalaw14_Text.f k (⟨#[97, 97, 32, 98, 98]⟩ : ByteArray)).bind fun bt218 => ((first_Break.f k bt218.1 bt218.2 0 5 3 8 0 0 0 0).bind fun t224 => ((stanzalaw14_Text.f k (⟨#[97, 97, 97, 97]⟩ : ByteArray)).bind fun bt227 => ((first_Break.f k bt227.1 bt227.2 0 4 3 8 0 0 0 0).bind fun t233 => (if (t224.length : Int) = 2 then (if 0 < (t224.length : Int) then (if (((rd_T45 t224 0).f0) == 0 && (((rd_T45 t224 0).f1) == 3 && (((rd_T45 t224 0).f2) == 2 && (((rd_T45 t224 0).f3) == 1)))) = true then (if (t233.length : Int) = 2 then (if 0 < (t233.length : Int) then (if ((rd_T45 t233 0).f3) = 4 then (if ((rd_T45 t233 0).f2) = 3 then (if 1 < (t233.length : Int) then (some (((rd_T45 t233 1).f2) == 1)) else (none)) else (some false)) else (some false)) else (none)) else (some false)) else (some false)) else (none)) else (some false)))))
theorem stanzalaw14_Awake.mono : ∀ k, LeO (stanzalaw14_Awake.f k ) (stanzalaw14_Awake.f (k + 1) ) := by
  intro  k
  unfold stanzalaw14_Awake.f
  repeat' first
      | (with_reducible exact first_Break.mono _ _ _ _ _ _ _ _ _ _ _)
      | (with_reducible exact stanzalaw14_Text.mono _ _)
      | (with_reducible exact LeO.refl _)
      | (with_reducible exact LeO.none _)
      | (with_reducible refine LeO.ite ?_ ?_)
      | (with_reducible refine LeO.bind ?_ (fun _ => ?_))
      | exact first_Break.mono _ _ _ _ _ _ _ _ _ _ _
      | exact stanzalaw14_Text.mono _ _
      | exact LeO.none _
      | refine LeO.ite ?_ ?_
      | refine LeO.bind ?_ (fun _ => ?_)
def stanzalaw14_Awake.T2 : Bool × List (List Nat × List Nat) := (true, [([], []), ([], []), ([0, 1, 0], [0, 1]), ([2], []), ([], []), ([3, 4, 3], [3, 4]), ([2, 5, 0, 1, 2], [2]), ([5, 6, 0, 1, 2, 3, 4, 5, 6], [5])])
def stanzalaw14_Awake.B2 : List Nat := [0, 0, 3, 7, 0, 31, 63, 127]
theorem stanzalaw14_Awake.tab2 : rtab .any (opsOf Try.f12 2) = stanzalaw14_Awake.T2 := by kernel_rfl
theorem stanzalaw14_Awake.bits2 : waitsOk stanzalaw14_Awake.T2.2 stanzalaw14_Awake.B2 = true := by kernel_rfl
set_option maxHeartbeats 8000000 in
set_option maxRecDepth 100000 in
theorem stanzalaw14_Awake.calls (k : Nat)  (r : Bool) (w : World) (h : stanzalaw14_Awake.f k  = some r) (hrt_ : zC (r = true)) :
    Calls Try.prog 12 #[] w fun e w' => e = .returned (.bool r) ∧ Below w.heap.size w w' := by
  have hu35 := Try.underlying35; have hu45 := Try.underlying45; have HB := zC.mk (Below.refl w.heap.size w); have H : ((stanzalaw14_Text.f k (⟨#[97, 97, 32, 98, 98]⟩ : ByteArray)).bind fun bt218 => ((first_Break.f k bt218.1 bt218.2 0 5 3 8 0 0 0 0).bind fun t224 => ((stanzalaw14_Text.f k (⟨#[97, 97, 97, 97]⟩ : ByteArray)).bind fun bt227 => ((first_Break.f k bt227.1 bt227.2 0 4 3 8 0 0 0 0).bind fun t233 => (if (t224.length : Int) = 2 then (if 0 < (t224.length : Int) then (if (((rd_T45 t224 0).f0) == 0 && (((rd_T45 t224 0).f1) == 3 && (((rd_T45 t224 0).f2) == 2 && (((rd_T45 t224 0).f3) == 1)))) = true then (if (t233.length : Int) = 2 then (if 0 < (t233.length : Int) then (if ((rd_T45 t233 0).f3) = 4 then (if ((rd_T45 t233 0).f2) = 3 then (if 1 < (t233.length : Int) then (some (((rd_T45 t233 1).f2) == 1)) else (none)) else (some false)) else (some false)) else (none)) else (some false)) else (some false)) else (none)) else (some false)))))) = some r := h
  clear h; replace H := Option.bind_eq_some_iff.mp H; obtain ⟨⟨t218, t221⟩, A10, H⟩ := H; replace H : ((first_Break.f k t218 t221 0 5 3 8 0 0 0 0).bind fun t224 => ((stanzalaw14_Text.f k (⟨#[97, 97, 97, 97]⟩ : ByteArray)).bind fun bt227 => ((first_Break.f k bt227.1 bt227.2 0 4 3 8 0 0 0 0).bind fun t233 => (if (t224.length : Int) = 2 then (if 0 < (t224.length : Int) then (if (((rd_T45 t224 0).f0) == 0 && (((rd_T45 t224 0).f1) == 3 && (((rd_T45 t224 0).f2) == 2 && (((rd_T45 t224 0).f3) == 1)))) = true then (if (t233.length : Int) = 2 then (if 0 < (t233.length : Int) then (if ((rd_T45 t233 0).f3) = 4 then (if ((rd_T45 t233 0).f2) = 3 then (if 1 < (t233.length : Int) then (some (((rd_T45 t233 1).f2) == 1)) else (none)) else (some false)) else (some false)) else (none)) else (some false)) else (some false)) else (none)) else (some false))))) = some r := H
  have A1 := zC.mk A10; clear A10; replace H := Option.bind_eq_some_iff.mp H; obtain ⟨t224, A20, H⟩ := H; replace H : ((stanzalaw14_Text.f k (⟨#[97, 97, 97, 97]⟩ : ByteArray)).bind fun bt227 => ((first_Break.f k bt227.1 bt227.2 0 4 3 8 0 0 0 0).bind fun t233 => (if (t224.length : Int) = 2 then (if 0 < (t224.length : Int) then (if (((rd_T45 t224 0).f0) == 0 && (((rd_T45 t224 0).f1) == 3 && (((rd_T45 t224 0).f2) == 2 && (((rd_T45 t224 0).f3) == 1)))) = true then (if (t233.length : Int) = 2 then (if 0 < (t233.length : Int) then (if ((rd_T45 t233 0).f3) = 4 then (if ((rd_T45 t233 0).f2) = 3 then (if 1 < (t233.length : Int) then (some (((rd_T45 t233 1).f2) == 1)) else (none)) else (some false)) else (some false)) else (none)) else (some false)) else (some false)) else (none)) else (some false)))) = some r := H
  have A2 := zC.mk A20; clear A20; replace H := Option.bind_eq_some_iff.mp H; obtain ⟨⟨t227, t230⟩, A30, H⟩ := H; replace H : ((first_Break.f k t227 t230 0 4 3 8 0 0 0 0).bind fun t233 => (if (t224.length : Int) = 2 then (if 0 < (t224.length : Int) then (if (((rd_T45 t224 0).f0) == 0 && (((rd_T45 t224 0).f1) == 3 && (((rd_T45 t224 0).f2) == 2 && (((rd_T45 t224 0).f3) == 1)))) = true then (if (t233.length : Int) = 2 then (if 0 < (t233.length : Int) then (if ((rd_T45 t233 0).f3) = 4 then (if ((rd_T45 t233 0).f2) = 3 then (if 1 < (t233.length : Int) then (some (((rd_T45 t233 1).f2) == 1)) else (none)) else (some false)) else (some false)) else (none)) else (some false)) else (some false)) else (none)) else (some false))) = some r := H
  have A3 := zC.mk A30; clear A30; replace H := Option.bind_eq_some_iff.mp H; obtain ⟨t233, A40, H⟩ := H; replace H : (if (t224.length : Int) = 2 then (if 0 < (t224.length : Int) then (if (((rd_T45 t224 0).f0) == 0 && (((rd_T45 t224 0).f1) == 3 && (((rd_T45 t224 0).f2) == 2 && (((rd_T45 t224 0).f3) == 1)))) = true then (if (t233.length : Int) = 2 then (if 0 < (t233.length : Int) then (if ((rd_T45 t233 0).f3) = 4 then (if ((rd_T45 t233 0).f2) = 3 then (if 1 < (t233.length : Int) then (some (((rd_T45 t233 1).f2) == 1)) else (none)) else (some false)) else (some false)) else (none)) else (some false)) else (some false)) else (none)) else (some false)) = some r := H; have A4 := zC.mk A40; clear A40; by_cases c5 : (t224.length : Int) = 2
  rotate_left
  · rw [if_neg c5] at H
    have c5b0 : ((t224.length : Int) == 2) = false := beq_eq_false_iff_ne.mpr c5
    have c5b1 : ((t224.length : Int) != 2) = true := bne_iff_ne.mpr c5
    exact absurd ((Option.some.inj H).trans hrt_.out) (by decide)
  rw [if_pos c5] at H; have c5b0 : ((t224.length : Int) == 2) = true := beq_iff_eq.mpr c5
  have c5b1 : ((t224.length : Int) != 2) = false := bne_eq_false_iff_eq.mpr c5
  clear c5; by_cases c6 : 0 < (t224.length : Int)
  rotate_left
  · rw [if_neg c6] at H
    exact absurd H (by simp)
  rw [if_pos c6] at H; have c6b0 : decide (0 < (t224.length : Int)) = true := decide_eq_true c6
  have c6b1 : decide (0 < t224.length) = true := decide_eq_true (by omega)
  clear c6; by_cases c7 : (((rd_T45 t224 0).f0) == 0 && (((rd_T45 t224 0).f1) == 3 && (((rd_T45 t224 0).f2) == 2 && (((rd_T45 t224 0).f3) == 1)))) = true
  rotate_left
  · rw [if_neg c7] at H
    have c7b0 : (((rd_T45 t224 0).f0) == 0 && (((rd_T45 t224 0).f1) == 3 && (((rd_T45 t224 0).f2) == 2 && (((rd_T45 t224 0).f3) == 1)))) = false := by simpa using c7
    (try (have c7b1 : decide (((rd_T45 t224 0).f0) = 0 && (((rd_T45 t224 0).f1) == 3 && (((rd_T45 t224 0).f2) == 2 && (((rd_T45 t224 0).f3) == 1)))) = false := by simpa using c7))
    (try (have c7b2 : (((rd_T45 t224 0).f0) == 0 && (((rd_T45 t224 0).f1) == 3 && (((rd_T45 t224 0).f2) == 2 && (((rd_T45 t224 0).f3) == 1)))) = false := by simpa using c7))
    (try (have c7b3 : ¬ (((rd_T45 t224 0).f0) = 0 && (((rd_T45 t224 0).f1) == 3 && (((rd_T45 t224 0).f2) == 2 && (((rd_T45 t224 0).f3) == 1)))) := by simpa using c7))
    clear c7; exact absurd ((Option.some.inj H).trans hrt_.out) (by decide)
  rw [if_pos c7] at H; have c7b0 : (((rd_T45 t224 0).f0) == 0 && (((rd_T45 t224 0).f1) == 3 && (((rd_T45 t224 0).f2) == 2 && (((rd_T45 t224 0).f3) == 1)))) = true := c7
  (try (have c7b1 : decide (((rd_T45 t224 0).f0) = 0 && (((rd_T45 t224 0).f1) == 3 && (((rd_T45 t224 0).f2) == 2 && (((rd_T45 t224 0).f3) == 1)))) = true := by simpa using c7))
  (try (have c7b2 : (((rd_T45 t224 0).f0) == 0 && (((rd_T45 t224 0).f1) == 3 && (((rd_T45 t224 0).f2) == 2 && (((rd_T45 t224 0).f3) == 1)))) = true := by simpa using c7))
  clear c7; by_cases c8 : (t233.length : Int) = 2
  rotate_left
  · rw [if_neg c8] at H
    have c8b0 : ((t233.length : Int) == 2) = false := beq_eq_false_iff_ne.mpr c8
    have c8b1 : ((t233.length : Int) != 2) = true := bne_iff_ne.mpr c8
    exact absurd ((Option.some.inj H).trans hrt_.out) (by decide)
  rw [if_pos c8] at H; have c8b0 : ((t233.length : Int) == 2) = true := beq_iff_eq.mpr c8
  have c8b1 : ((t233.length : Int) != 2) = false := bne_eq_false_iff_eq.mpr c8
  clear c8; by_cases c9 : 0 < (t233.length : Int)
  rotate_left
  · rw [if_neg c9] at H
    exact absurd H (by simp)
  rw [if_pos c9] at H; have c9b0 : decide (0 < (t233.length : Int)) = true := decide_eq_true c9
  have c9b1 : decide (0 < t233.length) = true := decide_eq_true (by omega)
  clear c9; by_cases c10 : ((rd_T45 t233 0).f3) = 4
  rotate_left
  · rw [if_neg c10] at H
    have c10b0 : (((rd_T45 t233 0).f3) == 4) = false := beq_eq_false_iff_ne.mpr c10
    have c10b1 : (((rd_T45 t233 0).f3) != 4) = true := bne_iff_ne.mpr c10
    exact absurd ((Option.some.inj H).trans hrt_.out) (by decide)
  rw [if_pos c10] at H; have c10b0 : (((rd_T45 t233 0).f3) == 4) = true := beq_iff_eq.mpr c10
  have c10b1 : (((rd_T45 t233 0).f3) != 4) = false := bne_eq_false_iff_eq.mpr c10
  clear c10; by_cases c11 : ((rd_T45 t233 0).f2) = 3
  rotate_left
  · rw [if_neg c11] at H
    have c11b0 : (((rd_T45 t233 0).f2) == 3) = false := beq_eq_false_iff_ne.mpr c11
    have c11b1 : (((rd_T45 t233 0).f2) != 3) = true := bne_iff_ne.mpr c11
    exact absurd ((Option.some.inj H).trans hrt_.out) (by decide)
  rw [if_pos c11] at H; have c11b0 : (((rd_T45 t233 0).f2) == 3) = true := beq_iff_eq.mpr c11
  have c11b1 : (((rd_T45 t233 0).f2) != 3) = false := bne_eq_false_iff_eq.mpr c11
  clear c11; by_cases c12 : 1 < (t233.length : Int)
  rotate_left
  · rw [if_neg c12] at H
    exact absurd H (by simp)
  rw [if_pos c12] at H; have c12b0 : decide (1 < (t233.length : Int)) = true := decide_eq_true c12
  have c12b1 : decide (1 < t233.length) = true := decide_eq_true (by omega)
  clear c12; obtain rfl := Option.some.inj H
  go_enter Try.func12, Try.ntmps12
  try go_wp2_with (first | ((with_reducible refine gate_dst (N := 1) rfl ?_); (try (refine gate_guard (by rfl) ?_; dsimp only)); refine box_event ?hg (N := 1) ?hd (cs := #[.int .i64 0, .int .i64 0, .int .u8 0, .int .i64 0, .int .i64 0, .float .f64 0]) (t := 35) ?hr ?_; (case hd => rfl); (case hg => rfl); (case hr => first | (go_simp; done) | (go_simp; rfl)); intro gb217 hg w13 hbox hb; have n0_ := zC.mk (below_step (by repeat (first | (with_reducible first | exact HB.out | apply zJ | apply zE | apply zI) | exact HB.out)) hb); have n1_ := zC.mk (hbox); have n2_ := zC.mk ((by rw [hg]; exact (below_size (by repeat (first | (with_reducible first | exact HB.out | apply zJ | apply zE | apply zI) | exact HB.out))) : w.heap.size ≤ gb217)); have n3_ := zC.mk ((by rw [hg]; exact (below_size (by repeat (first | (with_reducible first | exact HB.out | apply zJ | apply zE | apply zI) | exact HB.out))) : w.heap.size ≤ gb217)); clear HB; have HB := n0_; have BK217 := n1_; have GW217 := n2_; have GE217 := n3_; clear n0_ n1_ n2_ n3_; clear hb hbox hg; have hcz14_0 : w13.cell? ⟨gb217, 0, none⟩ = some (.int .i64 0) := (zH BK217.out 0).trans rfl; have hcz14_1 : w13.cell? ⟨gb217, 1, none⟩ = some (.int .i64 0) := (zH BK217.out 1).trans rfl; have hcz14_2 : w13.cell? ⟨gb217, 2, none⟩ = some (.int .u8 0) := (zH BK217.out 2).trans rfl; have hcz14_3 : w13.cell? ⟨gb217, 3, none⟩ = some (.int .i64 0) := (zH BK217.out 3).trans rfl; have hcz14_4 : w13.cell? ⟨gb217, 4, none⟩ = some (.int .i64 0) := (zH BK217.out 4).trans rfl; have hcz14_5 : w13.cell? ⟨gb217, 5, none⟩ = some (.float .f64 0) := (zH BK217.out 5).trans rfl; have hfz14_0 := zG BK217.out 0; have hfz14_1 := zG BK217.out 1; have hfz14_2 := zG BK217.out 2; have hfz14_3 := zG BK217.out 3; have hfz14_4 := zG BK217.out 4; have hfz14_5 := zG BK217.out 5) | ((with_reducible refine gate_store (t := 35) (p := 1) rfl ?_); refine store_event (t := 35) (p := 1) (v := ?vo_w15) (w1 := ((((((w13.setCell ⟨gb217, 0, none⟩ (.int .i64 3)).setCell ⟨gb217, 1, none⟩ (.int .i64 8)).setCell ⟨gb217, 2, none⟩ (.int .u8 0)).setCell ⟨gb217, 3, none⟩ (.int .i64 0)).setCell ⟨gb217, 4, none⟩ (.int .i64 0)).setCell ⟨gb217, 5, none⟩ (.float .f64 0))) ?hg ?ho ?hn ?hr ?_; (case ho => rfl); (case hg => rfl); (case hn => rfl); (case hr => first | (go_simp; done) | (go_simp; rfl)); intro w15 hw; have n0_ : zC (w15.heap[gb217]? = some (.cells #[.int .i64 3, .int .i64 8, .int .u8 0, .int .i64 0, .int .i64 0, .float .f64 0] 35 (0, 0))) := ⟨(by rw [hw]; exact (by (with_reducible repeat (first | refine zA ?_ _ | refine zD ?_ | refine zB ?_ _)); refine blk_put (cs := #[.int .i64 3, .int .i64 8, .int .u8 0, .int .i64 0, .int .i64 0, .float .f64 0]) ?_ 5 _ rfl; (with_reducible repeat (first | refine zA ?_ _ | refine zD ?_ | refine zB ?_ _)); refine blk_put (cs := #[.int .i64 3, .int .i64 8, .int .u8 0, .int .i64 0, .int .i64 0, .float .f64 0]) ?_ 4 _ rfl; (with_reducible repeat (first | refine zA ?_ _ | refine zD ?_ | refine zB ?_ _)); refine blk_put (cs := #[.int .i64 3, .int .i64 8, .int .u8 0, .int .i64 0, .int .i64 0, .float .f64 0]) ?_ 3 _ rfl; (with_reducible repeat (first | refine zA ?_ _ | refine zD ?_ | refine zB ?_ _)); refine blk_put (cs := #[.int .i64 3, .int .i64 8, .int .u8 0, .int .i64 0, .int .i64 0, .float .f64 0]) ?_ 2 _ rfl; (with_reducible repeat (first | refine zA ?_ _ | refine zD ?_ | refine zB ?_ _)); refine blk_put (cs := #[.int .i64 3, .int .i64 0, .int .u8 0, .int .i64 0, .int .i64 0, .float .f64 0]) ?_ 1 _ rfl; (with_reducible repeat (first | refine zA ?_ _ | refine zD ?_ | refine zB ?_ _)); refine blk_put (cs := #[.int .i64 0, .int .i64 0, .int .u8 0, .int .i64 0, .int .i64 0, .float .f64 0]) ?_ 0 _ rfl; (with_reducible repeat (first | refine zA ?_ _ | refine zD ?_ | refine zB ?_ _)); exact BK217.out))⟩; have n1_ : zC (Below w.heap.size w w15) := ⟨(by rw [hw]; exact (by repeat (first | (with_reducible first | exact HB.out | apply zJ | apply zE | apply zI | refine zF ?_ GE217.out) | exact HB.out)))⟩; clear hw; clear BK217; clear HB; have BK217 := n0_; have HB := n1_; clear n0_ n1_))
  have n0_ := zC.mk (zD BK217.out); have n1_ := zC.mk (zI HB.out); clear BK217; clear HB; have BK217 := n0_; have HB := n1_; clear n0_ n1_; refine start_ (n := 8) (S := fun w' => w'.cell? ⟨gb217, 0, none⟩ = some (.int .i64 3) ∧ w'.cell? ⟨gb217, 1, none⟩ = some (.int .i64 8) ∧ w'.cell? ⟨gb217, 2, none⟩ = some (.int .u8 0) ∧ w'.cell? ⟨gb217, 3, none⟩ = some (.int .i64 0) ∧ w'.cell? ⟨gb217, 4, none⟩ = some (.int .i64 0) ∧ w'.cell? ⟨gb217, 5, none⟩ = some (.float .f64 0)) (ds := []) #[false, false, false, false, false, false, false, false] (by kernel_rfl) rfl rfl ⟨(zH BK217.out 0).trans rfl, (zH BK217.out 1).trans rfl, (zH BK217.out 2).trans rfl, (zH BK217.out 3).trans rfl, (zH BK217.out 4).trans rfl, (zH BK217.out 5).trans rfl⟩ (fun hHeld => ?_); refine with_tabW stanzalaw14_Awake.tab2 stanzalaw14_Awake.bits2 (fun HT_ HW_ => ?_)
  generalize w15.drew = w16 at BK217 HB hHeld ⊢
  refine take_ (i := 1) (N := some 6) (v := ?_) (a' := ?_) #[false, true, false, false, false, false, false, false] rfl rfl (take_ofW HT_.out HW_.out (by kernel_rfl)) (fun _ _ _ h => h) (Or.inl ⟨by rfl, ?_⟩) hHeld ?_ ?_
  rotate_left
  · rintro w' ⟨s0, s1, s2, s3, s4, s5⟩
    go_simp
    with_reducible rfl
  rotate_left
  · simp only [Act.put, sA_, sB_, sC_, i64_w, i32_w]
    rfl
  refine take_ (i := 4) (N := some 9) (v := ?_) (a' := ?_) #[false, true, false, false, true, false, false, false] rfl rfl (take_ofW HT_.out HW_.out (by kernel_rfl)) (fun _ _ _ h => h) (Or.inl ⟨by rfl, ?_⟩) hHeld ?_ ?_
  rotate_left
  · rintro w' ⟨s0, s1, s2, s3, s4, s5⟩
    go_simp
    with_reducible rfl
  rotate_left
  · simp only [Act.put, sA_, sB_, sC_, i64_w, i32_w]
    rfl
  refine one_ (i := 0) (N := some 5) #[true, true, false, false, true, false, false, false] rfl rfl (one_of HT_.out (by kernel_rfl)) (by decide) (fun K hK => ?_)
  refine goes_ Try.func28 (by kernel_rfl) rfl #[.string (⟨#[97, 97, 32, 98, 98]⟩ : ByteArray)] (by rfl) rfl rfl (by (try simp only [List.map_toArray, List.map_cons, List.map_nil]); first | done | rfl | (simp only [List.length_drop, List.length_take]; rfl)) ?_
  with_reducible refine (stanzalaw14_Text.calls k (⟨#[97, 97, 32, 98, 98]⟩ : ByteArray) t218 t221 _ A1.out).mono ?_
  rintro e w17 ⟨v219, v222, rfl, ho0, ho1, hb⟩
  refine ⟨_, rfl, ?_⟩
  have n0_ := zC.mk (Kd.R_lower ho0 (below_size (by repeat (first | (with_reducible first | exact HB.out | apply zJ | apply zE | apply zI | refine zF ?_ GE217.out) | exact HB.out))))
  have n1_ := zC.mk (Kd.R_lower ho1 (below_size (by repeat (first | (with_reducible first | exact HB.out | apply zJ | apply zE | apply zI | refine zF ?_ GE217.out) | exact HB.out))))
  have n2_ := zC.mk (blk_below (g := gb217) (o := .cells #[.int .i64 3, .int .i64 8, .int .u8 0, .int .i64 0, .int .i64 0, .float .f64 0] 35 (0, 0)) (by (with_reducible repeat (first | refine zA ?_ _ | refine zD ?_ | refine zB ?_ _)); exact BK217.out) hb)
  have n3_ := zC.mk (below_step (by repeat (first | (with_reducible first | exact HB.out | apply zJ | apply zE | apply zI | refine zF ?_ GE217.out) | exact HB.out)) hb)
  clear BK217 HB; have HO220 := n0_; have HO223 := n1_; have BK217 := n2_; have HB := n3_; clear n0_ n1_ n2_ n3_; (try clear hb)
  (try clear hb2)
  (try clear hk)
  (try clear hi)
  (try clear ho0)
  (try clear ho1)
  obtain ⟨Ao18, co18, eo18⟩ := Kd.R_slice HO220.out; (first | subst eo18 | (injection eo18 with f1_ f2_ f3_; have f4_ := f1_.symm; have f5_ := f3_.symm; clear f1_ f2_ f3_; subst f4_; subst f5_))
  obtain ⟨Ao19, co19, eo19⟩ := Kd.R_slice HO223.out; (first | subst eo19 | (injection eo19 with f1_ f2_ f3_; have f4_ := f1_.symm; have f5_ := f3_.symm; clear f1_ f2_ f3_; subst f4_; subst f5_))
  refine hK.out _ _ ⟨(zH BK217.out 0).trans rfl, (zH BK217.out 1).trans rfl, (zH BK217.out 2).trans rfl, (zH BK217.out 3).trans rfl, (zH BK217.out 4).trans rfl, (zH BK217.out 5).trans rfl⟩ (fun hHeld => ?_)
  clear hK K; refine norm_ (a' := ?_) ?_ ?_
  rotate_left
  · show Act.put _ (some 5) _ = _
    simp only [Act.put, sA_, sB_, sC_, i64_w, i32_w]; rfl
  refine one_ (i := 2) (N := some 7) #[true, true, true, false, true, false, false, false] rfl rfl (one_of HT_.out (by kernel_rfl)) (by decide) (fun K hK => ?_)
  refine goes_ Try.func17 (by kernel_rfl) rfl #[.agg #[.slice Ao18 t218.length co18, .slice Ao19 t221.length co19], .int .i64 0, .int .i64 5, .agg #[.int .i64 3, .int .i64 8, .int .u8 0, .int .i64 0, .int .i64 0, .float .f64 0]] (by rfl) rfl rfl (by (try simp only [List.map_toArray, List.map_cons, List.map_nil]); first | done | rfl | (simp only [List.length_drop, List.length_take]; rfl)) ?_
  with_reducible refine (first_Break.calls k _ _ t218 _ _ t221 0 5 3 8 0 0 0 0 t224 _ ?side1 ?side2 ?side3 ?side4 A2.out).mono ?_
  (case side1 => repeat (first | exact (Kd.R_reads' HO220.out).2.2 | (with_reducible refine Kd.C_alloc ?_ _) | (with_reducible refine Kd.C_drewN ?_ _) | (with_reducible refine Kd.C_drew ?_)))
  (case side2 => exact (Kd.R_reads' HO220.out).2.1)
  (case side3 => repeat (first | exact (Kd.R_reads' HO223.out).2.2 | (with_reducible refine Kd.C_alloc ?_ _) | (with_reducible refine Kd.C_drewN ?_ _) | (with_reducible refine Kd.C_drew ?_)))
  (case side4 => exact (Kd.R_reads' HO223.out).2.1)
  rintro e w20 ⟨v225, rfl, ho0, hb⟩
  refine ⟨_, rfl, ?_⟩
  have n0_ := zC.mk (Kd.R_below (by (with_reducible repeat (first | apply Kd.R_alloc | apply Kd.R_drewN | apply Kd.R_drew)); exact HO220.out) hb)
  have n1_ := zC.mk (Kd.R_below (by (with_reducible repeat (first | apply Kd.R_alloc | apply Kd.R_drewN | apply Kd.R_drew)); exact HO223.out) hb)
  have n2_ := zC.mk (Kd.R_lower ho0 (below_size (by repeat (first | (with_reducible first | exact HB.out | apply zJ | apply zE | apply zI | refine zF ?_ GE217.out) | exact HB.out))))
  have n3_ := zC.mk (blk_below (g := gb217) (o := .cells #[.int .i64 3, .int .i64 8, .int .u8 0, .int .i64 0, .int .i64 0, .float .f64 0] 35 (0, 0)) (by (with_reducible repeat (first | refine zA ?_ _ | refine zD ?_ | refine zB ?_ _)); exact BK217.out) hb)
  have n4_ := zC.mk (below_step (by repeat (first | (with_reducible first | exact HB.out | apply zJ | apply zE | apply zI | refine zF ?_ GE217.out) | exact HB.out)) hb)
  clear HO220 HO223 BK217 HB; have HO220 := n0_; have HO223 := n1_; have HO226 := n2_; have BK217 := n3_; have HB := n4_; clear n0_ n1_ n2_ n3_ n4_; (try clear hb)
  (try clear hb2)
  (try clear hk)
  (try clear hi)
  (try clear ho0)
  refine hK.out _ _ ⟨(zH BK217.out 0).trans rfl, (zH BK217.out 1).trans rfl, (zH BK217.out 2).trans rfl, (zH BK217.out 3).trans rfl, (zH BK217.out 4).trans rfl, (zH BK217.out 5).trans rfl⟩ (fun hHeld => ?_)
  clear hK K; refine norm_ (a' := ?_) ?_ ?_
  rotate_left
  · show Act.put _ (some 7) _ = _
    simp only [Act.put, sA_, sB_, sC_, i64_w, i32_w]; rfl
  refine one_ (i := 3) (N := some 8) #[true, true, true, true, true, false, false, false] rfl rfl (one_of HT_.out (by kernel_rfl)) (by decide) (fun K hK => ?_)
  refine goes_ Try.func28 (by kernel_rfl) rfl #[.string (⟨#[97, 97, 97, 97]⟩ : ByteArray)] (by rfl) rfl rfl (by (try simp only [List.map_toArray, List.map_cons, List.map_nil]); first | done | rfl | (simp only [List.length_drop, List.length_take]; rfl)) ?_
  with_reducible refine (stanzalaw14_Text.calls k (⟨#[97, 97, 97, 97]⟩ : ByteArray) t227 t230 _ A3.out).mono ?_
  rintro e w21 ⟨v228, v231, rfl, ho0, ho1, hb⟩
  refine ⟨_, rfl, ?_⟩
  have n0_ := zC.mk (Kd.R_elder' (by (with_reducible repeat (first | apply Kd.R_alloc | apply Kd.R_drewN | apply Kd.R_drew)); exact HO220.out) (Kd.R_base ho0) hb)
  have n1_ := zC.mk (Kd.R_elder' (by (with_reducible repeat (first | apply Kd.R_alloc | apply Kd.R_drewN | apply Kd.R_drew)); exact HO223.out) (Kd.R_base ho1) hb)
  have n2_ := zC.mk (Kd.R_below (by (with_reducible repeat (first | apply Kd.R_alloc | apply Kd.R_drewN | apply Kd.R_drew)); exact HO226.out) hb)
  have n3_ := zC.mk (Kd.R_lower (Kd.R_new' ho0 (Kd.R_lt (by (with_reducible repeat (first | apply Kd.R_alloc | apply Kd.R_drewN | apply Kd.R_drew)); exact HO220.out))) (below_size (by repeat (first | (with_reducible first | exact HB.out | apply zJ | apply zE | apply zI | refine zF ?_ GE217.out) | exact HB.out))))
  have n4_ := zC.mk (Kd.R_lower (Kd.R_new' ho1 (Kd.R_lt (by (with_reducible repeat (first | apply Kd.R_alloc | apply Kd.R_drewN | apply Kd.R_drew)); exact HO223.out))) (below_size (by repeat (first | (with_reducible first | exact HB.out | apply zJ | apply zE | apply zI | refine zF ?_ GE217.out) | exact HB.out))))
  have n5_ := zC.mk (blk_below (g := gb217) (o := .cells #[.int .i64 3, .int .i64 8, .int .u8 0, .int .i64 0, .int .i64 0, .float .f64 0] 35 (0, 0)) (by (with_reducible repeat (first | refine zA ?_ _ | refine zD ?_ | refine zB ?_ _)); exact BK217.out) hb)
  have n6_ := zC.mk (below_step (by repeat (first | (with_reducible first | exact HB.out | apply zJ | apply zE | apply zI | refine zF ?_ GE217.out) | exact HB.out)) hb)
  clear HO220 HO223 HO226 BK217 HB; have HO220 := n0_; have HO223 := n1_; have HO226 := n2_; have HO229 := n3_; have HO232 := n4_; have BK217 := n5_; have HB := n6_; clear n0_ n1_ n2_ n3_ n4_ n5_ n6_; (try clear hb)
  (try clear hb2)
  (try clear hk)
  (try clear hi)
  (try clear ho0)
  (try clear ho1)
  obtain ⟨Ao22, co22, eo22⟩ := Kd.R_slice HO229.out; (first | subst eo22 | (injection eo22 with f1_ f2_ f3_; have f4_ := f1_.symm; have f5_ := f3_.symm; clear f1_ f2_ f3_; subst f4_; subst f5_))
  obtain ⟨Ao23, co23, eo23⟩ := Kd.R_slice HO232.out; (first | subst eo23 | (injection eo23 with f1_ f2_ f3_; have f4_ := f1_.symm; have f5_ := f3_.symm; clear f1_ f2_ f3_; subst f4_; subst f5_))
  refine hK.out _ _ ⟨(zH BK217.out 0).trans rfl, (zH BK217.out 1).trans rfl, (zH BK217.out 2).trans rfl, (zH BK217.out 3).trans rfl, (zH BK217.out 4).trans rfl, (zH BK217.out 5).trans rfl⟩ (fun hHeld => ?_)
  clear hK K; refine norm_ (a' := ?_) ?_ ?_
  rotate_left
  · show Act.put _ (some 8) _ = _
    simp only [Act.put, sA_, sB_, sC_, i64_w, i32_w]; rfl
  refine one_ (i := 5) (N := some 10) #[true, true, true, true, true, true, false, false] rfl rfl (one_of HT_.out (by kernel_rfl)) (by decide) (fun K hK => ?_)
  refine goes_ Try.func17 (by kernel_rfl) rfl #[.agg #[.slice Ao22 t227.length co22, .slice Ao23 t230.length co23], .int .i64 0, .int .i64 4, .agg #[.int .i64 3, .int .i64 8, .int .u8 0, .int .i64 0, .int .i64 0, .float .f64 0]] (by rfl) rfl rfl (by (try simp only [List.map_toArray, List.map_cons, List.map_nil]); first | done | rfl | (simp only [List.length_drop, List.length_take]; rfl)) ?_
  with_reducible refine (first_Break.calls k _ _ t227 _ _ t230 0 4 3 8 0 0 0 0 t233 _ ?side1 ?side2 ?side3 ?side4 A4.out).mono ?_
  (case side1 => repeat (first | exact (Kd.R_reads' HO229.out).2.2 | (with_reducible refine Kd.C_alloc ?_ _) | (with_reducible refine Kd.C_drewN ?_ _) | (with_reducible refine Kd.C_drew ?_)))
  (case side2 => exact (Kd.R_reads' HO229.out).2.1)
  (case side3 => repeat (first | exact (Kd.R_reads' HO232.out).2.2 | (with_reducible refine Kd.C_alloc ?_ _) | (with_reducible refine Kd.C_drewN ?_ _) | (with_reducible refine Kd.C_drew ?_)))
  (case side4 => exact (Kd.R_reads' HO232.out).2.1)
  rintro e w24 ⟨v234, rfl, ho0, hb⟩
  refine ⟨_, rfl, ?_⟩
  have n0_ := zC.mk (Kd.R_below (by (with_reducible repeat (first | apply Kd.R_alloc | apply Kd.R_drewN | apply Kd.R_drew)); exact HO220.out) hb)
  have n1_ := zC.mk (Kd.R_below (by (with_reducible repeat (first | apply Kd.R_alloc | apply Kd.R_drewN | apply Kd.R_drew)); exact HO223.out) hb)
  have n2_ := zC.mk (Kd.R_elder' (by (with_reducible repeat (first | apply Kd.R_alloc | apply Kd.R_drewN | apply Kd.R_drew)); exact HO226.out) (Kd.R_base ho0) hb)
  have n3_ := zC.mk (Kd.R_below (by (with_reducible repeat (first | apply Kd.R_alloc | apply Kd.R_drewN | apply Kd.R_drew)); exact HO229.out) hb)
  have n4_ := zC.mk (Kd.R_below (by (with_reducible repeat (first | apply Kd.R_alloc | apply Kd.R_drewN | apply Kd.R_drew)); exact HO232.out) hb)
  have n5_ := zC.mk (Kd.R_lower (Kd.R_new' ho0 (Kd.R_lt (by (with_reducible repeat (first | apply Kd.R_alloc | apply Kd.R_drewN | apply Kd.R_drew)); exact HO226.out))) (below_size (by repeat (first | (with_reducible first | exact HB.out | apply zJ | apply zE | apply zI | refine zF ?_ GE217.out) | exact HB.out))))
  have n6_ := zC.mk (blk_below (g := gb217) (o := .cells #[.int .i64 3, .int .i64 8, .int .u8 0, .int .i64 0, .int .i64 0, .float .f64 0] 35 (0, 0)) (by (with_reducible repeat (first | refine zA ?_ _ | refine zD ?_ | refine zB ?_ _)); exact BK217.out) hb)
  have n7_ := zC.mk (below_step (by repeat (first | (with_reducible first | exact HB.out | apply zJ | apply zE | apply zI | refine zF ?_ GE217.out) | exact HB.out)) hb)
  clear HO220 HO223 HO226 HO229 HO232 BK217 HB; have HO220 := n0_; have HO223 := n1_; have HO226 := n2_; have HO229 := n3_; have HO232 := n4_; have HO235 := n5_; have BK217 := n6_; have HB := n7_; clear n0_ n1_ n2_ n3_ n4_ n5_ n6_ n7_; (try clear hb)
  (try clear hb2)
  (try clear hk)
  (try clear hi)
  (try clear ho0)
  refine hK.out _ _ ⟨(zH BK217.out 0).trans rfl, (zH BK217.out 1).trans rfl, (zH BK217.out 2).trans rfl, (zH BK217.out 3).trans rfl, (zH BK217.out 4).trans rfl, (zH BK217.out 5).trans rfl⟩ (fun hHeld => ?_)
  clear hK K; refine norm_ (a' := ?_) ?_ ?_
  rotate_left
  · show Act.put _ (some 10) _ = _
    simp only [Act.put, sA_, sB_, sC_, i64_w, i32_w]; rfl
  refine pure_ (i := 6) (N := some 2) (v := ?_) (a' := ?_) (tf_ 7 8) rfl rfl (any_of HT_.out (by kernel_rfl)) (fun _ _ _ h => h) (Or.inl ⟨by rfl, ?_⟩) ?_ ?_
  rotate_left
  · intro w'
    go_simp
    with_reducible rfl
  rotate_left
  · simp only [Act.put, sA_, sB_, sC_, i64_w, i32_w]
    rfl
  refine pure_ (i := 7) (N := some 3) (v := ?_) (a' := ?_) #[true, true, true, true, true, true, true, true] rfl rfl (any_of HT_.out (by kernel_rfl)) (fun _ _ _ h => h) (Or.inl ⟨by rfl, ?_⟩) ?_ ?_
  rotate_left
  · intro w'
    go_simp
    with_reducible rfl
  rotate_left
  · simp only [Act.put, sA_, sB_, sC_, i64_w, i32_w]
    rfl
  refine done_ (done_of HT_.out (by kernel_rfl)) ?_
  obtain ⟨Ao25, co25, eo25⟩ := Kd.R_slice HO226.out; subst eo25; have p236 : 0 ≤ (0 : Int) := (by omega)
  have q236 : 0 < (t224.length : Int) := of_decide_eq_true (by first | (with_reducible assumption) | assumption)
  obtain ⟨ad236, e236, hx236_0, hx236_1, hx236_2, hx236_3⟩ := at_T45 (Kd.R_reads' HO226.out).2.2 0 p236 q236; cases e236
  have qi236 : (0 < t224.length) = True := eq_true (by omega)
  (try rw [show ((0 : Int)).toNat = 0 from rfl] at hx236_0)
  (try rw [show 0 * 4 = 0 from rfl] at hx236_0)
  (try rw [Addr.add_zero'] at hx236_0)
  (try rw [show ((0 : Int)).toNat = 0 from rfl] at hx236_1)
  (try rw [show 0 * 4 = 0 from rfl] at hx236_1)
  (try rw [Addr.add_zero'] at hx236_1)
  (try rw [show ((0 : Int)).toNat = 0 from rfl] at hx236_2)
  (try rw [show 0 * 4 = 0 from rfl] at hx236_2)
  (try rw [Addr.add_zero'] at hx236_2)
  (try rw [show ((0 : Int)).toNat = 0 from rfl] at hx236_3)
  (try rw [show 0 * 4 = 0 from rfl] at hx236_3)
  (try rw [Addr.add_zero'] at hx236_3)
  replace p236 := eq_true p236; replace q236 := eq_true q236; obtain ⟨Ao26, co26, eo26⟩ := Kd.R_slice HO235.out; subst eo26; have p237 : 0 ≤ (0 : Int) := (by omega)
  have q237 : 0 < (t233.length : Int) := of_decide_eq_true (by first | (with_reducible assumption) | assumption)
  obtain ⟨ad237, e237, hx237_0, hx237_1, hx237_2, hx237_3⟩ := at_T45 (Kd.R_reads' HO235.out).2.2 0 p237 q237; cases e237
  have qi237 : (0 < t233.length) = True := eq_true (by omega)
  (try rw [show ((0 : Int)).toNat = 0 from rfl] at hx237_0)
  (try rw [show 0 * 4 = 0 from rfl] at hx237_0)
  (try rw [Addr.add_zero'] at hx237_0)
  (try rw [show ((0 : Int)).toNat = 0 from rfl] at hx237_1)
  (try rw [show 0 * 4 = 0 from rfl] at hx237_1)
  (try rw [Addr.add_zero'] at hx237_1)
  (try rw [show ((0 : Int)).toNat = 0 from rfl] at hx237_2)
  (try rw [show 0 * 4 = 0 from rfl] at hx237_2)
  (try rw [Addr.add_zero'] at hx237_2)
  (try rw [show ((0 : Int)).toNat = 0 from rfl] at hx237_3)
  (try rw [show 0 * 4 = 0 from rfl] at hx237_3)
  (try rw [Addr.add_zero'] at hx237_3)
  replace p237 := eq_true p237; replace q237 := eq_true q237; have p238 : 0 ≤ (0 : Int) := (by omega)
  have q238 : 0 < (t233.length : Int) := of_decide_eq_true (by first | (with_reducible assumption) | assumption)
  obtain ⟨ad238, e238, hx238_0, hx238_1, hx238_2, hx238_3⟩ := at_T45 (Kd.R_reads' HO235.out).2.2 0 p238 q238; obtain rfl : ad237 = ad238 := (by injection e238)
  have qi238 : (0 < t233.length) = True := eq_true (by omega)
  (try rw [show ((0 : Int)).toNat = 0 from rfl] at hx238_0)
  (try rw [show 0 * 4 = 0 from rfl] at hx238_0)
  (try rw [Addr.add_zero'] at hx238_0)
  (try rw [show ((0 : Int)).toNat = 0 from rfl] at hx238_1)
  (try rw [show 0 * 4 = 0 from rfl] at hx238_1)
  (try rw [Addr.add_zero'] at hx238_1)
  (try rw [show ((0 : Int)).toNat = 0 from rfl] at hx238_2)
  (try rw [show 0 * 4 = 0 from rfl] at hx238_2)
  (try rw [Addr.add_zero'] at hx238_2)
  (try rw [show ((0 : Int)).toNat = 0 from rfl] at hx238_3)
  (try rw [show 0 * 4 = 0 from rfl] at hx238_3)
  (try rw [Addr.add_zero'] at hx238_3)
  replace p238 := eq_true p238; replace q238 := eq_true q238; have p239 : 0 ≤ (1 : Int) := (by omega)
  have q239 : 1 < (t233.length : Int) := of_decide_eq_true (by first | (with_reducible assumption) | assumption)
  obtain ⟨ad239, e239, hx239_0, hx239_1, hx239_2, hx239_3⟩ := at_T45 (Kd.R_reads' HO235.out).2.2 1 p239 q239; obtain rfl : ad237 = ad239 := (by injection e239)
  (try simp only [show (1 : Int).toNat = 1 from rfl, Nat.reduceMul, Nat.reduceEqDiff, Go.Addr.add, ↓reduceIte] at hx239_0)
  (try simp only [show (1 : Int).toNat = 1 from rfl, Nat.reduceMul, Nat.reduceEqDiff, Go.Addr.add, ↓reduceIte] at hx239_1)
  (try simp only [show (1 : Int).toNat = 1 from rfl, Nat.reduceMul, Nat.reduceEqDiff, Go.Addr.add, ↓reduceIte] at hx239_2)
  (try simp only [show (1 : Int).toNat = 1 from rfl, Nat.reduceMul, Nat.reduceEqDiff, Go.Addr.add, ↓reduceIte] at hx239_3)
  have qi239 : (1 < t233.length) = True := eq_true (by omega)
  (try rw [show ((1 : Int)).toNat = 1 from rfl] at hx239_0)
  (try rw [show 1 * 4 = 4 from rfl] at hx239_0)
  (try rw [show ((1 : Int)).toNat = 1 from rfl] at hx239_1)
  (try rw [show 1 * 4 = 4 from rfl] at hx239_1)
  (try rw [show ((1 : Int)).toNat = 1 from rfl] at hx239_2)
  (try rw [show 1 * 4 = 4 from rfl] at hx239_2)
  (try rw [show ((1 : Int)).toNat = 1 from rfl] at hx239_3)
  (try rw [show 1 * 4 = 4 from rfl] at hx239_3)
  replace p239 := eq_true p239; replace q239 := eq_true q239; try go_wp2
  go_ret
  exact ⟨by first | rfl | (simp [errW_none, errW_some] <;> rfl) | (simp [*, errW_none, errW_some] <;> rfl), by repeat (first | (with_reducible first | exact HB.out | apply zJ | apply zE | apply zI | refine zF ?_ GE217.out) | exact HB.out)⟩
end Go.Proofs.Ytfeidhmkmbgnoaa.F
end
section
namespace Go.Proofs.Ytfeidhmkmbgnoaa.F
open Go.RowKit Go.Proofs.YtfeidhmkmbgnoaaW.PrintWords Go.Proofs.YtfeidhmkmbgnoaaW.PrintLast Go.Proofs.YtfeidhmkmbgnoaaW.PrintMore
attribute [local go_sem] max2_int min2_int max_two min_two max_three min_three max_four min_four   -- for this text's walks alone
set_option linter.unusedVariables false
set_option linter.unusedSimpArgs false
attribute [local go_sem high] eqA45
mutual
def stanzalaw14_FirstHyphens.l0 : Nat → Int → Int → List (S49) → Int → Int → Option (Bool)
  | 0, _, _, _, _, _ => none
  | k + 1, x5, x6, x7, x25, x26 => if x26 < x25 then (if x7.length < 35184372088832 then (stanzalaw14_FirstHyphens.l0 k x5 x6 (x7 ++ [(⟨1, 0, 0, 3⟩ : S49)]) x25 (wrap64 (x26 + 1))) else (none)) else ((stanzahand03_Para.f k x7).bind fun bt426 => ((first_Break.f k bt426.1 bt426.2 0 x6 x5 8 0 0 0 0).bind fun t432 => (stanzalaw14_FirstHyphens.l1 k x5 x6 0 t432 (t432.length : Int) 0)))
def stanzalaw14_FirstHyphens.l1 : Nat → Int → Int → Int → List (S45) → Int → Int → Option (Bool)
  | 0, _, _, _, _, _, _ => none
  | k + 1, x5, x6, x9, x39, x40, x41 => if x41 < x40 then (if 0 ≤ x41 then (if x41 < (x39.length : Int) then (if (wrap64 (x6 - x9)) > x5 then (if x5 = 1 then (stanzalaw14_FirstHyphens.j2 k x5 x6 x9 1 4 x39 x40 x41 ((rd_T45 x39 x41).f0) ((rd_T45 x39 x41).f1) ((rd_T45 x39 x41).f2) ((rd_T45 x39 x41).f3)) else (stanzalaw14_FirstHyphens.j2 k x5 x6 x9 (wrap64 (x5 - 1)) 3 x39 x40 x41 ((rd_T45 x39 x41).f0) ((rd_T45 x39 x41).f1) ((rd_T45 x39 x41).f2) ((rd_T45 x39 x41).f3))) else (stanzalaw14_FirstHyphens.j2 k x5 x6 x9 (mn (wrap64 (x6 - x9)) x5) 2 x39 x40 x41 ((rd_T45 x39 x41).f0) ((rd_T45 x39 x41).f1) ((rd_T45 x39 x41).f2) ((rd_T45 x39 x41).f3))) else (none)) else (none)) else (some (x9 == x6))
def stanzalaw14_FirstHyphens.j2 : Nat → Int → Int → Int → Int → Int → List (S45) → Int → Int → Int → Int → Int → Int → Option (Bool)
  | 0, _, _, _, _, _, _, _, _, _, _, _, _ => none
  | k + 1, x5, x6, x9, x13, x14, x39, x40, x41, x437000, x437001, x437002, x437003 => if x14 = 3 then (if (!(x437000 == x9) || (!(x437001 == (wrap64 (x9 + x13))) || (!(x437002 == (wrap64 (x13 + 1))) || (!(x437003 == x14))))) = true then (some false) else (stanzalaw14_FirstHyphens.l1 k x5 x6 x437001 x39 x40 (wrap64 (x41 + 1)))) else (if (!(x437000 == x9) || (!(x437001 == (wrap64 (x9 + x13))) || (!(x437002 == x13) || (!(x437003 == x14))))) = true then (some false) else (stanzalaw14_FirstHyphens.l1 k x5 x6 x437001 x39 x40 (wrap64 (x41 + 1))))
end
def stanzalaw14_FirstHyphens.f (k : Nat) (a0 : Int) (a1 : Int) : Option (Bool) := (stanzalaw14_Awake.f k).bind fun t422 => (if t422 = true then (stanzalaw14_FirstHyphens.l0 k (wrap64 (1 + (wrap64 (Int.tmod a1 20)))) (wrap64 (Int.tmod a0 100)) ([] : List (S49)) (wrap64 (Int.tmod a0 100)) 0) else (some false))
theorem stanzalaw14_FirstHyphens.mono_l : ∀ k, (∀ y0 y1 y2 y3 y4, LeO (stanzalaw14_FirstHyphens.l0 k y0 y1 y2 y3 y4) (stanzalaw14_FirstHyphens.l0 (k + 1) y0 y1 y2 y3 y4)) ∧ (∀ y0 y1 y2 y3 y4 y5, LeO (stanzalaw14_FirstHyphens.l1 k y0 y1 y2 y3 y4 y5) (stanzalaw14_FirstHyphens.l1 (k + 1) y0 y1 y2 y3 y4 y5)) ∧ (∀ y0 y1 y2 y3 y4 y5 y6 y7 y8 y9 y10 y11, LeO (stanzalaw14_FirstHyphens.j2 k y0 y1 y2 y3 y4 y5 y6 y7 y8 y9 y10 y11) (stanzalaw14_FirstHyphens.j2 (k + 1) y0 y1 y2 y3 y4 y5 y6 y7 y8 y9 y10 y11))
  | 0 => ⟨fun _ _ _ _ _ r h => by simp [stanzalaw14_FirstHyphens.l0] at h, fun _ _ _ _ _ _ r h => by simp [stanzalaw14_FirstHyphens.l1] at h, fun _ _ _ _ _ _ _ _ _ _ _ _ r h => by simp [stanzalaw14_FirstHyphens.j2] at h⟩
  | k + 1 => by
    obtain ⟨ih0, ih1, ih2⟩ := stanzalaw14_FirstHyphens.mono_l k; refine ⟨?_, ?_, ?_⟩
    · intro y0 y1 y2 y3 y4
      unfold stanzalaw14_FirstHyphens.l0
      repeat' first
      | (with_reducible exact ih0 _ _ _ _ _)
      | (with_reducible exact ih1 _ _ _ _ _ _)
      | (with_reducible exact ih2 _ _ _ _ _ _ _ _ _ _ _ _)
      | (with_reducible exact first_Break.mono _ _ _ _ _ _ _ _ _ _ _)
      | (with_reducible exact stanzahand03_Para.mono _ _)
      | (with_reducible exact stanzalaw14_Awake.mono _)
      | (with_reducible exact LeO.refl _)
      | (with_reducible exact LeO.none _)
      | (with_reducible refine LeO.ite ?_ ?_)
      | (with_reducible refine LeO.bind ?_ (fun _ => ?_))
      | exact ih0 _ _ _ _ _
      | exact ih1 _ _ _ _ _ _
      | exact ih2 _ _ _ _ _ _ _ _ _ _ _ _
      | exact first_Break.mono _ _ _ _ _ _ _ _ _ _ _
      | exact stanzahand03_Para.mono _ _
      | exact stanzalaw14_Awake.mono _
      | exact LeO.none _
      | refine LeO.ite ?_ ?_
      | refine LeO.bind ?_ (fun _ => ?_)
    · intro y0 y1 y2 y3 y4 y5
      unfold stanzalaw14_FirstHyphens.l1
      repeat' first
      | (with_reducible exact ih0 _ _ _ _ _)
      | (with_reducible exact ih1 _ _ _ _ _ _)
      | (with_reducible exact ih2 _ _ _ _ _ _ _ _ _ _ _ _)
      | (with_reducible exact first_Break.mono _ _ _ _ _ _ _ _ _ _ _)
      | (with_reducible exact stanzahand03_Para.mono _ _)
      | (with_reducible exact stanzalaw14_Awake.mono _)
      | (with_reducible exact LeO.refl _)
      | (with_reducible exact LeO.none _)
      | (with_reducible refine LeO.ite ?_ ?_)
      | (with_reducible refine LeO.bind ?_ (fun _ => ?_))
      | exact ih0 _ _ _ _ _
      | exact ih1 _ _ _ _ _ _
      | exact ih2 _ _ _ _ _ _ _ _ _ _ _ _
      | exact first_Break.mono _ _ _ _ _ _ _ _ _ _ _
      | exact stanzahand03_Para.mono _ _
      | exact stanzalaw14_Awake.mono _
      | exact LeO.none _
      | refine LeO.ite ?_ ?_
      | refine LeO.bind ?_ (fun _ => ?_)
    · intro y0 y1 y2 y3 y4 y5 y6 y7 y8 y9 y10 y11
      unfold stanzalaw14_FirstHyphens.j2
      repeat' first
      | (with_reducible exact ih0 _ _ _ _ _)
      | (with_reducible exact ih1 _ _ _ _ _ _)
      | (with_reducible exact ih2 _ _ _ _ _ _ _ _ _ _ _ _)
      | (with_reducible exact first_Break.mono _ _ _ _ _ _ _ _ _ _ _)
      | (with_reducible exact stanzahand03_Para.mono _ _)
      | (with_reducible exact stanzalaw14_Awake.mono _)
      | (with_reducible exact LeO.refl _)
      | (with_reducible exact LeO.none _)
      | (with_reducible refine LeO.ite ?_ ?_)
      | (with_reducible refine LeO.bind ?_ (fun _ => ?_))
      | exact ih0 _ _ _ _ _
      | exact ih1 _ _ _ _ _ _
      | exact ih2 _ _ _ _ _ _ _ _ _ _ _ _
      | exact first_Break.mono _ _ _ _ _ _ _ _ _ _ _
      | exact stanzahand03_Para.mono _ _
      | exact stanzalaw14_Awake.mono _
      | exact LeO.none _
      | refine LeO.ite ?_ ?_
      | refine LeO.bind ?_ (fun _ => ?_)
theorem stanzalaw14_FirstHyphens.mono : ∀ a0 a1 k, LeO (stanzalaw14_FirstHyphens.f k a0 a1) (stanzalaw14_FirstHyphens.f (k + 1) a0 a1) := by
  intro a0 a1 k
  obtain ⟨ih0, ih1, ih2⟩ := stanzalaw14_FirstHyphens.mono_l k; unfold stanzalaw14_FirstHyphens.f
  repeat' first
      | (with_reducible exact ih0 _ _ _ _ _)
      | (with_reducible exact ih1 _ _ _ _ _ _)
      | (with_reducible exact ih2 _ _ _ _ _ _ _ _ _ _ _ _)
      | (with_reducible exact first_Break.mono _ _ _ _ _ _ _ _ _ _ _)
      | (with_reducible exact stanzahand03_Para.mono _ _)
      | (with_reducible exact stanzalaw14_Awake.mono _)
      | (with_reducible exact LeO.refl _)
      | (with_reducible exact LeO.none _)
      | (with_reducible refine LeO.ite ?_ ?_)
      | (with_reducible refine LeO.bind ?_ (fun _ => ?_))
      | exact ih0 _ _ _ _ _
      | exact ih1 _ _ _ _ _ _
      | exact ih2 _ _ _ _ _ _ _ _ _ _ _ _
      | exact first_Break.mono _ _ _ _ _ _ _ _ _ _ _
      | exact stanzahand03_Para.mono _ _
      | exact stanzalaw14_Awake.mono _
      | exact LeO.none _
      | refine LeO.ite ?_ ?_
      | refine LeO.bind ?_ (fun _ => ?_)
set_option maxHeartbeats 8000000 in
set_option maxRecDepth 100000 in
theorem stanzalaw14_FirstHyphens.calls (k : Nat) (a0 : Int) (a1 : Int) (r : Bool) (w : World) (h : stanzalaw14_FirstHyphens.f k a0 a1 = some r) (hrt_ : zC (r = true)) :
    Calls Try.prog 7 #[.int .u8 a0, .int .u8 a1] w fun e w' => e = .returned (.bool r) ∧ Below w.heap.size w w' := by
  have hu49 := Try.underlying49; have hu35 := Try.underlying35; have hu45 := Try.underlying45; have HB := zC.mk (Below.refl w.heap.size w); have H : ((stanzalaw14_Awake.f k).bind fun t422 => (if t422 = true then (stanzalaw14_FirstHyphens.l0 k (wrap64 (1 + (wrap64 (Int.tmod a1 20)))) (wrap64 (Int.tmod a0 100)) ([] : List (S49)) (wrap64 (Int.tmod a0 100)) 0) else (some false))) = some r := h
  clear h; replace H := Option.bind_eq_some_iff.mp H; obtain ⟨t422, A30, H⟩ := H; replace H : (if t422 = true then (stanzalaw14_FirstHyphens.l0 k (wrap64 (1 + (wrap64 (Int.tmod a1 20)))) (wrap64 (Int.tmod a0 100)) ([] : List (S49)) (wrap64 (Int.tmod a0 100)) 0) else (some false)) = some r := H; have A3 := zC.mk A30; clear A30; by_cases c4 : t422 = true
  rotate_left
  · replace c4 := Bool.eq_false_iff.mpr c4
    subst c4; have H1 : (some false) = some r := by rw [if_neg (show ¬ (false = true) by decide)] at H; exact H
    clear H; have H := H1; clear H1; exact absurd ((Option.some.inj H).trans hrt_.out) (by decide)
  subst c4; have H1 : (stanzalaw14_FirstHyphens.l0 k (wrap64 (1 + (wrap64 (Int.tmod a1 20)))) (wrap64 (Int.tmod a0 100)) ([] : List (S49)) (wrap64 (Int.tmod a0 100)) 0) = some r := by rw [if_pos rfl] at H; exact H
  clear H; have H := H1; clear H1; have H' := zC.mk H
  clear H; go_enter Try.func7, Try.ntmps7
  go_wp2_with (first | ((with_reducible refine gate_callee (f := 12) rfl ?_); refine goesL_ (some 16) rfl rfl Try.func12 (by kernel_rfl) rfl #[] rfl (by (try simp only [List.map_toArray, List.map_cons, List.map_nil]); first | done | rfl | (simp only [List.length_drop, List.length_take]; rfl)) ?_; (with_reducible refine (stanzalaw14_Awake.calls k  true _ A3.out (by first | exact ⟨rfl⟩ | exact hrt_)).mono ?_); rintro e w5 ⟨rfl, hb⟩; refine ⟨_, rfl, ?_⟩; have n0_ := zC.mk (below_step (by repeat (first | (with_reducible first | exact HB.out | apply zJ | apply zE | apply zI) | exact HB.out)) hb); clear HB; have HB := n0_; clear n0_; (try clear hb); (try clear hb2); (try clear hk); (try clear hi)))
  go_loopg [7, 26] k (fun kq v7 v26 w' => ∃ (x7_1 : List (S49)) (x26_1 : Int), v26 = .int .i64 x26_1 ∧ zC (stanzalaw14_FirstHyphens.l0 kq (wrap64 (1 + (wrap64 (Int.tmod a1 20)))) (wrap64 (Int.tmod a0 100)) x7_1 (wrap64 (Int.tmod a0 100)) x26_1 = some r) ∧ zC (kq ≤ k) ∧ zC (Kd.R k49 49 w' w.heap.size (fun _ => True) v7 x7_1) ∧ zC (Below w.heap.size w w'))
  case atStart => exact ⟨(([] : List (S49))), (0), (by first | rfl | (simp; done) | (simp [*]; done)), H', ⟨Nat.le_refl _⟩, ⟨by first | exact Kd.R_nil _ _ _ _ _ | exact Kd.N_nil _ _ _ _ _ | exact Kd.V_nil _ _ _ _ _ | exact Kd.Q_nil _ _ _ _ _ | exact Kd.S_nil _ _ _ _ _⟩, ⟨by repeat (first | (with_reducible first | exact HB.out | apply zJ | apply zE | apply zI) | exact HB.out)⟩⟩
  clear H'; try clear c1
  try clear p2
  try clear c4
  obtain ⟨x7_1, x26_1, rfl, HA, HK1, HO_7, HB⟩ := hrel; cases gk with
  | zero => exact absurd HA.out (by simp [stanzalaw14_FirstHyphens.l0])
  | succ k1 =>
    have H := HA.out; clear HA; simp only [stanzalaw14_FirstHyphens.l0] at H; by_cases c6 : x26_1 < (wrap64 (Int.tmod a0 100))
    · rw [if_pos c6] at H
      have c6b0 : decide (x26_1 < (wrap64 (Int.tmod a0 100))) = true := decide_eq_true c6
      clear c6; by_cases c7 : x7_1.length < 35184372088832
      rotate_left
      · rw [if_neg c7] at H
        exact absurd H (by simp)
      rw [if_pos c7] at H; have LMc7 := zC.mk c7; clear c7; obtain ⟨y423, hy423⟩ : ∃ y_ : List (S49), y_ = (x7_1 ++ [(⟨1, 0, 0, 3⟩ : S49)]) := ⟨_, rfl⟩; replace H : (stanzalaw14_FirstHyphens.l0 k1 (wrap64 (1 + (wrap64 (Int.tmod a1 20)))) (wrap64 (Int.tmod a0 100)) y423 (wrap64 (Int.tmod a0 100)) (wrap64 (x26_1 + 1))) = some r := by first | (rw [hy423]; with_reducible exact H) | (have H2_ := (Option.bind_some _ _).symm.trans H; rw [hy423]; with_reducible exact H2_) | (have H2_ := (Option.bind_some _ _).symm.trans H; with_reducible exact H2_) | with_reducible exact H | (rw [hy423]; exact H) | exact H
      have Ny423 := zC.mk hy423; clear hy423; have H' := zC.mk H
      clear H; go_wp2_with (first | ((with_reducible refine gate_builtin (b := .append) (xs := #[.tmp 28, .tmp 30]) rfl ?_); at_builtin; refine Kd.R_append k49 (w0 := w) w.heap.size rfl (.tmp 28) (.tmp 30) 22 49 (.agg #[(.int .u8 0), (.int .u8 0), (.int .u8 0), (.int .u8 0)]) 4 rfl Try.underlying22 info49 rfl (by decide) (by omega) u7 x7_1 (⟨1, 0, 0, 3⟩ : S49) [.int .u8 1, .int .u8 0, .int .u8 0, .int .u8 3] (fun _ => True) (fun _ => False) rfl rfl ?aP (fun _ hk => hk.elim) ?aF ?aO ?aB ?aS ?aL ?_; (case aP => exact k49_mkM _ _ _ (⟨1, 0, 0, 3⟩ : S49)); (case aB => exact (by repeat (first | (with_reducible first | exact HB.out | apply zJ | apply zE | apply zI) | exact HB.out))); (case aF => exact (fun _ _ => trivial)); (case aO => exact (by (with_reducible repeat (first | apply Kd.R_alloc | apply Kd.R_drewN | apply Kd.R_drew)); exact HO_7.out)); (case aS => exact (below_size (by repeat (first | (with_reducible first | exact HB.out | apply zJ | apply zE | apply zI) | exact HB.out)))); (case aL => have := LMc7.out; omega); intro v424 w8 ho hb hg hat; rw [← Ny423.out] at ho; have n0_ := zC.mk (hb); have n1_ := zC.mk (ho); clear HB; clear HO_7; have HB := n0_; have HO425 := n1_; clear n0_ n1_; clear ho hb hg hat))
      go_roundg k1
      case measure => have := HK1.out; omega
      case rel => exact ⟨(y423), (wrap64 (x26_1 + 1)), (by first | rfl | (simp; done) | (simp [*]; done)), H', ⟨by have := HK1.out; omega⟩, ⟨by (with_reducible repeat (first | apply Kd.R_alloc | apply Kd.R_drewN | apply Kd.R_drew)); exact HO425.out⟩, ⟨by repeat (first | (with_reducible first | exact HB.out | apply zJ | apply zE | apply zI) | exact HB.out)⟩⟩
    rw [if_neg c6] at H; have c6b0 : decide (x26_1 < (wrap64 (Int.tmod a0 100))) = false := decide_eq_false c6
    clear c6; replace H := Option.bind_eq_some_iff.mp H; obtain ⟨⟨t426, t429⟩, A90, H⟩ := H; replace H : ((first_Break.f k1 t426 t429 0 (wrap64 (Int.tmod a0 100)) (wrap64 (1 + (wrap64 (Int.tmod a1 20)))) 8 0 0 0 0).bind fun t432 => (stanzalaw14_FirstHyphens.l1 k1 (wrap64 (1 + (wrap64 (Int.tmod a1 20)))) (wrap64 (Int.tmod a0 100)) 0 t432 (t432.length : Int) 0)) = some r := H
    have A9 := zC.mk A90; clear A90; replace H := Option.bind_eq_some_iff.mp H; obtain ⟨t432, A100, H⟩ := H; replace H : (stanzalaw14_FirstHyphens.l1 k1 (wrap64 (1 + (wrap64 (Int.tmod a1 20)))) (wrap64 (Int.tmod a0 100)) 0 t432 (t432.length : Int) 0) = some r := H; have A10 := zC.mk A100; clear A100; have H' := zC.mk H
    clear H; obtain ⟨Ao11, co11, eo11⟩ := Kd.R_slice HO_7.out; subst eo11; go_wp2_with (first | ((with_reducible refine gate_callee (f := 13) rfl ?_); refine goesL_ (some 34) rfl rfl Try.func13 (by kernel_rfl) rfl #[.slice Ao11 x7_1.length co11] rfl (by (try simp only [List.map_toArray, List.map_cons, List.map_nil]); first | done | rfl | (simp only [List.length_drop, List.length_take]; rfl)) ?_; (with_reducible refine (stanzahand03_Para.calls k1 _ _ x7_1 t426 t429 _ ?side1 ?side2 A9.out).mono ?_); (case side1 => repeat (first | exact (Kd.R_reads' HO_7.out).2.2 | (with_reducible refine Kd.C_alloc ?_ _) | (with_reducible refine Kd.C_drewN ?_ _) | (with_reducible refine Kd.C_drew ?_))); (case side2 => exact (Kd.R_reads' HO_7.out).2.1); rintro e w12 ⟨v427, v430, rfl, ho0, ho1, hb⟩; refine ⟨_, rfl, ?_⟩; have n0_ := zC.mk (Kd.R_below (by (with_reducible repeat (first | apply Kd.R_alloc | apply Kd.R_drewN | apply Kd.R_drew)); exact HO_7.out) hb); have n1_ := zC.mk (Kd.R_lower ho0 (below_size (by repeat (first | (with_reducible first | exact HB.out | apply zJ | apply zE | apply zI) | exact HB.out)))); have n2_ := zC.mk (Kd.R_lower ho1 (below_size (by repeat (first | (with_reducible first | exact HB.out | apply zJ | apply zE | apply zI) | exact HB.out)))); have n3_ := zC.mk (below_step (by repeat (first | (with_reducible first | exact HB.out | apply zJ | apply zE | apply zI) | exact HB.out)) hb); clear HO_7; clear HB; have HO_7 := n0_; have HO428 := n1_; have HO431 := n2_; have HB := n3_; clear n0_ n1_ n2_ n3_; (try clear hb); (try clear hb2); (try clear hk); (try clear hi); (try clear ho0); (try clear ho1); obtain ⟨Ao13, co13, eo13⟩ := Kd.R_slice HO428.out; subst eo13; obtain ⟨Ao14, co14, eo14⟩ := Kd.R_slice HO431.out; subst eo14) | ((with_reducible refine gate_callee (f := 17) rfl ?_); refine goesL_ (some 38) rfl rfl Try.func17 (by kernel_rfl) rfl #[.agg #[.slice Ao13 t426.length co13, .slice Ao14 t429.length co14], .int .i64 0, .int .i64 (wrap64 (Int.tmod a0 100)), .agg #[.int .i64 (wrap64 (1 + (wrap64 (Int.tmod a1 20)))), .int .i64 8, .int .u8 0, .int .i64 0, .int .i64 0, .float .f64 0]] rfl (by (try simp only [List.map_toArray, List.map_cons, List.map_nil]); first | done | rfl | (simp only [List.length_drop, List.length_take]; rfl)) ?_; (with_reducible refine (first_Break.calls k1 _ _ t426 _ _ t429 0 (wrap64 (Int.tmod a0 100)) (wrap64 (1 + (wrap64 (Int.tmod a1 20)))) 8 0 0 0 0 t432 _ ?side1 ?side2 ?side3 ?side4 A10.out).mono ?_); (case side1 => repeat (first | exact (Kd.R_reads' HO428.out).2.2 | (with_reducible refine Kd.C_alloc ?_ _) | (with_reducible refine Kd.C_drewN ?_ _) | (with_reducible refine Kd.C_drew ?_))); (case side2 => exact (Kd.R_reads' HO428.out).2.1); (case side3 => repeat (first | exact (Kd.R_reads' HO431.out).2.2 | (with_reducible refine Kd.C_alloc ?_ _) | (with_reducible refine Kd.C_drewN ?_ _) | (with_reducible refine Kd.C_drew ?_))); (case side4 => exact (Kd.R_reads' HO431.out).2.1); rintro e w15 ⟨v433, rfl, ho0, hb⟩; refine ⟨_, rfl, ?_⟩; have n0_ := zC.mk (Kd.R_below (by (with_reducible repeat (first | apply Kd.R_alloc | apply Kd.R_drewN | apply Kd.R_drew)); exact HO_7.out) hb); have n1_ := zC.mk (Kd.R_below (by (with_reducible repeat (first | apply Kd.R_alloc | apply Kd.R_drewN | apply Kd.R_drew)); exact HO428.out) hb); have n2_ := zC.mk (Kd.R_below (by (with_reducible repeat (first | apply Kd.R_alloc | apply Kd.R_drewN | apply Kd.R_drew)); exact HO431.out) hb); have n3_ := zC.mk (Kd.R_lower ho0 (below_size (by repeat (first | (with_reducible first | exact HB.out | apply zJ | apply zE | apply zI) | exact HB.out)))); have n4_ := zC.mk (below_step (by repeat (first | (with_reducible first | exact HB.out | apply zJ | apply zE | apply zI) | exact HB.out)) hb); clear HO_7; clear HO428; clear HO431; clear HB; have HO_7 := n0_; have HO428 := n1_; have HO431 := n2_; have HO434 := n3_; have HB := n4_; clear n0_ n1_ n2_ n3_ n4_; (try clear hb); (try clear hb2); (try clear hk); (try clear hi); (try clear ho0); obtain ⟨Ao16, co16, eo16⟩ := Kd.R_slice HO434.out; subst eo16))
    go_loopg [9, 41] k1 (fun kq v9 v41 w' => ∃ (x9_2 : Int) (x41_2 : Int), v9 = .int .i64 x9_2 ∧ v41 = .int .i64 x41_2 ∧ zC (stanzalaw14_FirstHyphens.l1 kq (wrap64 (1 + (wrap64 (Int.tmod a1 20)))) (wrap64 (Int.tmod a0 100)) x9_2 t432 (t432.length : Int) x41_2 = some r) ∧ zC (kq ≤ k1) ∧ zC (Kd.R k45 45 w' w.heap.size (fun _ => True) (.slice Ao16 t432.length co16) t432) ∧ zC (Below w.heap.size w w'))
    case atStart => exact ⟨(0), (0), (by first | rfl | (simp; done) | (simp [*]; done)), (by first | rfl | (simp; done) | (simp [*]; done)), H', ⟨Nat.le_refl _⟩, ⟨by (with_reducible repeat (first | apply Kd.R_alloc | apply Kd.R_drewN | apply Kd.R_drew)); exact HO434.out⟩, ⟨by repeat (first | (with_reducible first | exact HB.out | apply zJ | apply zE | apply zI) | exact HB.out)⟩⟩
    clear H'; try clear c1
    try clear p2
    try clear c4
    try clear c6
    try clear c6b0
    try clear p6
    try clear c7
    try clear c12
    try clear c13
    try clear p2
    obtain ⟨x9_2, x41_2, rfl, rfl, HA, HK2, HO_39, HB⟩ := hrel; cases gk with
    | zero => exact absurd HA.out (by simp [stanzalaw14_FirstHyphens.l1])
    | succ k2 =>
      have H := HA.out; clear HA; simp only [stanzalaw14_FirstHyphens.l1] at H; by_cases c17 : x41_2 < (t432.length : Int)
      rotate_left
      · rw [if_neg c17] at H
        have c17b0 : decide (x41_2 < (t432.length : Int)) = false := decide_eq_false c17
        clear c17; obtain rfl := Option.some.inj H
        go_wp2
        go_ret
        exact ⟨by first | rfl | (simp [errW_none, errW_some] <;> rfl) | (simp [*, errW_none, errW_some] <;> rfl), by repeat (first | (with_reducible first | exact HB.out | apply zJ | apply zE | apply zI) | exact HB.out)⟩
      rw [if_pos c17] at H; have c17b0 : decide (x41_2 < (t432.length : Int)) = true := decide_eq_true c17
      clear c17; by_cases c18 : 0 ≤ x41_2
      rotate_left
      · rw [if_neg c18] at H
        exact absurd H (by simp)
      rw [if_pos c18] at H; have c18b0 : decide (0 ≤ x41_2) = true := decide_eq_true c18
      clear c18; by_cases c19 : x41_2 < (t432.length : Int)
      rotate_left
      · rw [if_neg c19] at H
        exact absurd H (by simp)
      rw [if_pos c19] at H; have c19b0 : decide (x41_2 < (t432.length : Int)) = true := decide_eq_true c19
      clear c19; obtain ⟨ji20, hji20⟩ : ∃ j_ : Int, (mn (wrap64 ((wrap64 (Int.tmod a0 100)) - x9_2)) (wrap64 (1 + (wrap64 (Int.tmod a1 20))))) = j_ := ⟨_, rfl⟩; replace H : (if (wrap64 ((wrap64 (Int.tmod a0 100)) - x9_2)) > (wrap64 (1 + (wrap64 (Int.tmod a1 20)))) then (if (wrap64 (1 + (wrap64 (Int.tmod a1 20)))) = 1 then (stanzalaw14_FirstHyphens.j2 k2 (wrap64 (1 + (wrap64 (Int.tmod a1 20)))) (wrap64 (Int.tmod a0 100)) x9_2 1 4 t432 (t432.length : Int) x41_2 ((rd_T45 t432 x41_2).f0) ((rd_T45 t432 x41_2).f1) ((rd_T45 t432 x41_2).f2) ((rd_T45 t432 x41_2).f3)) else (stanzalaw14_FirstHyphens.j2 k2 (wrap64 (1 + (wrap64 (Int.tmod a1 20)))) (wrap64 (Int.tmod a0 100)) x9_2 (wrap64 ((wrap64 (1 + (wrap64 (Int.tmod a1 20)))) - 1)) 3 t432 (t432.length : Int) x41_2 ((rd_T45 t432 x41_2).f0) ((rd_T45 t432 x41_2).f1) ((rd_T45 t432 x41_2).f2) ((rd_T45 t432 x41_2).f3))) else (stanzalaw14_FirstHyphens.j2 k2 (wrap64 (1 + (wrap64 (Int.tmod a1 20)))) (wrap64 (Int.tmod a0 100)) x9_2 ji20 2 t432 (t432.length : Int) x41_2 ((rd_T45 t432 x41_2).f0) ((rd_T45 t432 x41_2).f1) ((rd_T45 t432 x41_2).f2) ((rd_T45 t432 x41_2).f3))) = some r := by first | (rw [hji20] at H; exact H) | (simp only [hji20] at H ⊢; exact H)
      have hji20_ : (if (wrap64 (1 + (wrap64 (Int.tmod a1 20)))) < (wrap64 ((wrap64 (Int.tmod a0 100)) - x9_2)) then (wrap64 (1 + (wrap64 (Int.tmod a1 20)))) else (wrap64 ((wrap64 (Int.tmod a0 100)) - x9_2))) = ji20 := hji20
      have HC21 := zC.mk H; clear H; have p435 : 0 ≤ (x41_2 : Int) := of_decide_eq_true (by first | (with_reducible assumption) | assumption)
      have q435 : x41_2 < (t432.length : Int) := of_decide_eq_true (by first | (with_reducible assumption) | assumption)
      obtain ⟨ad435, e435, hx435_0, hx435_1, hx435_2, hx435_3⟩ := at_T45 (Kd.R_reads' HO_39.out).2.2 x41_2 p435 q435; cases e435
      replace p435 := eq_true p435; replace q435 := eq_true q435; go_upto_if 53 with (first | ((with_reducible refine gate_dst (N := 11) rfl ?_); refine box_event ?hg (N := 11) ?hd (cs := #[.int .i64 0, .int .i64 0, .int .i64 0, .int .u8 0]) (t := 45) ?hr ?_; (case hd => rfl); (case hg => rfl); (case hr => first | (go_simp; done) | (go_simp; rfl)); intro gb436 hg w22 hbox hb; have n0_ := zC.mk (Kd.R_below (Kd.R_elderB (by (with_reducible repeat (first | apply Kd.R_alloc | apply Kd.R_drewN | apply Kd.R_drew)); exact HO_39.out) gb436 (Nat.le_of_eq hg.symm)) hb); have n1_ := zC.mk (below_step (by repeat (first | (with_reducible first | exact HB.out | apply zJ | apply zE | apply zI) | exact HB.out)) hb); have n2_ := zC.mk (hbox); have n3_ := zC.mk ((by rw [hg]; exact (below_size (by repeat (first | (with_reducible first | exact HB.out | apply zJ | apply zE | apply zI) | exact HB.out))) : w.heap.size ≤ gb436)); have n4_ := zC.mk ((by rw [hg]; exact (below_size (by repeat (first | (with_reducible first | exact HB.out | apply zJ | apply zE | apply zI) | exact HB.out))) : w.heap.size ≤ gb436)); clear HO_39; clear HB; have HO_39 := n0_; have HB := n1_; have BK436 := n2_; have GW436 := n3_; have GE436 := n4_; clear n0_ n1_ n2_ n3_ n4_; clear hb hbox hg; have hcz23_0 : w22.cell? ⟨gb436, 0, none⟩ = some (.int .i64 0) := (zH BK436.out 0).trans rfl; have hcz23_1 : w22.cell? ⟨gb436, 1, none⟩ = some (.int .i64 0) := (zH BK436.out 1).trans rfl; have hcz23_2 : w22.cell? ⟨gb436, 2, none⟩ = some (.int .i64 0) := (zH BK436.out 2).trans rfl; have hcz23_3 : w22.cell? ⟨gb436, 3, none⟩ = some (.int .u8 0) := (zH BK436.out 3).trans rfl; have hfz23_0 := zG BK436.out 0; have hfz23_1 := zG BK436.out 1; have hfz23_2 := zG BK436.out 2; have hfz23_3 := zG BK436.out 3) | ((with_reducible refine gate_store (t := 45) (p := 11) rfl ?_); refine store_event (t := 45) (p := 11) (v := ?vo_w24) (w1 := ((((w22.setCell ⟨gb436, 0, none⟩ (.int .i64 ((rd_T45 t432 x41_2).f0))).setCell ⟨gb436, 1, none⟩ (.int .i64 ((rd_T45 t432 x41_2).f1))).setCell ⟨gb436, 2, none⟩ (.int .i64 ((rd_T45 t432 x41_2).f2))).setCell ⟨gb436, 3, none⟩ (.int .u8 ((rd_T45 t432 x41_2).f3)))) ?hg ?ho ?hn ?hr ?_; (case ho => rfl); (case hg => rfl); (case hn => rfl); (case hr => first | (go_simp; done) | (go_simp; rfl)); intro w24 hw; have n0_ : zC (Kd.R k45 45 w24 w.heap.size (fun k_ => k_ ≠ gb436) (.slice (some ad435) t432.length co16) t432) := ⟨(by rw [hw]; exact (by (with_reducible repeat (first | apply Kd.R_alloc | apply Kd.R_drewN | apply Kd.R_drew)); exact Kd.R_mono (Kd.R_far (p := ⟨gb436, 3, none⟩) (Kd.R_far (p := ⟨gb436, 2, none⟩) (Kd.R_far (p := ⟨gb436, 1, none⟩) (Kd.R_far (p := ⟨gb436, 0, none⟩) (Kd.R_mono HO_39.out (fun k_ hk => (⟨hk, hk.2⟩ : _ ∧ k_ ≠ gb436))) (fun _ hk => hk.2) (.int .i64 ((rd_T45 t432 x41_2).f0))) (fun _ hk => hk.2) (.int .i64 ((rd_T45 t432 x41_2).f1))) (fun _ hk => hk.2) (.int .i64 ((rd_T45 t432 x41_2).f2))) (fun _ hk => hk.2) (.int .u8 ((rd_T45 t432 x41_2).f3))) (fun _ hk => hk.1.2)))⟩; have n1_ : zC (w24.heap[gb436]? = some (.cells #[.int .i64 ((rd_T45 t432 x41_2).f0), .int .i64 ((rd_T45 t432 x41_2).f1), .int .i64 ((rd_T45 t432 x41_2).f2), .int .u8 ((rd_T45 t432 x41_2).f3)] 45 (0, 0))) := ⟨(by rw [hw]; exact (by (with_reducible repeat (first | refine zA ?_ _ | refine zD ?_ | refine zB ?_ _)); refine blk_put (cs := #[.int .i64 ((rd_T45 t432 x41_2).f0), .int .i64 ((rd_T45 t432 x41_2).f1), .int .i64 ((rd_T45 t432 x41_2).f2), .int .u8 0]) ?_ 3 _ rfl; (with_reducible repeat (first | refine zA ?_ _ | refine zD ?_ | refine zB ?_ _)); refine blk_put (cs := #[.int .i64 ((rd_T45 t432 x41_2).f0), .int .i64 ((rd_T45 t432 x41_2).f1), .int .i64 0, .int .u8 0]) ?_ 2 _ rfl; (with_reducible repeat (first | refine zA ?_ _ | refine zD ?_ | refine zB ?_ _)); refine blk_put (cs := #[.int .i64 ((rd_T45 t432 x41_2).f0), .int .i64 0, .int .i64 0, .int .u8 0]) ?_ 1 _ rfl; (with_reducible repeat (first | refine zA ?_ _ | refine zD ?_ | refine zB ?_ _)); refine blk_put (cs := #[.int .i64 0, .int .i64 0, .int .i64 0, .int .u8 0]) ?_ 0 _ rfl; (with_reducible repeat (first | refine zA ?_ _ | refine zD ?_ | refine zB ?_ _)); exact BK436.out))⟩; have n2_ : zC (Below w.heap.size w w24) := ⟨(by rw [hw]; exact (by repeat (first | (with_reducible first | exact HB.out | apply zJ | apply zE | apply zI | refine zF ?_ GE436.out) | exact HB.out)))⟩; clear hw; clear HO_39; clear BK436; clear HB; have HO_39 := n0_; have BK436 := n1_; have HB := n2_; clear n0_ n1_ n2_))
      (try simp only [Act.put, sA_, sB_, sC_])
      go_cut [13, 14] (fun v13 v14 wc => ∃ (kq : Nat) (x13_20 : Int) (x14_20 : Int), v13 = .int .i64 x13_20 ∧ v14 = .int .u8 x14_20 ∧ zC (stanzalaw14_FirstHyphens.j2 kq (wrap64 (1 + (wrap64 (Int.tmod a1 20)))) (wrap64 (Int.tmod a0 100)) x9_2 x13_20 x14_20 t432 (t432.length : Int) x41_2 ((rd_T45 t432 x41_2).f0) ((rd_T45 t432 x41_2).f1) ((rd_T45 t432 x41_2).f2) ((rd_T45 t432 x41_2).f3) = some r) ∧ zC (kq ≤ k2) ∧ zC (Kd.R k45 45 wc w.heap.size (fun k_ => k_ ≠ gb436) (.slice (some ad435) t432.length co16) t432) ∧ zC (wc.heap[gb436]? = some (.cells #[.int .i64 ((rd_T45 t432 x41_2).f0), .int .i64 ((rd_T45 t432 x41_2).f1), .int .i64 ((rd_T45 t432 x41_2).f2), .int .u8 ((rd_T45 t432 x41_2).f3)] 45 (0, 0))) ∧ zC (Below w.heap.size w wc))
      case first =>
        have H := HC21.out; clear HC21; by_cases c25 : (wrap64 ((wrap64 (Int.tmod a0 100)) - x9_2)) > (wrap64 (1 + (wrap64 (Int.tmod a1 20))))
        rotate_left
        · rw [if_neg c25] at H
          have c25b0 : decide ((wrap64 (1 + (wrap64 (Int.tmod a1 20)))) < (wrap64 ((wrap64 (Int.tmod a0 100)) - x9_2))) = false := decide_eq_false c25
          clear c25; (first | rw [c25b0] | (simp only [i64_w, i32_w]; rw [c25b0]) | skip)
          have H' := zC.mk H
          clear H; go_wp2
          go_meet
          case rel => exact ⟨_, (ji20), (2), (by first | rfl | (simp; done) | (simp only [← hji20] <;> (first | rfl | simp)) | (simp [*]; done)), (by first | rfl | (simp; done) | (simp [*]; done)), H', ⟨by have := HK1.out; have := HK2.out; first | omega | exact Nat.le_refl _⟩, ⟨by (with_reducible repeat (first | apply Kd.R_alloc | apply Kd.R_drewN | apply Kd.R_drew)); exact HO_39.out⟩, ⟨by (with_reducible repeat (first | refine zA ?_ _ | refine zD ?_ | refine zB ?_ _)); exact BK436.out⟩, ⟨by repeat (first | (with_reducible first | exact HB.out | apply zJ | apply zE | apply zI | refine zF ?_ GE436.out) | exact HB.out)⟩⟩
        rw [if_pos c25] at H; have c25b0 : decide ((wrap64 (1 + (wrap64 (Int.tmod a1 20)))) < (wrap64 ((wrap64 (Int.tmod a0 100)) - x9_2))) = true := decide_eq_true c25
        clear c25; (first | rw [c25b0] | (simp only [i64_w, i32_w]; rw [c25b0]) | skip)
        by_cases c26 : (wrap64 (1 + (wrap64 (Int.tmod a1 20)))) = 1
        · rw [if_pos c26] at H
          have c26b0 : ((wrap64 (1 + (wrap64 (Int.tmod a1 20)))) == 1) = true := beq_iff_eq.mpr c26
          have c26b1 : ((wrap64 (1 + (wrap64 (Int.tmod a1 20)))) != 1) = false := bne_eq_false_iff_eq.mpr c26
          clear c26; have H' := zC.mk H
          clear H; go_wp2
          go_meet
          case rel => exact ⟨_, (1), (4), (by first | rfl | (simp; done) | (simp [*]; done)), (by first | rfl | (simp; done) | (simp [*]; done)), H', ⟨by have := HK1.out; have := HK2.out; first | omega | exact Nat.le_refl _⟩, ⟨by (with_reducible repeat (first | apply Kd.R_alloc | apply Kd.R_drewN | apply Kd.R_drew)); exact HO_39.out⟩, ⟨by (with_reducible repeat (first | refine zA ?_ _ | refine zD ?_ | refine zB ?_ _)); exact BK436.out⟩, ⟨by repeat (first | (with_reducible first | exact HB.out | apply zJ | apply zE | apply zI | refine zF ?_ GE436.out) | exact HB.out)⟩⟩
        rw [if_neg c26] at H; have c26b0 : ((wrap64 (1 + (wrap64 (Int.tmod a1 20)))) == 1) = false := beq_eq_false_iff_ne.mpr c26
        have c26b1 : ((wrap64 (1 + (wrap64 (Int.tmod a1 20)))) != 1) = true := bne_iff_ne.mpr c26
        have H' := zC.mk H
        clear H; go_wp2
        go_meet
        case rel => exact ⟨_, (wrap64 ((wrap64 (1 + (wrap64 (Int.tmod a1 20)))) - 1)), (3), (by first | rfl | (simp; done) | (simp [*]; done)), (by first | rfl | (simp; done) | (simp [*]; done)), H', ⟨by have := HK1.out; have := HK2.out; first | omega | exact Nat.le_refl _⟩, ⟨by (with_reducible repeat (first | apply Kd.R_alloc | apply Kd.R_drewN | apply Kd.R_drew)); exact HO_39.out⟩, ⟨by (with_reducible repeat (first | refine zA ?_ _ | refine zD ?_ | refine zB ?_ _)); exact BK436.out⟩, ⟨by repeat (first | (with_reducible first | exact HB.out | apply zJ | apply zE | apply zI | refine zF ?_ GE436.out) | exact HB.out)⟩⟩
      clear HC21; try clear c1
      try clear c2
      try clear p2
      try clear c4
      try clear p4
      try clear q4
      try clear hx4
      try clear c6
      try clear c6b0
      try clear p6
      try clear c7
      try clear c12
      try clear c13
      try clear c17
      try clear c17b0
      try clear c18
      try clear c18b0
      try clear c19
      try clear c19b0
      try clear c25
      try clear c25b0
      try clear c26
      try clear c26b0
      try clear c26b1
      try clear hcz23_0
      try clear hcz23_1
      try clear hcz23_2
      try clear hcz23_3
      try clear hfz23_0
      try clear hfz23_1
      try clear hfz23_2
      try clear hfz23_3
      try clear hx435_0
      try clear hx435_1
      try clear hx435_2
      try clear hx435_3
      try clear p2
      try clear p435
      try clear p6
      try clear q435
      obtain ⟨kq, x13_20, x14_20, rfl, rfl, HA, HJ20, HO_39, BK436, HB⟩ := hcut; cases kq with
      | zero => exact absurd HA.out (by simp [stanzalaw14_FirstHyphens.j2])
      | succ kj20 =>
        have H := HA.out; clear HA; simp only [stanzalaw14_FirstHyphens.j2] at H; by_cases c27 : x14_20 = 3
        rotate_left
        · rw [if_neg c27] at H
          have c27b0 : (x14_20 == 3) = false := beq_eq_false_iff_ne.mpr c27
          have c27b1 : (x14_20 != 3) = true := bne_iff_ne.mpr c27
          by_cases c30 : (!(((rd_T45 t432 x41_2).f0) == x9_2) || (!(((rd_T45 t432 x41_2).f1) == (wrap64 (x9_2 + x13_20))) || (!(((rd_T45 t432 x41_2).f2) == x13_20) || (!(((rd_T45 t432 x41_2).f3) == x14_20))))) = true
          · rw [if_pos c30] at H
            have c30b0 : (!(((rd_T45 t432 x41_2).f0) == x9_2) || (!(((rd_T45 t432 x41_2).f1) == (wrap64 (x9_2 + x13_20))) || (!(((rd_T45 t432 x41_2).f2) == x13_20) || (!(((rd_T45 t432 x41_2).f3) == x14_20))))) = true := c30
            clear c30; exact absurd ((Option.some.inj H).trans hrt_.out) (by decide)
          rw [if_neg c30] at H; have c30b0 : (!(((rd_T45 t432 x41_2).f0) == x9_2) || (!(((rd_T45 t432 x41_2).f1) == (wrap64 (x9_2 + x13_20))) || (!(((rd_T45 t432 x41_2).f2) == x13_20) || (!(((rd_T45 t432 x41_2).f3) == x14_20))))) = false := by simpa using c30
          clear c30; have H' := zC.mk H
          clear H; have hcz31_0 : wc.cell? ⟨gb436, 0, none⟩ = some (.int .i64 ((rd_T45 t432 x41_2).f0)) := (zH BK436.out 0).trans rfl
          have hcz31_1 : wc.cell? ⟨gb436, 1, none⟩ = some (.int .i64 ((rd_T45 t432 x41_2).f1)) := (zH BK436.out 1).trans rfl
          have hcz31_2 : wc.cell? ⟨gb436, 2, none⟩ = some (.int .i64 ((rd_T45 t432 x41_2).f2)) := (zH BK436.out 2).trans rfl
          have hcz31_3 : wc.cell? ⟨gb436, 3, none⟩ = some (.int .u8 ((rd_T45 t432 x41_2).f3)) := (zH BK436.out 3).trans rfl
          have hfz31_0 := zG BK436.out 0; have hfz31_1 := zG BK436.out 1; have hfz31_2 := zG BK436.out 2; have hfz31_3 := zG BK436.out 3; go_wp2
          go_roundg kj20
          case measure => have := HK1.out; have := HK2.out; have := HJ20.out; omega
          case rel => exact ⟨(((rd_T45 t432 x41_2).f1)), (wrap64 (x41_2 + 1)), (by first | rfl | (simp; done) | (simp [*]; done)), (by first | rfl | (simp; done) | (simp [*]; done)), H', ⟨by have := HK1.out; have := HK2.out; have := HJ20.out; omega⟩, ⟨by (with_reducible repeat (first | apply Kd.R_alloc | apply Kd.R_drewN | apply Kd.R_drew)); exact Kd.R_mono HO_39.out (fun _ hk => trivial)⟩, ⟨by repeat (first | (with_reducible first | exact HB.out | apply zJ | apply zE | apply zI | refine zF ?_ GE436.out) | exact HB.out)⟩⟩
        rw [if_pos c27] at H; have c27b0 : (x14_20 == 3) = true := beq_iff_eq.mpr c27
        have c27b1 : (x14_20 != 3) = false := bne_eq_false_iff_eq.mpr c27
        clear c27; by_cases c28 : (!(((rd_T45 t432 x41_2).f0) == x9_2) || (!(((rd_T45 t432 x41_2).f1) == (wrap64 (x9_2 + x13_20))) || (!(((rd_T45 t432 x41_2).f2) == (wrap64 (x13_20 + 1))) || (!(((rd_T45 t432 x41_2).f3) == x14_20))))) = true
        · rw [if_pos c28] at H
          have c28b0 : (!(((rd_T45 t432 x41_2).f0) == x9_2) || (!(((rd_T45 t432 x41_2).f1) == (wrap64 (x9_2 + x13_20))) || (!(((rd_T45 t432 x41_2).f2) == (wrap64 (x13_20 + 1))) || (!(((rd_T45 t432 x41_2).f3) == x14_20))))) = true := c28
          clear c28; exact absurd ((Option.some.inj H).trans hrt_.out) (by decide)
        rw [if_neg c28] at H; have c28b0 : (!(((rd_T45 t432 x41_2).f0) == x9_2) || (!(((rd_T45 t432 x41_2).f1) == (wrap64 (x9_2 + x13_20))) || (!(((rd_T45 t432 x41_2).f2) == (wrap64 (x13_20 + 1))) || (!(((rd_T45 t432 x41_2).f3) == x14_20))))) = false := by simpa using c28
        clear c28; have H' := zC.mk H
        clear H; have hcz29_0 : wc.cell? ⟨gb436, 0, none⟩ = some (.int .i64 ((rd_T45 t432 x41_2).f0)) := (zH BK436.out 0).trans rfl
        have hcz29_1 : wc.cell? ⟨gb436, 1, none⟩ = some (.int .i64 ((rd_T45 t432 x41_2).f1)) := (zH BK436.out 1).trans rfl
        have hcz29_2 : wc.cell? ⟨gb436, 2, none⟩ = some (.int .i64 ((rd_T45 t432 x41_2).f2)) := (zH BK436.out 2).trans rfl
        have hcz29_3 : wc.cell? ⟨gb436, 3, none⟩ = some (.int .u8 ((rd_T45 t432 x41_2).f3)) := (zH BK436.out 3).trans rfl
        have hfz29_0 := zG BK436.out 0; have hfz29_1 := zG BK436.out 1; have hfz29_2 := zG BK436.out 2; have hfz29_3 := zG BK436.out 3; go_wp2
        go_roundg kj20
        case measure => have := HK1.out; have := HK2.out; have := HJ20.out; omega
        case rel => exact ⟨(((rd_T45 t432 x41_2).f1)), (wrap64 (x41_2 + 1)), (by first | rfl | (simp; done) | (simp [*]; done)), (by first | rfl | (simp; done) | (simp [*]; done)), H', ⟨by have := HK1.out; have := HK2.out; have := HJ20.out; omega⟩, ⟨by (with_reducible repeat (first | apply Kd.R_alloc | apply Kd.R_drewN | apply Kd.R_drew)); exact Kd.R_mono HO_39.out (fun _ hk => trivial)⟩, ⟨by repeat (first | (with_reducible first | exact HB.out | apply zJ | apply zE | apply zI | refine zF ?_ GE436.out) | exact HB.out)⟩⟩
def stanzalaw14_FirstHyphens.Pure : Prop := ∀ (a0 : Int) (a1 : Int), (Lit.int .u8 a0).wf = true → (Lit.int .u8 a1).wf = true → ∃ k, stanzalaw14_FirstHyphens.f k a0 a1 = some true
end Go.Proofs.Ytfeidhmkmbgnoaa.F
end
