/- Printed by a program: Lean functions that answer as the Go functions do, and the proofs of it. -/
import Derived.Test.YtigajcipjklknaaXItemsChecks0
import Derived.Test.YtigajcipjklknaaVItemsChecks0
import Derived.Test.YtigajcipjklknaaVItemsChecks1
section
namespace Go.Proofs.Ytigajcipjklknaa.F
open Go.RowKit Go.Proofs.YtigajcipjklknaaW.PrintWords Go.Proofs.YtigajcipjklknaaW.PrintLast Go.Proofs.YtigajcipjklknaaW.PrintMore
attribute [local go_sem] max2_int min2_int max_two min_two max_three min_three max_four min_four   -- for this text's walks alone
set_option linter.unusedVariables false
set_option linter.unusedSimpArgs false
mutual
def h3_Para.j1 : Nat → List (S90) → List (S48) → Option ((List (S48)) × List Int)
 | 0, _, _ => none
 | k + 1, x0, x226000 => h3_Para.l1 k x0 0 x226000 ([] : List Int)
def h3_Para.l1 : Nat → List (S90) → Int → List (S48) → List Int → Option ((List (S48)) × List Int)
 | 0, _, _, _, _ => none
 | k + 1, x0, x8, x226000, x226001 => if x8 < (x226000.length : Int) then (if x8 > 0 then (if 0 ≤ (wrap64 (x8 - 1)) then (if (wrap64 (x8 - 1)) < (x0.length : Int) then (if x226001.length < 140737488355328 then (h3_Para.l1 k x0 (wrap64 (x8 + 1)) x226000 (x226001 ++ [Int.tmod ((rd_T90 x0 (wrap64 (x8 - 1))).f3) 4])) else (none)) else (none)) else (none)) else (if x226001.length < 140737488355328 then (h3_Para.l1 k x0 (wrap64 (x8 + 1)) x226000 (x226001 ++ [0])) else (none))) else (if x226001.length < 140737488355328 then (some (x226000, (x226001 ++ [2]))) else (none))
def h3_Para.l0 : Nat → List (S90) → Int → Int → List (S48) → Option ((List (S48)) × List Int)
 | 0, _, _, _, _ => none
 | k + 1, x0, x4, x5, x226000 => if x5 < (x0.length : Int) then (if x4 < 4000 then (if 0 ≤ x5 then (if x226000.length < 4398046511104 then (h3_Para.l0 k x0 (wrap64 (x4 + (wrap64 (1 + (wrap64 (Int.tmod ((rd_T90 x0 x5).f2) 4)))))) (wrap64 (x5 + 1)) (x226000 ++ [(⟨x4, wrap64 (1 + (wrap64 (Int.tmod ((rd_T90 x0 x5).f2) 4))), wrap64 (Int.tmod ((rd_T90 x0 x5).f0) 3), Int.tmod ((rd_T90 x0 x5).f1) 3⟩ : S48)])) else (none)) else (none)) else (h3_Para.j1 k x0 x226000)) else (h3_Para.j1 k x0 x226000)
end
def h3_Para.f (k : Nat) (l0 : List (S90)) : Option ((List (S48)) × List Int) := h3_Para.l0 k l0 0 0 ([] : List (S48))
theorem h3_Para.mono_l : ∀ k, (∀ y0 y1, LeO (h3_Para.j1 k y0 y1) (h3_Para.j1 (k + 1) y0 y1)) ∧ (∀ y0 y1 y2 y3, LeO (h3_Para.l1 k y0 y1 y2 y3) (h3_Para.l1 (k + 1) y0 y1 y2 y3)) ∧ (∀ y0 y1 y2 y3, LeO (h3_Para.l0 k y0 y1 y2 y3) (h3_Para.l0 (k + 1) y0 y1 y2 y3))
 | 0 => ⟨fun _ _ r h => by simp [h3_Para.j1] at h, fun _ _ _ _ r h => by simp [h3_Para.l1] at h, fun _ _ _ _ r h => by simp [h3_Para.l0] at h⟩
 | k + 1 => by
  obtain ⟨ih0, ih1, ih2⟩ := h3_Para.mono_l k; refine ⟨?_, ?_, ?_⟩
  ·intro y0 y1
   unfold h3_Para.j1
   repeat' (with_reducible first | exact ih0 _ _ | exact ih1 _ _ _ _ | exact ih2 _ _ _ _ | exact LeO.refl _ | exact LeO.none _ | refine LeO.ite ?_ ?_ | refine LeO.bind ?_ (fun _ => ?_))
  ·intro y0 y1 y2 y3
   unfold h3_Para.l1
   repeat' (with_reducible first | exact ih0 _ _ | exact ih1 _ _ _ _ | exact ih2 _ _ _ _ | exact LeO.refl _ | exact LeO.none _ | refine LeO.ite ?_ ?_ | refine LeO.bind ?_ (fun _ => ?_))
  ·intro y0 y1 y2 y3
   unfold h3_Para.l0
   repeat' (with_reducible first | exact ih0 _ _ | exact ih1 _ _ _ _ | exact ih2 _ _ _ _ | exact LeO.refl _ | exact LeO.none _ | refine LeO.ite ?_ ?_ | refine LeO.bind ?_ (fun _ => ?_))
theorem h3_Para.mono : ∀ a0 k, LeO (h3_Para.f k a0) (h3_Para.f (k + 1) a0) := by
 intro a0 k
 obtain ⟨ih0, ih1, ih2⟩ := h3_Para.mono_l k; unfold h3_Para.f
 repeat' (with_reducible first | exact ih0 _ _ | exact ih1 _ _ _ _ | exact ih2 _ _ _ _ | exact LeO.refl _ | exact LeO.none _ | refine LeO.ite ?_ ?_ | refine LeO.bind ?_ (fun _ => ?_))
set_option maxHeartbeats 8000000 in
set_option maxRecDepth 100000 in
theorem h3_Para.calls (k : Nat) (A0 : Option Addr) (c0 : Nat) (l0 : List (S90)) (r1 : List (S48)) (r2 : List Int) (w : World) (hr0 : Kd.C k90 w A0 l0.length l0) (hc0 : l0.length ≤ c0) (h : h3_Para.f k l0 = some (r1, r2)) :
  Calls Try.prog 27 #[.slice A0 l0.length c0] w fun e w' => ∃ v0_ v1_ : Value, e = .returned (.agg #[v0_, v1_]) ∧ Kd.R k48 48 w' w.heap.size (fun _ => True) v0_ r1 ∧ Kd.R (Kd.int .u8) 53 w' w.heap.size (fun _ => True) v1_ r2 ∧ Below w.heap.size w w' := by
 have hu60 := Try.underlying60; have hu90 := Try.underlying90; have hu48 := Try.underlying48; have HR0 := zA.mk hr0; have HC0 := zA.mk hc0; clear hr0 hc0; have HB := zA.mk (Below.refl w.heap.size w); have H : (h3_Para.l0 k l0 0 0 ([] : List (S48))) = some (r1, r2) := h
 clear h; have HC2 := zA.mk H; clear H; go_enter Try.func27, Try.ntmps27
 go_upto_block 0 with (first | ((with_reducible refine gate_dst (N := 2) rfl ?_); refine box_event ?hg (N := 2) ?hd (cs := #[.slice none 0 0, .slice none 0 0]) (t := 60) ?hr ?_; (case hd => rfl); (case hg => rfl); (case hr => first | (go_simp; done) | (go_simp; rfl)); intro gb224 hg w3 hbox hb; have BK224 := zA.mk (hbox); have GW224 := zA.mk ((by rw [hg]; exact (below_size (aL HB)) : w.heap.size ≤ gb224)); replace HB := zA.mk (below_step (aL HB) hb); have GE224 := GW224; clear hb hbox hg) | ((with_reducible refine gate_dst (N := 3) rfl ?_); refine box_event ?hg (N := 3) ?hd (cs := #[.slice none 0 0, .slice none 0 0]) (t := 60) ?hr ?_; (case hd => rfl); (case hg => rfl); (case hr => first | (go_simp; done) | (go_simp; rfl)); intro gb225 hg w4 hbox hb; have BK225 := zA.mk (hbox); have GW225 := zA.mk ((by rw [hg]; exact (below_size (aL HB)) : w.heap.size ≤ gb225)); replace HB := zA.mk (below_step (aL HB) hb); have GE225 := GW225; have NB224_225 := zA.mk ((by rw [hg]; exact Nat.ne_of_lt (blk_lt (aB BK224)) : gb224 ≠ gb225)); have NB225_224 := zA.mk ((by rw [hg]; exact Nat.ne_of_gt (blk_lt (g := gb224) (o := .cells #[.slice none 0 0, .slice none 0 0] 60 (0, 0)) (aB BK224)) : gb225 ≠ gb224)); replace BK224 := zA.mk (blk_below (aB BK224) hb); clear hb hbox hg; have hnb5 := NB225_224.out; have hnc5 := NB224_225.out; obtain ⟨hcz6_0, hcz6_1, hfz6_0, hfz6_1⟩ := aC2 BK225) | ((with_reducible refine gate_store (t := 60) (p := 3) rfl ?_); refine store_event (t := 60) (p := 3) (v := ?vo_w7) (w1 := ((w4.setCell ⟨gb225, 0, none⟩ (.slice none 0 0)).setCell ⟨gb225, 1, none⟩ (.slice none 0 0))) ?hg ?ho ?hn ?hr ?_; (case ho => rfl); (case hg => rfl); (case hn => rfl); (case hr => first | (go_simp; done) | (go_simp; rfl)); intro w7 hw; have n0_ : zA (w7.heap[gb224]? = some (.cells #[.slice none 0 0, .slice none 0 0] 60 (0, 0))) := ⟨(by rw [hw]; exact (aB BK224))⟩; have n1_ : zA (w7.heap[gb225]? = some (.cells #[.slice none 0 0, .slice none 0 0] 60 (0, 0))) := ⟨(by rw [hw]; exact (by (with_reducible repeat (first | refine zD ?_ _ | refine zC ?_ | refine zB ?_ _)); refine blk_put (cs := #[.slice none 0 0, .slice none 0 0]) ?_ 1 _ rfl; (with_reducible repeat (first | refine zD ?_ _ | refine zC ?_ | refine zB ?_ _)); refine blk_put (cs := #[.slice none 0 0, .slice none 0 0]) ?_ 0 _ rfl; (with_reducible repeat (first | refine zD ?_ _ | refine zC ?_ | refine zB ?_ _)); exact BK225.out))⟩; have n2_ : zA (Below w.heap.size w w7) := ⟨(by rw [hw]; exact (aL HB))⟩; clear hw; clear BK224; clear BK225; clear HB; have BK224 := n0_; have BK225 := n1_; have HB := n2_; clear n0_ n1_ n2_))
 (try simp only [Act.put, sA_, sB_, sC_])
 go_cut [] (fun wc => ∃ (kq : Nat) (x226000_1 : List (S48)) (u226000 : Value), zA (h3_Para.j1 kq l0 x226000_1 = some (r1, r2)) ∧ zA (kq ≤ k) ∧ zA (Kd.R k48 48 wc w.heap.size (fun _ => True) u226000 x226000_1) ∧ zA (wc.heap[gb224]? = some (.cells #[(.slice none 0 0), (.slice none 0 0)] 60 (0, 0))) ∧ zA (wc.heap[gb225]? = some (.cells #[u226000, (.slice none 0 0)] 60 (0, 0))) ∧ zA (Below w.heap.size w wc))
 case first =>
  have H := HC2.out; clear HC2; have H' := zA.mk H
  clear H; go_wp2
  go_loopg [4, 5] k (fun kq v4 v5 w' => ∃ (x4_1 : Int) (x5_1 : Int) (x226000_1 : List (S48)) (u226000 : Value), v4 = .int .i64 x4_1 ∧ v5 = .int .i64 x5_1 ∧ zA (h3_Para.l0 kq l0 x4_1 x5_1 x226000_1 = some (r1, r2)) ∧ zA (kq ≤ k) ∧ zA (Kd.R k48 48 w' w.heap.size (fun _ => True) u226000 x226000_1) ∧ zA (w'.heap[gb224]? = some (.cells #[(.slice none 0 0), (.slice none 0 0)] 60 (0, 0))) ∧ zA (w'.heap[gb225]? = some (.cells #[u226000, (.slice none 0 0)] 60 (0, 0))) ∧ zA (Below w.heap.size w w'))
  case atStart => exact ⟨(0), (0), (([] : List (S48))), (.slice none 0 0), aZ, aZ, H', ⟨Nat.le_refl _⟩, ⟨by first | exact Kd.R_nil _ _ _ _ _ | exact Kd.N_nil _ _ _ _ _ | exact Kd.V_nil _ _ _ _ _ | exact Kd.Q_nil _ _ _ _ _ | exact Kd.S_nil _ _ _ _ _⟩, ⟨aB BK224⟩, ⟨aB BK225⟩, ⟨aL HB⟩⟩
  clear H'; obtain ⟨x4_1, x5_1, x226000_1, u226000, rfl, rfl, HA, HK1, HO_226000, BK224, BK225, HB⟩ := hrel; cases gk with
  | zero => exact absurd HA.out (by simp [h3_Para.l0])
  | succ k1 =>
   have H := HA.out; clear HA; simp only [h3_Para.l0] at H; by_cases c8 : x5_1 < (l0.length : Int)
   rotate_left
   ·rw [if_neg c8] at H
    have c8b0 : decide (x5_1 < (l0.length : Int)) = false := decide_eq_false c8
    clear c8; (first | rw [c8b0] | (simp only [i64_w, i32_w]; rw [c8b0]) | skip)
    have H' := zA.mk H
    clear H; go_wp2
    go_meet
    case rel => exact ⟨_, (x226000_1), (u226000), H', ⟨by have := HK1.out; first | omega | exact Nat.le_refl _⟩, ⟨aR HO_226000⟩, ⟨aB BK224⟩, ⟨aB BK225⟩, ⟨aL HB⟩⟩
   rw [if_pos c8] at H; have c8b0 : decide (x5_1 < (l0.length : Int)) = true := decide_eq_true c8
   clear c8; (first | rw [c8b0] | (simp only [i64_w, i32_w]; rw [c8b0]) | skip)
   by_cases c9 : x4_1 < 4000
   rotate_left
   ·rw [if_neg c9] at H
    have c9b0 : decide (x4_1 < 4000) = false := decide_eq_false c9
    clear c9; have H' := zA.mk H
    clear H; go_wp2
    go_meet
    case rel => exact ⟨_, (x226000_1), (u226000), H', ⟨by have := HK1.out; first | omega | exact Nat.le_refl _⟩, ⟨aR HO_226000⟩, ⟨aB BK224⟩, ⟨aB BK225⟩, ⟨aL HB⟩⟩
   rw [if_pos c9] at H; have c9b0 : decide (x4_1 < 4000) = true := decide_eq_true c9
   clear c9; by_cases c10 : 0 ≤ x5_1
   rotate_left
   ·rw [if_neg c10] at H
    exact absurd H (by simp)
   rw [if_pos c10] at H; have c10b0 : decide (0 ≤ x5_1) = true := decide_eq_true c10
   clear c10; by_cases c11 : x226000_1.length < 4398046511104
   rotate_left
   ·rw [if_neg c11] at H
    exact absurd H (by simp)
   rw [if_pos c11] at H; have LMc11 := zA.mk c11; clear c11; obtain ⟨y229, hy229⟩ : ∃ y_ : List (S48), y_ = (x226000_1 ++ [(⟨x4_1, wrap64 (1 + (wrap64 (Int.tmod ((rd_T90 l0 x5_1).f2) 4))), wrap64 (Int.tmod ((rd_T90 l0 x5_1).f0) 3), Int.tmod ((rd_T90 l0 x5_1).f1) 3⟩ : S48)]) := ⟨_, rfl⟩; replace H : (h3_Para.l0 k1 l0 (wrap64 (x4_1 + (wrap64 (1 + (wrap64 (Int.tmod ((rd_T90 l0 x5_1).f2) 4)))))) (wrap64 (x5_1 + 1)) y229) = some (r1, r2) := by first | (rw [hy229]; with_reducible exact H) | (have H2_ := (Option.bind_some _ _).symm.trans H; rw [hy229]; with_reducible exact H2_) | (have H2_ := (Option.bind_some _ _).symm.trans H; with_reducible exact H2_) | with_reducible exact H | (rw [hy229]; exact H) | exact H
   have Ny229 := zA.mk hy229; clear hy229; have H' := zA.mk H
   clear H; have p226 : 0 ≤ (x5_1 : Int) := aD
   have q226 : x5_1 < (l0.length : Int) := aD
   obtain ⟨ad226, e226, hx226_0, hx226_1, hx226_2, hx226_3⟩ := at_T90 HR0.out x5_1 p226 q226; cases e226
   replace hx226_0 := (HB.out.cell (World.block_lt_of_cell? w _ hx226_0)).trans hx226_0; replace hx226_1 := (HB.out.cell (World.block_lt_of_cell? w _ hx226_1)).trans hx226_1; replace hx226_2 := (HB.out.cell (World.block_lt_of_cell? w _ hx226_2)).trans hx226_2; replace hx226_3 := (HB.out.cell (World.block_lt_of_cell? w _ hx226_3)).trans hx226_3; replace p226 := eq_true p226; replace q226 := eq_true q226; go_wp2_with (first | ((with_reducible refine gate_dst (N := 6) rfl ?_); refine box_event ?hg (N := 6) ?hd (cs := #[.int .u8 0, .int .u8 0, .int .u8 0, .int .u8 0]) (t := 90) ?hr ?_; (case hd => rfl); (case hg => rfl); (case hr => first | (go_simp; done) | (go_simp; rfl)); intro gb227 hg w12 hbox hb; replace HO_226000 := zA.mk (Kd.zN (aR HO_226000) hb); have BK227 := zA.mk (hbox); have GW227 := zA.mk ((by rw [hg]; exact (below_size (aL HB)) : w.heap.size ≤ gb227)); replace HB := zA.mk (below_step (aL HB) hb); have GE227 := GW227; have NB224_227 := zA.mk ((by rw [hg]; exact Nat.ne_of_lt (blk_lt (aB BK224)) : gb224 ≠ gb227)); have NB227_224 := zA.mk ((by rw [hg]; exact Nat.ne_of_gt (blk_lt (g := gb224) (o := .cells #[.slice none 0 0, .slice none 0 0] 60 (0, 0)) (aB BK224)) : gb227 ≠ gb224)); replace BK224 := zA.mk (blk_below (aB BK224) hb); have NB225_227 := zA.mk ((by rw [hg]; exact Nat.ne_of_lt (blk_lt (aB BK225)) : gb225 ≠ gb227)); have NB227_225 := zA.mk ((by rw [hg]; exact Nat.ne_of_gt (blk_lt (g := gb225) (o := .cells #[u226000, .slice none 0 0] 60 (0, 0)) (aB BK225)) : gb227 ≠ gb225)); replace BK225 := zA.mk (blk_below (aB BK225) hb); clear hb hbox hg; have hnb13 := NB227_224.out; have hnc13 := NB224_227.out; have hnb14 := NB227_225.out; have hnc14 := NB225_227.out; obtain ⟨hcz15_0, hcz15_1, hcz15_2, hcz15_3, hfz15_0, hfz15_1, hfz15_2, hfz15_3⟩ := aC4 BK227) | ((with_reducible refine gate_store (t := 90) (p := 6) rfl ?_); refine store_event (t := 90) (p := 6) (v := ?vo_w16) (w1 := ((((w12.setCell ⟨gb227, 0, none⟩ (.int .u8 ((rd_T90 l0 x5_1).f0))).setCell ⟨gb227, 1, none⟩ (.int .u8 ((rd_T90 l0 x5_1).f1))).setCell ⟨gb227, 2, none⟩ (.int .u8 ((rd_T90 l0 x5_1).f2))).setCell ⟨gb227, 3, none⟩ (.int .u8 ((rd_T90 l0 x5_1).f3)))) ?hg ?ho ?hn ?hr ?_; (case ho => rfl); (case hg => rfl); (case hn => rfl); (case hr => first | (go_simp; done) | (go_simp; rfl)); intro w16 hw; have n0_ : zA (Kd.R k48 48 w16 w.heap.size (fun _ => True) u226000 x226000_1) := ⟨(by rw [hw]; exact (by (with_reducible repeat (first | apply Kd.zF | apply Kd.zG | apply Kd.zH)); exact Kd.zR (Kd.zO (p := ⟨gb227, 3, none⟩) (Kd.zO (p := ⟨gb227, 2, none⟩) (Kd.zO (p := ⟨gb227, 1, none⟩) (Kd.zO (p := ⟨gb227, 0, none⟩) (Kd.zS HO_226000.out BK227.out (by decide)) (fun _ hk => hk.2) (.int .u8 ((rd_T90 l0 x5_1).f0))) (fun _ hk => hk.2) (.int .u8 ((rd_T90 l0 x5_1).f1))) (fun _ hk => hk.2) (.int .u8 ((rd_T90 l0 x5_1).f2))) (fun _ hk => hk.2) (.int .u8 ((rd_T90 l0 x5_1).f3))) (fun _ hk => trivial)))⟩; have n1_ : zA (w16.heap[gb224]? = some (.cells #[.slice none 0 0, .slice none 0 0] 60 (0, 0))) := ⟨(by rw [hw]; exact (aB BK224))⟩; have n2_ : zA (w16.heap[gb225]? = some (.cells #[u226000, .slice none 0 0] 60 (0, 0))) := ⟨(by rw [hw]; exact (aB BK225))⟩; have n3_ : zA (w16.heap[gb227]? = some (.cells #[.int .u8 ((rd_T90 l0 x5_1).f0), .int .u8 ((rd_T90 l0 x5_1).f1), .int .u8 ((rd_T90 l0 x5_1).f2), .int .u8 ((rd_T90 l0 x5_1).f3)] 90 (0, 0))) := ⟨(by rw [hw]; exact (by (with_reducible repeat (first | refine zD ?_ _ | refine zC ?_ | refine zB ?_ _)); refine blk_put (cs := #[.int .u8 ((rd_T90 l0 x5_1).f0), .int .u8 ((rd_T90 l0 x5_1).f1), .int .u8 ((rd_T90 l0 x5_1).f2), .int .u8 0]) ?_ 3 _ rfl; (with_reducible repeat (first | refine zD ?_ _ | refine zC ?_ | refine zB ?_ _)); refine blk_put (cs := #[.int .u8 ((rd_T90 l0 x5_1).f0), .int .u8 ((rd_T90 l0 x5_1).f1), .int .u8 0, .int .u8 0]) ?_ 2 _ rfl; (with_reducible repeat (first | refine zD ?_ _ | refine zC ?_ | refine zB ?_ _)); refine blk_put (cs := #[.int .u8 ((rd_T90 l0 x5_1).f0), .int .u8 0, .int .u8 0, .int .u8 0]) ?_ 1 _ rfl; (with_reducible repeat (first | refine zD ?_ _ | refine zC ?_ | refine zB ?_ _)); refine blk_put (cs := #[.int .u8 0, .int .u8 0, .int .u8 0, .int .u8 0]) ?_ 0 _ rfl; (with_reducible repeat (first | refine zD ?_ _ | refine zC ?_ | refine zB ?_ _)); exact BK227.out))⟩; have n4_ : zA (Below w.heap.size w w16) := ⟨(by rw [hw]; exact (aL HB))⟩; clear hw; clear HO_226000; clear BK224; clear BK225; clear BK227; clear HB; have HO_226000 := n0_; have BK224 := n1_; have BK225 := n2_; have BK227 := n3_; have HB := n4_; clear n0_ n1_ n2_ n3_ n4_; obtain ⟨hcz17_0, hcz17_1, hcz17_2, hcz17_3, hfz17_0, hfz17_1, hfz17_2, hfz17_3⟩ := aC4 BK227) | ((with_reducible refine gate_dst (N := 7) rfl ?_); refine box_event ?hg (N := 7) ?hd (cs := #[.int .i64 0, .int .i64 0, .int .i64 0, .int .u8 0]) (t := 48) ?hr ?_; (case hd => rfl); (case hg => rfl); (case hr => first | (go_simp; done) | (go_simp; rfl)); intro gb228 hg w18 hbox hb; replace HO_226000 := zA.mk (Kd.zN (Kd.R_elderB (aR HO_226000) gb228 (Nat.le_of_eq hg.symm)) hb); have BK228 := zA.mk (hbox); have GW228 := zA.mk ((by rw [hg]; exact (below_size (aL HB)) : w.heap.size ≤ gb228)); replace HB := zA.mk (below_step (aL HB) hb); have GE228 := GW228; have NB224_228 := zA.mk ((by rw [hg]; exact Nat.ne_of_lt (blk_lt (aB BK224)) : gb224 ≠ gb228)); have NB228_224 := zA.mk ((by rw [hg]; exact Nat.ne_of_gt (blk_lt (g := gb224) (o := .cells #[.slice none 0 0, .slice none 0 0] 60 (0, 0)) (aB BK224)) : gb228 ≠ gb224)); replace BK224 := zA.mk (blk_below (aB BK224) hb); have NB225_228 := zA.mk ((by rw [hg]; exact Nat.ne_of_lt (blk_lt (aB BK225)) : gb225 ≠ gb228)); have NB228_225 := zA.mk ((by rw [hg]; exact Nat.ne_of_gt (blk_lt (g := gb225) (o := .cells #[u226000, .slice none 0 0] 60 (0, 0)) (aB BK225)) : gb228 ≠ gb225)); replace BK225 := zA.mk (blk_below (aB BK225) hb); have NB227_228 := zA.mk ((by rw [hg]; exact Nat.ne_of_lt (blk_lt (aB BK227)) : gb227 ≠ gb228)); have NB228_227 := zA.mk ((by rw [hg]; exact Nat.ne_of_gt (blk_lt (g := gb227) (o := .cells #[.int .u8 ((rd_T90 l0 x5_1).f0), .int .u8 ((rd_T90 l0 x5_1).f1), .int .u8 ((rd_T90 l0 x5_1).f2), .int .u8 ((rd_T90 l0 x5_1).f3)] 90 (0, 0)) (aB BK227)) : gb228 ≠ gb227)); replace BK227 := zA.mk (blk_below (aB BK227) hb); clear hb hbox hg; have hnb19 := NB228_224.out; have hnc19 := NB224_228.out; have hnb20 := NB228_225.out; have hnc20 := NB225_228.out; have hnb21 := NB228_227.out; have hnc21 := NB227_228.out; obtain ⟨hcz22_0, hcz22_1, hcz22_2, hcz22_3, hfz22_0, hfz22_1, hfz22_2, hfz22_3⟩ := aC4 BK228) | ((with_reducible refine gate_store (t := 48) (p := 7) rfl ?_); refine store_event (t := 48) (p := 7) (v := ?vo_w23) (w1 := ((((w18.setCell ⟨gb228, 0, none⟩ (.int .i64 x4_1)).setCell ⟨gb228, 1, none⟩ (.int .i64 (wrap64 (1 + (wrap64 (Int.tmod ((rd_T90 l0 x5_1).f2) 4)))))).setCell ⟨gb228, 2, none⟩ (.int .i64 (wrap64 (Int.tmod ((rd_T90 l0 x5_1).f0) 3)))).setCell ⟨gb228, 3, none⟩ (.int .u8 (Int.tmod ((rd_T90 l0 x5_1).f1) 3)))) ?hg ?ho ?hn ?hr ?_; (case ho => rfl); (case hg => rfl); (case hn => rfl); (case hr => first | (go_simp; done) | (go_simp; rfl)); intro w23 hw; have n0_ : zA (Kd.R k48 48 w23 w.heap.size (fun k_ => k_ ≠ gb228) u226000 x226000_1) := ⟨(by rw [hw]; exact (by (with_reducible repeat (first | apply Kd.zF | apply Kd.zG | apply Kd.zH)); exact Kd.zR (Kd.zO (p := ⟨gb228, 3, none⟩) (Kd.zO (p := ⟨gb228, 2, none⟩) (Kd.zO (p := ⟨gb228, 1, none⟩) (Kd.zO (p := ⟨gb228, 0, none⟩) (Kd.zR HO_226000.out (fun k_ hk => (⟨hk, hk.2⟩ : _ ∧ k_ ≠ gb228))) (fun _ hk => hk.2) (.int .i64 x4_1)) (fun _ hk => hk.2) (.int .i64 (wrap64 (1 + (wrap64 (Int.tmod ((rd_T90 l0 x5_1).f2) 4)))))) (fun _ hk => hk.2) (.int .i64 (wrap64 (Int.tmod ((rd_T90 l0 x5_1).f0) 3)))) (fun _ hk => hk.2) (.int .u8 (Int.tmod ((rd_T90 l0 x5_1).f1) 3))) (fun _ hk => hk.1.2)))⟩; have n1_ : zA (w23.heap[gb224]? = some (.cells #[.slice none 0 0, .slice none 0 0] 60 (0, 0))) := ⟨(by rw [hw]; exact (aB BK224))⟩; have n2_ : zA (w23.heap[gb225]? = some (.cells #[u226000, .slice none 0 0] 60 (0, 0))) := ⟨(by rw [hw]; exact (aB BK225))⟩; have n3_ : zA (w23.heap[gb227]? = some (.cells #[.int .u8 ((rd_T90 l0 x5_1).f0), .int .u8 ((rd_T90 l0 x5_1).f1), .int .u8 ((rd_T90 l0 x5_1).f2), .int .u8 ((rd_T90 l0 x5_1).f3)] 90 (0, 0))) := ⟨(by rw [hw]; exact (aB BK227))⟩; have n4_ : zA (w23.heap[gb228]? = some (.cells #[.int .i64 x4_1, .int .i64 (wrap64 (1 + (wrap64 (Int.tmod ((rd_T90 l0 x5_1).f2) 4)))), .int .i64 (wrap64 (Int.tmod ((rd_T90 l0 x5_1).f0) 3)), .int .u8 (Int.tmod ((rd_T90 l0 x5_1).f1) 3)] 48 (0, 0))) := ⟨(by rw [hw]; exact (by (with_reducible repeat (first | refine zD ?_ _ | refine zC ?_ | refine zB ?_ _)); refine blk_put (cs := #[.int .i64 x4_1, .int .i64 (wrap64 (1 + (wrap64 (Int.tmod ((rd_T90 l0 x5_1).f2) 4)))), .int .i64 (wrap64 (Int.tmod ((rd_T90 l0 x5_1).f0) 3)), .int .u8 0]) ?_ 3 _ rfl; (with_reducible repeat (first | refine zD ?_ _ | refine zC ?_ | refine zB ?_ _)); refine blk_put (cs := #[.int .i64 x4_1, .int .i64 (wrap64 (1 + (wrap64 (Int.tmod ((rd_T90 l0 x5_1).f2) 4)))), .int .i64 0, .int .u8 0]) ?_ 2 _ rfl; (with_reducible repeat (first | refine zD ?_ _ | refine zC ?_ | refine zB ?_ _)); refine blk_put (cs := #[.int .i64 x4_1, .int .i64 0, .int .i64 0, .int .u8 0]) ?_ 1 _ rfl; (with_reducible repeat (first | refine zD ?_ _ | refine zC ?_ | refine zB ?_ _)); refine blk_put (cs := #[.int .i64 0, .int .i64 0, .int .i64 0, .int .u8 0]) ?_ 0 _ rfl; (with_reducible repeat (first | refine zD ?_ _ | refine zC ?_ | refine zB ?_ _)); exact BK228.out))⟩; have n5_ : zA (Below w.heap.size w w23) := ⟨(by rw [hw]; exact (aL HB))⟩; clear hw; clear HO_226000; clear BK224; clear BK225; clear BK227; clear BK228; clear HB; have HO_226000 := n0_; have BK224 := n1_; have BK225 := n2_; have BK227 := n3_; have BK228 := n4_; have HB := n5_; clear n0_ n1_ n2_ n3_ n4_ n5_; obtain ⟨hcz24_0, hcz24_1, hcz24_2, hcz24_3, hfz24_0, hfz24_1, hfz24_2, hfz24_3⟩ := aC4 BK228; have hnb25 := NB225_224.out; have hnc25 := NB224_225.out; obtain ⟨hcz26_0, hcz26_1, hfz26_0, hfz26_1⟩ := aC2 BK225) | ((with_reducible refine gate_builtin (b := .append) (xs := #[.tmp 44, .tmp 46]) rfl ?_); at_builtin; refine Kd.R_append k48 (w0 := w) w.heap.size rfl (.tmp 44) (.tmp 46) 34 48 (.agg #[(.int .i64 0), (.int .i64 0), (.int .i64 0), (.int .u8 0)]) 32 rfl Try.underlying34 info48 rfl (by decide) (by omega) u226000 x226000_1 (⟨x4_1, wrap64 (1 + (wrap64 (Int.tmod ((rd_T90 l0 x5_1).f2) 4))), wrap64 (Int.tmod ((rd_T90 l0 x5_1).f0) 3), Int.tmod ((rd_T90 l0 x5_1).f1) 3⟩ : S48) [.int .i64 x4_1, .int .i64 (wrap64 (1 + (wrap64 (Int.tmod ((rd_T90 l0 x5_1).f2) 4)))), .int .i64 (wrap64 (Int.tmod ((rd_T90 l0 x5_1).f0) 3)), .int .u8 (Int.tmod ((rd_T90 l0 x5_1).f1) 3)] (fun k_ => k_ ≠ gb228) (fun _ => False) rfl rfl ?aP (fun _ hk => hk.elim) ?aF ?aO ?aB ?aS ?aL ?_; (case aP => exact k48_mkM _ _ _ (⟨x4_1, wrap64 (1 + (wrap64 (Int.tmod ((rd_T90 l0 x5_1).f2) 4))), wrap64 (Int.tmod ((rd_T90 l0 x5_1).f0) 3), Int.tmod ((rd_T90 l0 x5_1).f1) 3⟩ : S48)); (case aB => exact (aL HB)); (case aF => exact (fun k_ hk => Kd.freshB (g := gb228) (o := .cells #[.int .i64 x4_1, .int .i64 (wrap64 (1 + (wrap64 (Int.tmod ((rd_T90 l0 x5_1).f2) 4)))), .int .i64 (wrap64 (Int.tmod ((rd_T90 l0 x5_1).f0) 3)), .int .u8 (Int.tmod ((rd_T90 l0 x5_1).f1) 3)] 48 (0, 0)) (aB BK228) k_ hk)); (case aO => exact (aR HO_226000)); (case aS => exact (below_size (aL HB))); (case aL => have := LMc11.out; omega); intro v230 w27 ho hb hg hat; rw [← Ny229.out] at ho; replace BK224 := zA.mk (blk_grown (g := gb224) (o := .cells #[.slice none 0 0, .slice none 0 0] 60 (0, 0)) (aB BK224) hg (Kd.R_ne HO_226000.out BK224.out (by decide))); replace BK225 := zA.mk (blk_grown (g := gb225) (o := .cells #[u226000, .slice none 0 0] 60 (0, 0)) (aB BK225) hg (Kd.R_ne HO_226000.out BK225.out (by decide))); replace BK227 := zA.mk (blk_grown (g := gb227) (o := .cells #[.int .u8 ((rd_T90 l0 x5_1).f0), .int .u8 ((rd_T90 l0 x5_1).f1), .int .u8 ((rd_T90 l0 x5_1).f2), .int .u8 ((rd_T90 l0 x5_1).f3)] 90 (0, 0)) (aB BK227) hg (Kd.R_ne HO_226000.out BK227.out (by decide))); replace BK228 := zA.mk (blk_grown (g := gb228) (o := .cells #[.int .i64 x4_1, .int .i64 (wrap64 (1 + (wrap64 (Int.tmod ((rd_T90 l0 x5_1).f2) 4)))), .int .i64 (wrap64 (Int.tmod ((rd_T90 l0 x5_1).f0) 3)), .int .u8 (Int.tmod ((rd_T90 l0 x5_1).f1) 3)] 48 (0, 0)) (aB BK228) hg (Kd.R_away HO_226000.out (fun _ hk => hk))); replace HB := zA.mk (hb); have HO231 := zA.mk (ho); clear HO_226000; clear ho hb hg hat; obtain ⟨Ao28, co28, eo28⟩ := Kd.zP HO231.out; subst eo28; obtain ⟨hcz29_0, hcz29_1, hfz29_0, hfz29_1⟩ := aC2 BK225))
   go_roundg k1
   case measure => have := HK1.out; omega
   case rel => exact ⟨(wrap64 (x4_1 + (wrap64 (1 + (wrap64 (Int.tmod ((rd_T90 l0 x5_1).f2) 4)))))), (wrap64 (x5_1 + 1)), (y229), (.slice Ao28 y229.length co28), aZ, aZ, H', ⟨by have := HK1.out; omega⟩, ⟨by (with_reducible repeat (first | apply Kd.zF | apply Kd.zG | apply Kd.zH)); exact Kd.zR (Kd.zO (p := ⟨gb225, 0, none⟩) (Kd.zS HO231.out BK225.out (by decide)) (fun _ hk => hk.2) (.slice Ao28 y229.length co28)) (fun _ hk => trivial)⟩, ⟨by (with_reducible repeat (first | refine zD ?_ _ | refine zC ?_ | refine zB ?_ _)); refine blk_far ?_ NB224_225.out _; (with_reducible repeat (first | refine zD ?_ _ | refine zC ?_ | refine zB ?_ _)); exact BK224.out⟩, ⟨by (with_reducible repeat (first | refine zD ?_ _ | refine zC ?_ | refine zB ?_ _)); refine blk_put (cs := #[u226000, .slice none 0 0]) ?_ 0 _ rfl; (with_reducible repeat (first | refine zD ?_ _ | refine zC ?_ | refine zB ?_ _)); exact BK225.out⟩, ⟨aL HB⟩⟩
 clear HC2; obtain ⟨kq, x226000_1, u226000, HA, HJ1, HO_226000, BK224, BK225, HB⟩ := hcut; cases kq with
 | zero => exact absurd HA.out (by simp [h3_Para.j1])
 | succ kj1 =>
  have H := HA.out; clear HA; simp only [h3_Para.j1] at H; have H' := zA.mk H
  clear H; go_wp2
  go_loopg [8] kj1 (fun kq v8 w' => ∃ (x8_2 : Int) (x226001_2 : List Int) (u226001 : Value), v8 = .int .i64 x8_2 ∧ zA (h3_Para.l1 kq l0 x8_2 x226000_1 x226001_2 = some (r1, r2)) ∧ zA (kq ≤ kj1) ∧ zA (Kd.R k48 48 w' w.heap.size (fun _ => True) u226000 x226000_1) ∧ zA (Kd.R (Kd.int .u8) 53 w' w.heap.size (fun _ => True) u226001 x226001_2) ∧ zA (w'.heap[gb224]? = some (.cells #[(.slice none 0 0), (.slice none 0 0)] 60 (0, 0))) ∧ zA (w'.heap[gb225]? = some (.cells #[u226000, u226001] 60 (0, 0))) ∧ zA (Below w.heap.size w w'))
  case atStart => exact ⟨(0), (([] : List Int)), (.slice none 0 0), aZ, H', ⟨Nat.le_refl _⟩, ⟨aR HO_226000⟩, ⟨by first | exact Kd.R_nil _ _ _ _ _ | exact Kd.N_nil _ _ _ _ _ | exact Kd.V_nil _ _ _ _ _ | exact Kd.Q_nil _ _ _ _ _ | exact Kd.S_nil _ _ _ _ _⟩, ⟨aB BK224⟩, ⟨aB BK225⟩, ⟨aL HB⟩⟩
  clear H'; obtain ⟨x8_2, x226001_2, u226001, rfl, HA, HK2, HO_226000, HO_226001, BK224, BK225, HB⟩ := hrel; cases gk with
  | zero => exact absurd HA.out (by simp [h3_Para.l1])
  | succ k2 =>
   have H := HA.out; clear HA; simp only [h3_Para.l1] at H; by_cases c30 : x8_2 < (x226000_1.length : Int)
   rotate_left
   ·rw [if_neg c30] at H
    have c30b0 : decide (x8_2 < (x226000_1.length : Int)) = false := decide_eq_false c30
    clear c30; by_cases c49 : x226001_2.length < 140737488355328
    rotate_left
    ·rw [if_neg c49] at H
     exact absurd H (by simp)
    rw [if_pos c49] at H; have LMc49 := zA.mk c49; clear c49; obtain ⟨y239, hy239⟩ : ∃ y_ : List Int, y_ = (x226001_2 ++ [2]) := ⟨_, rfl⟩; replace H : (some (x226000_1, y239)) = some (r1, r2) := by first | (rw [hy239]; with_reducible exact H) | (have H2_ := (Option.bind_some _ _).symm.trans H; rw [hy239]; with_reducible exact H2_) | (have H2_ := (Option.bind_some _ _).symm.trans H; with_reducible exact H2_) | with_reducible exact H | (rw [hy239]; exact H) | exact H
    have Ny239 := zA.mk hy239; clear hy239; simp only [Option.some.injEq, Prod.mk.injEq] at H; obtain ⟨rfl, rfl⟩ := H; have hnb50 := NB225_224.out; have hnc50 := NB224_225.out; obtain ⟨hcz51_0, hcz51_1, hfz51_0, hfz51_1⟩ := aC2 BK225; obtain ⟨Ao52, co52, eo52⟩ := Kd.zP HO_226000.out; subst eo52; go_wp2_with (first | ((with_reducible refine gate_builtin (b := .append) (xs := #[.tmp 72, .tmp 73]) rfl ?_); at_builtin; refine Kd.R_append (Kd.int .u8) (w0 := w) w.heap.size rfl (.tmp 72) (.tmp 73) 38 53 (.int .u8 0) 1 rfl Try.underlying38 info53 rfl (by decide) (by omega) u226001 x226001_2 2 [.int .u8 2] (fun _ => True) (fun _ => False) rfl rfl ?aP (fun _ hk => hk.elim) ?aF ?aO ?aB ?aS ?aL ?_; (case aP => exact rfl); (case aB => exact (aL HB)); (case aF => exact (fun _ _ => trivial)); (case aO => exact (aR HO_226001)); (case aS => exact (below_size (aL HB))); (case aL => have := LMc49.out; omega); intro v240 w53 ho hb hg hat; rw [← Ny239.out] at ho; replace HO_226000 := zA.mk (Kd.R_over' (aR HO_226000) (Kd.R_typed (aR HO_226001)) (by decide) hg); replace BK224 := zA.mk (blk_grown (g := gb224) (o := .cells #[.slice none 0 0, .slice none 0 0] 60 (0, 0)) (aB BK224) hg (Kd.R_ne HO_226001.out BK224.out (by decide))); replace BK225 := zA.mk (blk_grown (g := gb225) (o := .cells #[.slice Ao52 x226000_1.length co52, u226001] 60 (0, 0)) (aB BK225) hg (Kd.R_ne HO_226001.out BK225.out (by decide))); replace HB := zA.mk (hb); have HO241 := zA.mk (ho); clear HO_226001; clear ho hb hg hat; obtain ⟨Ao54, co54, eo54⟩ := Kd.zP HO241.out; subst eo54; obtain ⟨hcz55_0, hcz55_1, hfz55_0, hfz55_1⟩ := aC2 BK225; obtain ⟨hcz56_0, hcz56_1, hfz56_0, hfz56_1⟩ := aC2 BK224) | ((with_reducible refine gate_store (t := 60) (p := 2) rfl ?_); refine store_event (t := 60) (p := 2) (v := ?vo_w57) (w1 := (((w53.setCell ⟨gb225, 1, none⟩ (.slice Ao54 y239.length co54)).setCell ⟨gb224, 0, none⟩ (.slice Ao52 x226000_1.length co52)).setCell ⟨gb224, 1, none⟩ (.slice Ao54 y239.length co54))) ?hg ?ho ?hn ?hr ?_; (case ho => rfl); (case hg => rfl); (case hn => rfl); (case hr => first | (go_simp; done) | (go_simp; rfl)); intro w57 hw; have n0_ : zA (Kd.R k48 48 w57 w.heap.size (fun _ => True) (.slice Ao52 x226000_1.length co52) x226000_1) := ⟨(by rw [hw]; exact (by (with_reducible repeat (first | apply Kd.zF | apply Kd.zG | apply Kd.zH)); exact Kd.zR (Kd.zO (p := ⟨gb224, 1, none⟩) (Kd.zO (p := ⟨gb224, 0, none⟩) (Kd.zO (p := ⟨gb225, 1, none⟩) (Kd.zS (Kd.zS HO_226000.out BK225.out (by decide)) BK224.out (by decide)) (fun _ hk => hk.1.2) (.slice Ao54 y239.length co54)) (fun _ hk => hk.2) (.slice Ao52 x226000_1.length co52)) (fun _ hk => hk.2) (.slice Ao54 y239.length co54)) (fun _ hk => trivial)))⟩; have n1_ : zA (Kd.R (Kd.int .u8) 53 w57 w.heap.size (fun _ => True) (.slice Ao54 y239.length co54) y239) := ⟨(by rw [hw]; exact (by (with_reducible repeat (first | apply Kd.zF | apply Kd.zG | apply Kd.zH)); exact Kd.zR (Kd.zO (p := ⟨gb224, 1, none⟩) (Kd.zO (p := ⟨gb224, 0, none⟩) (Kd.zO (p := ⟨gb225, 1, none⟩) (Kd.zS (Kd.zS HO241.out BK225.out (by decide)) BK224.out (by decide)) (fun _ hk => hk.1.2) (.slice Ao54 y239.length co54)) (fun _ hk => hk.2) (.slice Ao52 x226000_1.length co52)) (fun _ hk => hk.2) (.slice Ao54 y239.length co54)) (fun _ hk => trivial)))⟩; have n2_ : zA (w57.heap[gb224]? = some (.cells #[.slice Ao52 x226000_1.length co52, .slice Ao54 y239.length co54] 60 (0, 0))) := ⟨(by rw [hw]; exact (by (with_reducible repeat (first | refine zD ?_ _ | refine zC ?_ | refine zB ?_ _)); refine blk_put (cs := #[.slice Ao52 x226000_1.length co52, .slice none 0 0]) ?_ 1 _ rfl; (with_reducible repeat (first | refine zD ?_ _ | refine zC ?_ | refine zB ?_ _)); refine blk_put (cs := #[.slice none 0 0, .slice none 0 0]) ?_ 0 _ rfl; (with_reducible repeat (first | refine zD ?_ _ | refine zC ?_ | refine zB ?_ _)); refine blk_far ?_ NB224_225.out _; (with_reducible repeat (first | refine zD ?_ _ | refine zC ?_ | refine zB ?_ _)); exact BK224.out))⟩; have n3_ : zA (w57.heap[gb225]? = some (.cells #[.slice Ao52 x226000_1.length co52, .slice Ao54 y239.length co54] 60 (0, 0))) := ⟨(by rw [hw]; exact (by (with_reducible repeat (first | refine zD ?_ _ | refine zC ?_ | refine zB ?_ _)); refine blk_far ?_ NB225_224.out _; (with_reducible repeat (first | refine zD ?_ _ | refine zC ?_ | refine zB ?_ _)); refine blk_far ?_ NB225_224.out _; (with_reducible repeat (first | refine zD ?_ _ | refine zC ?_ | refine zB ?_ _)); refine blk_put (cs := #[.slice Ao52 x226000_1.length co52, u226001]) ?_ 1 _ rfl; (with_reducible repeat (first | refine zD ?_ _ | refine zC ?_ | refine zB ?_ _)); exact BK225.out))⟩; have n4_ : zA (Below w.heap.size w w57) := ⟨(by rw [hw]; exact (aL HB))⟩; clear hw; clear HO_226000; clear HO241; clear BK224; clear BK225; clear HB; have HO_226000 := n0_; have HO241 := n1_; have BK224 := n2_; have BK225 := n3_; have HB := n4_; clear n0_ n1_ n2_ n3_ n4_))
    refine bodyPost_ret (results_cell_row rfl _ _ gb224 60 #[.slice Ao52 x226000_1.length co52, .slice Ao54 y239.length co54] (0, 0) _ rfl (aB BK224) Try.underlying60 rfl (by kernel_rfl)) rfl ?_
    exact ⟨_, _, aX, aR HO_226000, aR HO241, aL HB⟩
   rw [if_pos c30] at H; have c30b0 : decide (x8_2 < (x226000_1.length : Int)) = true := decide_eq_true c30
   clear c30; by_cases c31 : x8_2 > 0
   rotate_left
   ·rw [if_neg c31] at H
    have c31b0 : decide (0 < x8_2) = false := decide_eq_false c31
    clear c31; by_cases c42 : x226001_2.length < 140737488355328
    rotate_left
    ·rw [if_neg c42] at H
     exact absurd H (by simp)
    rw [if_pos c42] at H; have LMc42 := zA.mk c42; clear c42; obtain ⟨y236, hy236⟩ : ∃ y_ : List Int, y_ = (x226001_2 ++ [0]) := ⟨_, rfl⟩; replace H : (h3_Para.l1 k2 l0 (wrap64 (x8_2 + 1)) x226000_1 y236) = some (r1, r2) := by first | (rw [hy236]; with_reducible exact H) | (have H2_ := (Option.bind_some _ _).symm.trans H; rw [hy236]; with_reducible exact H2_) | (have H2_ := (Option.bind_some _ _).symm.trans H; with_reducible exact H2_) | with_reducible exact H | (rw [hy236]; exact H) | exact H
    have Ny236 := zA.mk hy236; clear hy236; have H' := zA.mk H
    clear H; have hnb43 := NB225_224.out; have hnc43 := NB224_225.out; obtain ⟨hcz44_0, hcz44_1, hfz44_0, hfz44_1⟩ := aC2 BK225; obtain ⟨Ao45, co45, eo45⟩ := Kd.zP HO_226000.out; subst eo45; go_wp2_with (first | ((with_reducible refine gate_builtin (b := .append) (xs := #[.tmp 66, .tmp 68]) rfl ?_); at_builtin; refine Kd.R_append (Kd.int .u8) (w0 := w) w.heap.size rfl (.tmp 66) (.tmp 68) 38 53 (.int .u8 0) 1 rfl Try.underlying38 info53 rfl (by decide) (by omega) u226001 x226001_2 0 [.int .u8 0] (fun _ => True) (fun _ => False) rfl rfl ?aP (fun _ hk => hk.elim) ?aF ?aO ?aB ?aS ?aL ?_; (case aP => exact rfl); (case aB => exact (aL HB)); (case aF => exact (fun _ _ => trivial)); (case aO => exact (aR HO_226001)); (case aS => exact (below_size (aL HB))); (case aL => have := LMc42.out; omega); intro v237 w46 ho hb hg hat; rw [← Ny236.out] at ho; replace HO_226000 := zA.mk (Kd.R_over' (aR HO_226000) (Kd.R_typed (aR HO_226001)) (by decide) hg); replace BK224 := zA.mk (blk_grown (g := gb224) (o := .cells #[.slice none 0 0, .slice none 0 0] 60 (0, 0)) (aB BK224) hg (Kd.R_ne HO_226001.out BK224.out (by decide))); replace BK225 := zA.mk (blk_grown (g := gb225) (o := .cells #[.slice Ao45 x226000_1.length co45, u226001] 60 (0, 0)) (aB BK225) hg (Kd.R_ne HO_226001.out BK225.out (by decide))); replace HB := zA.mk (hb); have HO238 := zA.mk (ho); clear HO_226001; clear ho hb hg hat; obtain ⟨Ao47, co47, eo47⟩ := Kd.zP HO238.out; subst eo47; obtain ⟨hcz48_0, hcz48_1, hfz48_0, hfz48_1⟩ := aC2 BK225))
    go_roundg k2
    case measure => have := HJ1.out; have := HK2.out; omega
    case rel => exact ⟨(wrap64 (x8_2 + 1)), (y236), (.slice Ao47 y236.length co47), aZ, H', ⟨by have := HJ1.out; have := HK2.out; omega⟩, ⟨by (with_reducible repeat (first | apply Kd.zF | apply Kd.zG | apply Kd.zH)); exact Kd.zR (Kd.zO (p := ⟨gb225, 1, none⟩) (Kd.zS HO_226000.out BK225.out (by decide)) (fun _ hk => hk.2) (.slice Ao47 y236.length co47)) (fun _ hk => trivial)⟩, ⟨by (with_reducible repeat (first | apply Kd.zF | apply Kd.zG | apply Kd.zH)); exact Kd.zR (Kd.zO (p := ⟨gb225, 1, none⟩) (Kd.zS HO238.out BK225.out (by decide)) (fun _ hk => hk.2) (.slice Ao47 y236.length co47)) (fun _ hk => trivial)⟩, ⟨by (with_reducible repeat (first | refine zD ?_ _ | refine zC ?_ | refine zB ?_ _)); refine blk_far ?_ NB224_225.out _; (with_reducible repeat (first | refine zD ?_ _ | refine zC ?_ | refine zB ?_ _)); exact BK224.out⟩, ⟨by (with_reducible repeat (first | refine zD ?_ _ | refine zC ?_ | refine zB ?_ _)); refine blk_put (cs := #[.slice Ao45 x226000_1.length co45, u226001]) ?_ 1 _ rfl; (with_reducible repeat (first | refine zD ?_ _ | refine zC ?_ | refine zB ?_ _)); exact BK225.out⟩, ⟨aL HB⟩⟩
   rw [if_pos c31] at H; have c31b0 : decide (0 < x8_2) = true := decide_eq_true c31
   clear c31; obtain ⟨ji32, hji32⟩ : ∃ j_ : Int, (wrap64 (x8_2 - 1)) = j_ := ⟨_, rfl⟩; replace H : (if 0 ≤ (ji32) then (if (ji32) < (l0.length : Int) then (if x226001_2.length < 140737488355328 then (h3_Para.l1 k2 l0 (wrap64 (x8_2 + 1)) x226000_1 (x226001_2 ++ [Int.tmod ((rd_T90 l0 (ji32)).f3) 4])) else (none)) else (none)) else (none)) = some (r1, r2) := by first | (rw [hji32] at H; exact H) | (simp only [hji32] at H ⊢; exact H)
   have hji32w : (IntKind.i64.wrap (x8_2 - 1)) = ji32 := (i64_w _).trans hji32
   by_cases c33 : 0 ≤ (ji32)
   rotate_left
   ·rw [if_neg c33] at H
    exact absurd H (by simp)
   rw [if_pos c33] at H; have c33b0 : decide (0 ≤ (ji32)) = true := decide_eq_true c33
   clear c33; by_cases c34 : (ji32) < (l0.length : Int)
   rotate_left
   ·rw [if_neg c34] at H
    exact absurd H (by simp)
   rw [if_pos c34] at H; have c34b0 : decide ((ji32) < (l0.length : Int)) = true := decide_eq_true c34
   clear c34; by_cases c35 : x226001_2.length < 140737488355328
   rotate_left
   ·rw [if_neg c35] at H
    exact absurd H (by simp)
   rw [if_pos c35] at H; have LMc35 := zA.mk c35; clear c35; obtain ⟨y233, hy233⟩ : ∃ y_ : List Int, y_ = (x226001_2 ++ [Int.tmod ((rd_T90 l0 (ji32)).f3) 4]) := ⟨_, rfl⟩; replace H : (h3_Para.l1 k2 l0 (wrap64 (x8_2 + 1)) x226000_1 y233) = some (r1, r2) := by first | (rw [hy233]; with_reducible exact H) | (have H2_ := (Option.bind_some _ _).symm.trans H; rw [hy233]; with_reducible exact H2_) | (have H2_ := (Option.bind_some _ _).symm.trans H; with_reducible exact H2_) | with_reducible exact H | (rw [hy233]; exact H) | exact H
   have Ny233 := zA.mk hy233; clear hy233; have H' := zA.mk H
   clear H; have hnb36 := NB225_224.out; have hnc36 := NB224_225.out; obtain ⟨hcz37_0, hcz37_1, hfz37_0, hfz37_1⟩ := aC2 BK225; obtain ⟨Ao38, co38, eo38⟩ := Kd.zP HO_226000.out; subst eo38; have p232 : 0 ≤ ((ji32) : Int) := aD
   have q232 : (ji32) < (l0.length : Int) := aD
   obtain ⟨ad232, e232, hx232_0, hx232_1, hx232_2, hx232_3⟩ := at_T90 HR0.out (ji32) p232 q232; cases e232
   replace hx232_0 := (HB.out.cell (World.block_lt_of_cell? w _ hx232_0)).trans hx232_0; replace hx232_1 := (HB.out.cell (World.block_lt_of_cell? w _ hx232_1)).trans hx232_1; replace hx232_2 := (HB.out.cell (World.block_lt_of_cell? w _ hx232_2)).trans hx232_2; replace hx232_3 := (HB.out.cell (World.block_lt_of_cell? w _ hx232_3)).trans hx232_3; replace p232 := eq_true p232; replace q232 := eq_true q232; go_wp2_with (first | ((with_reducible refine gate_builtin (b := .append) (xs := #[.tmp 66, .tmp 68]) rfl ?_); at_builtin; refine Kd.R_append (Kd.int .u8) (w0 := w) w.heap.size rfl (.tmp 66) (.tmp 68) 38 53 (.int .u8 0) 1 rfl Try.underlying38 info53 rfl (by decide) (by omega) u226001 x226001_2 (Int.tmod ((rd_T90 l0 (ji32)).f3) 4) [.int .u8 (Int.tmod ((rd_T90 l0 (ji32)).f3) 4)] (fun _ => True) (fun _ => False) rfl rfl ?aP (fun _ hk => hk.elim) ?aF ?aO ?aB ?aS ?aL ?_; (case aP => exact rfl); (case aB => exact (aL HB)); (case aF => exact (fun _ _ => trivial)); (case aO => exact (aR HO_226001)); (case aS => exact (below_size (aL HB))); (case aL => have := LMc35.out; omega); intro v234 w39 ho hb hg hat; rw [← Ny233.out] at ho; replace HO_226000 := zA.mk (Kd.R_over' (aR HO_226000) (Kd.R_typed (aR HO_226001)) (by decide) hg); replace BK224 := zA.mk (blk_grown (g := gb224) (o := .cells #[.slice none 0 0, .slice none 0 0] 60 (0, 0)) (aB BK224) hg (Kd.R_ne HO_226001.out BK224.out (by decide))); replace BK225 := zA.mk (blk_grown (g := gb225) (o := .cells #[.slice Ao38 x226000_1.length co38, u226001] 60 (0, 0)) (aB BK225) hg (Kd.R_ne HO_226001.out BK225.out (by decide))); replace HB := zA.mk (hb); have HO235 := zA.mk (ho); clear HO_226001; clear ho hb hg hat; obtain ⟨Ao40, co40, eo40⟩ := Kd.zP HO235.out; subst eo40; obtain ⟨hcz41_0, hcz41_1, hfz41_0, hfz41_1⟩ := aC2 BK225))
   go_roundg k2
   case measure => have := HJ1.out; have := HK2.out; omega
   case rel => exact ⟨(wrap64 (x8_2 + 1)), (y233), (.slice Ao40 y233.length co40), aZ, H', ⟨by have := HJ1.out; have := HK2.out; omega⟩, ⟨by (with_reducible repeat (first | apply Kd.zF | apply Kd.zG | apply Kd.zH)); exact Kd.zR (Kd.zO (p := ⟨gb225, 1, none⟩) (Kd.zS HO_226000.out BK225.out (by decide)) (fun _ hk => hk.2) (.slice Ao40 y233.length co40)) (fun _ hk => trivial)⟩, ⟨by (with_reducible repeat (first | apply Kd.zF | apply Kd.zG | apply Kd.zH)); exact Kd.zR (Kd.zO (p := ⟨gb225, 1, none⟩) (Kd.zS HO235.out BK225.out (by decide)) (fun _ hk => hk.2) (.slice Ao40 y233.length co40)) (fun _ hk => trivial)⟩, ⟨by (with_reducible repeat (first | refine zD ?_ _ | refine zC ?_ | refine zB ?_ _)); refine blk_far ?_ NB224_225.out _; (with_reducible repeat (first | refine zD ?_ _ | refine zC ?_ | refine zB ?_ _)); exact BK224.out⟩, ⟨by (with_reducible repeat (first | refine zD ?_ _ | refine zC ?_ | refine zB ?_ _)); refine blk_put (cs := #[.slice Ao38 x226000_1.length co38, u226001]) ?_ 1 _ rfl; (with_reducible repeat (first | refine zD ?_ _ | refine zC ?_ | refine zB ?_ _)); exact BK225.out⟩, ⟨aL HB⟩⟩
mutual
def r0_Check.j0 : Nat → Int → Bool → List (S48) → List Int → Option (Bool)
 | 0, _, _, _, _ => none
 | k + 1, x3, x23, x243000, x243001 => if x23 = true then (some false) else (if x3 > 0 then (if 0 < (x243001.length : Int) then (r0_Check.j1 k x3 ((rd x243001 0) != 0) x243000 x243001) else (none)) else (r0_Check.j1 k x3 false x243000 x243001))
def r0_Check.j1 : Nat → Int → Bool → List (S48) → List Int → Option (Bool)
 | 0, _, _, _, _ => none
 | k + 1, x3, x32, x243000, x243001 => if x32 = true then (some false) else (r0_Check.l0 k x3 0 0 x243000 x243001)
def r0_Check.l0 : Nat → Int → Int → Int → List (S48) → List Int → Option (Bool)
 | 0, _, _, _, _, _ => none
 | k + 1, x3, x4, x5, x243000, x243001 => if x5 < x3 then (if 0 ≤ x5 then (if x5 < (x243000.length : Int) then (if ((rd_T48 x243000 x5).f0) = x4 then (if ((rd_T48 x243000 x5).f1) < 1 then (some false) else (if ((rd_T48 x243000 x5).f1) > 4096 then (some false) else (if (wrap64 (x4 + ((rd_T48 x243000 x5).f1))) > 4096 then (some false) else (if ((rd_T48 x243000 x5).f2) < 0 then (some false) else (if ((rd_T48 x243000 x5).f2) > 2 then (some false) else (if ((rd_T48 x243000 x5).f3) > 2 then (some false) else (if x5 < (x243001.length : Int) then (if (rd x243001 x5) > 3 then (some false) else (r0_Check.l0 k x3 (wrap64 (x4 + ((rd_T48 x243000 x5).f1))) (wrap64 (x5 + 1)) x243000 x243001)) else (none)))))))) else (some false)) else (none)) else (none)) else (some true)
end
def r0_Check.f (k : Nat) (l0_0 : List (S48)) (l0_1 : List Int) : Option (Bool) := if (l0_1.length : Int) = (wrap64 ((l0_0.length : Int) + 1)) then (if 0 ≤ (l0_0.length : Int) then (if (l0_0.length : Int) < (l0_1.length : Int) then (r0_Check.j0 k (l0_0.length : Int) ((rd l0_1 (l0_0.length : Int)) != 2) l0_0 l0_1) else (none)) else (none)) else (r0_Check.j0 k (l0_0.length : Int) true l0_0 l0_1)
theorem r0_Check.mono_l : ∀ k, (∀ y0 y1 y2 y3, LeO (r0_Check.j0 k y0 y1 y2 y3) (r0_Check.j0 (k + 1) y0 y1 y2 y3)) ∧ (∀ y0 y1 y2 y3, LeO (r0_Check.j1 k y0 y1 y2 y3) (r0_Check.j1 (k + 1) y0 y1 y2 y3)) ∧ (∀ y0 y1 y2 y3 y4, LeO (r0_Check.l0 k y0 y1 y2 y3 y4) (r0_Check.l0 (k + 1) y0 y1 y2 y3 y4))
 | 0 => ⟨fun _ _ _ _ r h => by simp [r0_Check.j0] at h, fun _ _ _ _ r h => by simp [r0_Check.j1] at h, fun _ _ _ _ _ r h => by simp [r0_Check.l0] at h⟩
 | k + 1 => by
  obtain ⟨ih0, ih1, ih2⟩ := r0_Check.mono_l k; refine ⟨?_, ?_, ?_⟩
  ·intro y0 y1 y2 y3
   unfold r0_Check.j0
   repeat' (with_reducible first | exact ih0 _ _ _ _ | exact ih1 _ _ _ _ | exact ih2 _ _ _ _ _ | exact LeO.refl _ | exact LeO.none _ | refine LeO.ite ?_ ?_ | refine LeO.bind ?_ (fun _ => ?_))
  ·intro y0 y1 y2 y3
   unfold r0_Check.j1
   repeat' (with_reducible first | exact ih0 _ _ _ _ | exact ih1 _ _ _ _ | exact ih2 _ _ _ _ _ | exact LeO.refl _ | exact LeO.none _ | refine LeO.ite ?_ ?_ | refine LeO.bind ?_ (fun _ => ?_))
  ·intro y0 y1 y2 y3 y4
   unfold r0_Check.l0
   repeat' (with_reducible first | exact ih0 _ _ _ _ | exact ih1 _ _ _ _ | exact ih2 _ _ _ _ _ | exact LeO.refl _ | exact LeO.none _ | refine LeO.ite ?_ ?_ | refine LeO.bind ?_ (fun _ => ?_))
theorem r0_Check.mono : ∀ a0 a1 k, LeO (r0_Check.f k a0 a1) (r0_Check.f (k + 1) a0 a1) := by
 intro a0 a1 k
 obtain ⟨ih0, ih1, ih2⟩ := r0_Check.mono_l k; unfold r0_Check.f
 repeat' (with_reducible first | exact ih0 _ _ _ _ | exact ih1 _ _ _ _ | exact ih2 _ _ _ _ _ | exact LeO.refl _ | exact LeO.none _ | refine LeO.ite ?_ ?_ | refine LeO.bind ?_ (fun _ => ?_))
set_option maxHeartbeats 8000000 in
set_option maxRecDepth 100000 in
theorem r0_Check.calls (k : Nat) (A0_0 : Option Addr) (c0_0 : Nat) (l0_0 : List (S48)) (A0_1 : Option Addr) (c0_1 : Nat) (l0_1 : List Int) (r : Bool) (w : World) (hr0_0 : Kd.C k48 w A0_0 l0_0.length l0_0) (hc0_0 : l0_0.length ≤ c0_0) (hr0_1 : Kd.C (Kd.int .u8) w A0_1 l0_1.length l0_1) (hc0_1 : l0_1.length ≤ c0_1) (h : r0_Check.f k l0_0 l0_1 = some r) :
  Calls Try.prog 29 #[.agg #[.slice A0_0 l0_0.length c0_0, .slice A0_1 l0_1.length c0_1]] w fun e w' => e = .returned (.bool r) ∧ Below w.heap.size w w' := by
 have hu60 := Try.underlying60; have hu48 := Try.underlying48; have HR0_0 := zA.mk hr0_0; have HC0_0 := zA.mk hc0_0; clear hr0_0 hc0_0; have HR0_1 := zA.mk hr0_1; have HC0_1 := zA.mk hc0_1; clear hr0_1 hc0_1; have HB := zA.mk (Below.refl w.heap.size w); have H : (if (l0_1.length : Int) = (wrap64 ((l0_0.length : Int) + 1)) then (if 0 ≤ (l0_0.length : Int) then (if (l0_0.length : Int) < (l0_1.length : Int) then (r0_Check.j0 k (l0_0.length : Int) ((rd l0_1 (l0_0.length : Int)) != 2) l0_0 l0_1) else (none)) else (none)) else (r0_Check.j0 k (l0_0.length : Int) true l0_0 l0_1)) = some r := h
 clear h; have HC2 := zA.mk H; clear H; go_enter Try.func29, Try.ntmps29
 go_upto_region 2 with (first | ((with_reducible refine gate_dst (N := 1) rfl ?_); refine box_event ?hg (N := 1) ?hd (cs := #[.slice A0_0 l0_0.length c0_0, .slice A0_1 l0_1.length c0_1]) (t := 60) ?hr ?_; (case hd => rfl); (case hg => rfl); (case hr => first | (go_simp; done) | (go_simp; rfl)); intro gb242 hg w3 hbox hb; have BK242 := zA.mk (hbox); have GW242 := zA.mk ((by rw [hg]; exact (below_size (aL HB)) : w.heap.size ≤ gb242)); replace HB := zA.mk (below_step (aL HB) hb); have GE242 := GW242; clear hb hbox hg; obtain ⟨hcz4_0, hcz4_1, hfz4_0, hfz4_1⟩ := aC2 BK242))
 (try simp only [Act.put, sA_, sB_, sC_])
 go_cut [23] (fun v23 wc => ∃ (kq : Nat) (x23_1 : Bool), v23 = .bool x23_1 ∧ zA (r0_Check.j0 kq (l0_0.length : Int) x23_1 l0_0 l0_1 = some r) ∧ zA (kq ≤ k) ∧ zA (wc.heap[gb242]? = some (.cells #[(.slice A0_0 l0_0.length c0_0), (.slice A0_1 l0_1.length c0_1)] 60 (0, 0))) ∧ zA (Below w.heap.size w wc))
 case first =>
  have H := HC2.out; clear HC2; by_cases c5 : (l0_1.length : Int) = (wrap64 ((l0_0.length : Int) + 1))
  rotate_left
  ·rw [if_neg c5] at H
   have c5b0 : ((l0_1.length : Int) == (wrap64 ((l0_0.length : Int) + 1))) = false := beq_eq_false_iff_ne.mpr c5
   have c5b1 : ((l0_1.length : Int) != (wrap64 ((l0_0.length : Int) + 1))) = true := bne_iff_ne.mpr c5
   (first | rw [c5b0] | (simp only [i64_w, i32_w]; rw [c5b0]) | skip)
   have H' := zA.mk H
   clear H; obtain ⟨hcz9_0, hcz9_1, hfz9_0, hfz9_1⟩ := aC2 BK242; go_wp2
   go_meet
   case rel => exact ⟨_, (true), aZ, H', ⟨by first | omega | exact Nat.le_refl _⟩, ⟨aB BK242⟩, ⟨aL HB⟩⟩
  rw [if_pos c5] at H; have c5b0 : ((l0_1.length : Int) == (wrap64 ((l0_0.length : Int) + 1))) = true := beq_iff_eq.mpr c5
  have c5b1 : ((l0_1.length : Int) != (wrap64 ((l0_0.length : Int) + 1))) = false := bne_eq_false_iff_eq.mpr c5
  clear c5; (first | rw [c5b0] | (simp only [i64_w, i32_w]; rw [c5b0]) | skip)
  by_cases c6 : 0 ≤ (l0_0.length : Int)
  rotate_left
  ·rw [if_neg c6] at H
   exact absurd H (by simp)
  rw [if_pos c6] at H; have c6b0 : decide (0 ≤ (l0_0.length : Int)) = true := decide_eq_true c6
  have c6b1 : decide (0 ≤ l0_0.length) = true := decide_eq_true (by omega)
  clear c6; by_cases c7 : (l0_0.length : Int) < (l0_1.length : Int)
  rotate_left
  ·rw [if_neg c7] at H
   exact absurd H (by simp)
  rw [if_pos c7] at H; have c7b0 : decide ((l0_0.length : Int) < (l0_1.length : Int)) = true := decide_eq_true c7
  have c7b1 : decide (l0_0.length < l0_1.length) = true := decide_eq_true (Int.ofNat_lt.mp c7)
  clear c7; have H' := zA.mk H
  clear H; obtain ⟨hcz8_0, hcz8_1, hfz8_0, hfz8_1⟩ := aC2 BK242; have p243 : 0 ≤ ((l0_0.length : Int) : Int) := aD
  have q243 : (l0_0.length : Int) < (l0_1.length : Int) := aD
  obtain ⟨ad243, e243, hx243_0⟩ := Kd.at_int HR0_1.out (l0_0.length : Int) p243 q243; cases e243
  replace hx243_0 := (HB.out.cell (World.block_lt_of_cell? w _ hx243_0)).trans hx243_0; (try simp only [Go.IntWalk.toNatUp] at hx243_0)
  replace p243 := eq_true p243; replace q243 := eq_true q243; go_wp2
  go_meet
  case rel => exact ⟨_, (((rd l0_1 (l0_0.length : Int)) != 2)), aZ, H', ⟨by first | omega | exact Nat.le_refl _⟩, ⟨aB BK242⟩, ⟨aL HB⟩⟩
 clear HC2; obtain ⟨kq, x23_1, rfl, HA, HJ1, BK242, HB⟩ := hcut; cases kq with
 | zero => exact absurd HA.out (by simp [r0_Check.j0])
 | succ kj1 =>
  have H := HA.out; clear HA; simp only [r0_Check.j0] at H; by_cases c10 : x23_1 = true
  ·subst c10
   have H1 : (some false) = some r := by rw [if_pos rfl] at H; exact H
   clear H; have H := H1; clear H1; obtain rfl := Option.some.inj H
   go_wp2
   go_ret
   exact ⟨aX, aL HB⟩
  replace c10 := Bool.eq_false_iff.mpr c10; subst c10; have H1 : (if (l0_0.length : Int) > 0 then (if 0 < (l0_1.length : Int) then (r0_Check.j1 kj1 (l0_0.length : Int) ((rd l0_1 0) != 0) l0_0 l0_1) else (none)) else (r0_Check.j1 kj1 (l0_0.length : Int) false l0_0 l0_1)) = some r := by rw [if_neg (show ¬ (false = true) by decide)] at H; exact H
  clear H; have H := H1; clear H1; have HC11 := zA.mk H; clear H; go_upto_region 4 with (fail)
  go_cut [32] (fun v32 wc => ∃ (kq : Nat) (x32_10 : Bool), v32 = .bool x32_10 ∧ zA (r0_Check.j1 kq (l0_0.length : Int) x32_10 l0_0 l0_1 = some r) ∧ zA (kq ≤ kj1) ∧ zA (wc.heap[gb242]? = some (.cells #[(.slice A0_0 l0_0.length c0_0), (.slice A0_1 l0_1.length c0_1)] 60 (0, 0))) ∧ zA (Below w.heap.size w wc))
  case first =>
   have H := HC11.out; clear HC11; by_cases c12 : (l0_0.length : Int) > 0
   rotate_left
   ·rw [if_neg c12] at H
    have c12b0 : decide (0 < (l0_0.length : Int)) = false := decide_eq_false c12
    have c12b1 : decide (0 < l0_0.length) = false := decide_eq_false (by omega)
    clear c12; (first | rw [c12b0] | (simp only [i64_w, i32_w]; rw [c12b0]) | skip)
    have H' := zA.mk H
    clear H; go_wp2
    go_meet
    case rel => exact ⟨_, (false), aZ, H', ⟨by have := HJ1.out; first | omega | exact Nat.le_refl _⟩, ⟨aB BK242⟩, ⟨aL HB⟩⟩
   rw [if_pos c12] at H; have c12b0 : decide (0 < (l0_0.length : Int)) = true := decide_eq_true c12
   have c12b1 : decide (0 < l0_0.length) = true := decide_eq_true (by omega)
   clear c12; (first | rw [c12b0] | (simp only [i64_w, i32_w]; rw [c12b0]) | skip)
   by_cases c13 : 0 < (l0_1.length : Int)
   rotate_left
   ·rw [if_neg c13] at H
    exact absurd H (by simp)
   rw [if_pos c13] at H; have c13b0 : decide (0 < (l0_1.length : Int)) = true := decide_eq_true c13
   have c13b1 : decide (0 < l0_1.length) = true := decide_eq_true (by omega)
   clear c13; have H' := zA.mk H
   clear H; obtain ⟨hcz14_0, hcz14_1, hfz14_0, hfz14_1⟩ := aC2 BK242; have p244 : 0 ≤ (0 : Int) := (by omega)
   have q244 : 0 < (l0_1.length : Int) := aD
   obtain ⟨ad244, e244, hx244_0⟩ := Kd.at_int HR0_1.out 0 p244 q244; cases e244
   have qi244 : (0 < l0_1.length) = True := eq_true (by omega)
   (try rw [show ((0 : Int)).toNat = 0 from rfl] at hx244_0)
   (try rw [Addr.add_zero'] at hx244_0)
   replace hx244_0 := (HB.out.cell (World.block_lt_of_cell? w _ hx244_0)).trans hx244_0; replace p244 := eq_true p244; replace q244 := eq_true q244; go_wp2
   go_meet
   case rel => exact ⟨_, (((rd l0_1 0) != 0)), aZ, H', ⟨by have := HJ1.out; first | omega | exact Nat.le_refl _⟩, ⟨aB BK242⟩, ⟨aL HB⟩⟩
  clear HC11; obtain ⟨kq, x32_10, rfl, HA, HJ10, BK242, HB⟩ := hcut; cases kq with
  | zero => exact absurd HA.out (by simp [r0_Check.j1])
  | succ kj10 =>
   have H := HA.out; clear HA; simp only [r0_Check.j1] at H; by_cases c15 : x32_10 = true
   ·subst c15
    have H1 : (some false) = some r := by rw [if_pos rfl] at H; exact H
    clear H; have H := H1; clear H1; obtain rfl := Option.some.inj H
    go_wp2
    go_ret
    exact ⟨aX, aL HB⟩
   replace c15 := Bool.eq_false_iff.mpr c15; subst c15; have H1 : (r0_Check.l0 kj10 (l0_0.length : Int) 0 0 l0_0 l0_1) = some r := by rw [if_neg (show ¬ (false = true) by decide)] at H; exact H
   clear H; have H := H1; clear H1; have H' := zA.mk H
   clear H; go_wp2
   go_loopg [4, 5] kj10 (fun kq v4 v5 w' => ∃ (x4_3 : Int) (x5_3 : Int), v4 = .int .i64 x4_3 ∧ v5 = .int .i64 x5_3 ∧ zA (r0_Check.l0 kq (l0_0.length : Int) x4_3 x5_3 l0_0 l0_1 = some r) ∧ zA (kq ≤ kj10) ∧ zA (w'.heap[gb242]? = some (.cells #[(.slice A0_0 l0_0.length c0_0), (.slice A0_1 l0_1.length c0_1)] 60 (0, 0))) ∧ zA (Below w.heap.size w w'))
   case atStart => exact ⟨(0), (0), aZ, aZ, H', ⟨Nat.le_refl _⟩, ⟨aB BK242⟩, ⟨aL HB⟩⟩
   clear H'; obtain ⟨x4_3, x5_3, rfl, rfl, HA, HK3, BK242, HB⟩ := hrel; cases gk with
   | zero => exact absurd HA.out (by simp [r0_Check.l0])
   | succ k3 =>
    have H := HA.out; clear HA; simp only [r0_Check.l0] at H; by_cases c16 : x5_3 < (l0_0.length : Int)
    rotate_left
    ·rw [if_neg c16] at H
     have c16b0 : decide (x5_3 < (l0_0.length : Int)) = false := decide_eq_false c16
     clear c16; obtain rfl := Option.some.inj H
     go_wp2
     go_ret
     exact ⟨aX, aL HB⟩
    rw [if_pos c16] at H; have c16b0 : decide (x5_3 < (l0_0.length : Int)) = true := decide_eq_true c16
    clear c16; by_cases c17 : 0 ≤ x5_3
    rotate_left
    ·rw [if_neg c17] at H
     exact absurd H (by simp)
    rw [if_pos c17] at H; have c17b0 : decide (0 ≤ x5_3) = true := decide_eq_true c17
    clear c17; by_cases c18 : x5_3 < (l0_0.length : Int)
    rotate_left
    ·rw [if_neg c18] at H
     exact absurd H (by simp)
    rw [if_pos c18] at H; have c18b0 : decide (x5_3 < (l0_0.length : Int)) = true := decide_eq_true c18
    clear c18; by_cases c19 : ((rd_T48 l0_0 x5_3).f0) = x4_3
    rotate_left
    ·rw [if_neg c19] at H
     have c19b0 : (((rd_T48 l0_0 x5_3).f0) == x4_3) = false := beq_eq_false_iff_ne.mpr c19
     have c19b1 : (((rd_T48 l0_0 x5_3).f0) != x4_3) = true := bne_iff_ne.mpr c19
     obtain rfl := Option.some.inj H
     obtain ⟨hcz78_0, hcz78_1, hfz78_0, hfz78_1⟩ := aC2 BK242; have p245 : 0 ≤ (x5_3 : Int) := aD
     have q245 : x5_3 < (l0_0.length : Int) := aD
     obtain ⟨ad245, e245, hx245_0, hx245_1, hx245_2, hx245_3⟩ := at_T48 HR0_0.out x5_3 p245 q245; cases e245
     replace hx245_0 := (HB.out.cell (World.block_lt_of_cell? w _ hx245_0)).trans hx245_0; replace hx245_1 := (HB.out.cell (World.block_lt_of_cell? w _ hx245_1)).trans hx245_1; replace hx245_2 := (HB.out.cell (World.block_lt_of_cell? w _ hx245_2)).trans hx245_2; replace hx245_3 := (HB.out.cell (World.block_lt_of_cell? w _ hx245_3)).trans hx245_3; replace p245 := eq_true p245; replace q245 := eq_true q245; go_wp2_with (first | ((with_reducible refine gate_dst (N := 6) rfl ?_); refine box_event ?hg (N := 6) ?hd (cs := #[.int .i64 0, .int .i64 0, .int .i64 0, .int .u8 0]) (t := 48) ?hr ?_; (case hd => rfl); (case hg => rfl); (case hr => first | (go_simp; done) | (go_simp; rfl)); intro gb246 hg w79 hbox hb; have BK246 := zA.mk (hbox); have GW246 := zA.mk ((by rw [hg]; exact (below_size (aL HB)) : w.heap.size ≤ gb246)); replace HB := zA.mk (below_step (aL HB) hb); have GE246 := GW246; have NB242_246 := zA.mk ((by rw [hg]; exact Nat.ne_of_lt (blk_lt (aB BK242)) : gb242 ≠ gb246)); have NB246_242 := zA.mk ((by rw [hg]; exact Nat.ne_of_gt (blk_lt (g := gb242) (o := .cells #[.slice (some ad245) l0_0.length c0_0, .slice A0_1 l0_1.length c0_1] 60 (0, 0)) (aB BK242)) : gb246 ≠ gb242)); replace BK242 := zA.mk (blk_below (aB BK242) hb); clear hb hbox hg; have hnb80 := NB246_242.out; have hnc80 := NB242_246.out; obtain ⟨hcz81_0, hcz81_1, hcz81_2, hcz81_3, hfz81_0, hfz81_1, hfz81_2, hfz81_3⟩ := aC4 BK246) | ((with_reducible refine gate_store (t := 48) (p := 6) rfl ?_); refine store_event (t := 48) (p := 6) (v := ?vo_w82) (w1 := ((((w79.setCell ⟨gb246, 0, none⟩ (.int .i64 ((rd_T48 l0_0 x5_3).f0))).setCell ⟨gb246, 1, none⟩ (.int .i64 ((rd_T48 l0_0 x5_3).f1))).setCell ⟨gb246, 2, none⟩ (.int .i64 ((rd_T48 l0_0 x5_3).f2))).setCell ⟨gb246, 3, none⟩ (.int .u8 ((rd_T48 l0_0 x5_3).f3)))) ?hg ?ho ?hn ?hr ?_; (case ho => rfl); (case hg => rfl); (case hn => rfl); (case hr => first | (go_simp; done) | (go_simp; rfl)); intro w82 hw; have n0_ : zA (w82.heap[gb242]? = some (.cells #[.slice (some ad245) l0_0.length c0_0, .slice A0_1 l0_1.length c0_1] 60 (0, 0))) := ⟨(by rw [hw]; exact (aB BK242))⟩; have n1_ : zA (w82.heap[gb246]? = some (.cells #[.int .i64 ((rd_T48 l0_0 x5_3).f0), .int .i64 ((rd_T48 l0_0 x5_3).f1), .int .i64 ((rd_T48 l0_0 x5_3).f2), .int .u8 ((rd_T48 l0_0 x5_3).f3)] 48 (0, 0))) := ⟨(by rw [hw]; exact (by (with_reducible repeat (first | refine zD ?_ _ | refine zC ?_ | refine zB ?_ _)); refine blk_put (cs := #[.int .i64 ((rd_T48 l0_0 x5_3).f0), .int .i64 ((rd_T48 l0_0 x5_3).f1), .int .i64 ((rd_T48 l0_0 x5_3).f2), .int .u8 0]) ?_ 3 _ rfl; (with_reducible repeat (first | refine zD ?_ _ | refine zC ?_ | refine zB ?_ _)); refine blk_put (cs := #[.int .i64 ((rd_T48 l0_0 x5_3).f0), .int .i64 ((rd_T48 l0_0 x5_3).f1), .int .i64 0, .int .u8 0]) ?_ 2 _ rfl; (with_reducible repeat (first | refine zD ?_ _ | refine zC ?_ | refine zB ?_ _)); refine blk_put (cs := #[.int .i64 ((rd_T48 l0_0 x5_3).f0), .int .i64 0, .int .i64 0, .int .u8 0]) ?_ 1 _ rfl; (with_reducible repeat (first | refine zD ?_ _ | refine zC ?_ | refine zB ?_ _)); refine blk_put (cs := #[.int .i64 0, .int .i64 0, .int .i64 0, .int .u8 0]) ?_ 0 _ rfl; (with_reducible repeat (first | refine zD ?_ _ | refine zC ?_ | refine zB ?_ _)); exact BK246.out))⟩; have n2_ : zA (Below w.heap.size w w82) := ⟨(by rw [hw]; exact (aL HB))⟩; clear hw; clear BK242; clear BK246; clear HB; have BK242 := n0_; have BK246 := n1_; have HB := n2_; clear n0_ n1_ n2_; obtain ⟨hcz83_0, hcz83_1, hcz83_2, hcz83_3, hfz83_0, hfz83_1, hfz83_2, hfz83_3⟩ := aC4 BK246))
     go_ret
     exact ⟨aX, aL HB⟩
    rw [if_pos c19] at H; have c19b0 : (((rd_T48 l0_0 x5_3).f0) == x4_3) = true := beq_iff_eq.mpr c19
    have c19b1 : (((rd_T48 l0_0 x5_3).f0) != x4_3) = false := bne_eq_false_iff_eq.mpr c19
    clear c19; by_cases c20 : ((rd_T48 l0_0 x5_3).f1) < 1
    ·rw [if_pos c20] at H
     have c20b0 : decide (((rd_T48 l0_0 x5_3).f1) < 1) = true := decide_eq_true c20
     clear c20; obtain rfl := Option.some.inj H
     obtain ⟨hcz21_0, hcz21_1, hfz21_0, hfz21_1⟩ := aC2 BK242; have p245 : 0 ≤ (x5_3 : Int) := aD
     have q245 : x5_3 < (l0_0.length : Int) := aD
     obtain ⟨ad245, e245, hx245_0, hx245_1, hx245_2, hx245_3⟩ := at_T48 HR0_0.out x5_3 p245 q245; cases e245
     replace hx245_0 := (HB.out.cell (World.block_lt_of_cell? w _ hx245_0)).trans hx245_0; replace hx245_1 := (HB.out.cell (World.block_lt_of_cell? w _ hx245_1)).trans hx245_1; replace hx245_2 := (HB.out.cell (World.block_lt_of_cell? w _ hx245_2)).trans hx245_2; replace hx245_3 := (HB.out.cell (World.block_lt_of_cell? w _ hx245_3)).trans hx245_3; replace p245 := eq_true p245; replace q245 := eq_true q245; go_wp2_with (first | ((with_reducible refine gate_dst (N := 6) rfl ?_); refine box_event ?hg (N := 6) ?hd (cs := #[.int .i64 0, .int .i64 0, .int .i64 0, .int .u8 0]) (t := 48) ?hr ?_; (case hd => rfl); (case hg => rfl); (case hr => first | (go_simp; done) | (go_simp; rfl)); intro gb246 hg w22 hbox hb; have BK246 := zA.mk (hbox); have GW246 := zA.mk ((by rw [hg]; exact (below_size (aL HB)) : w.heap.size ≤ gb246)); replace HB := zA.mk (below_step (aL HB) hb); have GE246 := GW246; have NB242_246 := zA.mk ((by rw [hg]; exact Nat.ne_of_lt (blk_lt (aB BK242)) : gb242 ≠ gb246)); have NB246_242 := zA.mk ((by rw [hg]; exact Nat.ne_of_gt (blk_lt (g := gb242) (o := .cells #[.slice (some ad245) l0_0.length c0_0, .slice A0_1 l0_1.length c0_1] 60 (0, 0)) (aB BK242)) : gb246 ≠ gb242)); replace BK242 := zA.mk (blk_below (aB BK242) hb); clear hb hbox hg; have hnb23 := NB246_242.out; have hnc23 := NB242_246.out; obtain ⟨hcz24_0, hcz24_1, hcz24_2, hcz24_3, hfz24_0, hfz24_1, hfz24_2, hfz24_3⟩ := aC4 BK246) | ((with_reducible refine gate_store (t := 48) (p := 6) rfl ?_); refine store_event (t := 48) (p := 6) (v := ?vo_w25) (w1 := ((((w22.setCell ⟨gb246, 0, none⟩ (.int .i64 ((rd_T48 l0_0 x5_3).f0))).setCell ⟨gb246, 1, none⟩ (.int .i64 ((rd_T48 l0_0 x5_3).f1))).setCell ⟨gb246, 2, none⟩ (.int .i64 ((rd_T48 l0_0 x5_3).f2))).setCell ⟨gb246, 3, none⟩ (.int .u8 ((rd_T48 l0_0 x5_3).f3)))) ?hg ?ho ?hn ?hr ?_; (case ho => rfl); (case hg => rfl); (case hn => rfl); (case hr => first | (go_simp; done) | (go_simp; rfl)); intro w25 hw; have n0_ : zA (w25.heap[gb242]? = some (.cells #[.slice (some ad245) l0_0.length c0_0, .slice A0_1 l0_1.length c0_1] 60 (0, 0))) := ⟨(by rw [hw]; exact (aB BK242))⟩; have n1_ : zA (w25.heap[gb246]? = some (.cells #[.int .i64 ((rd_T48 l0_0 x5_3).f0), .int .i64 ((rd_T48 l0_0 x5_3).f1), .int .i64 ((rd_T48 l0_0 x5_3).f2), .int .u8 ((rd_T48 l0_0 x5_3).f3)] 48 (0, 0))) := ⟨(by rw [hw]; exact (by (with_reducible repeat (first | refine zD ?_ _ | refine zC ?_ | refine zB ?_ _)); refine blk_put (cs := #[.int .i64 ((rd_T48 l0_0 x5_3).f0), .int .i64 ((rd_T48 l0_0 x5_3).f1), .int .i64 ((rd_T48 l0_0 x5_3).f2), .int .u8 0]) ?_ 3 _ rfl; (with_reducible repeat (first | refine zD ?_ _ | refine zC ?_ | refine zB ?_ _)); refine blk_put (cs := #[.int .i64 ((rd_T48 l0_0 x5_3).f0), .int .i64 ((rd_T48 l0_0 x5_3).f1), .int .i64 0, .int .u8 0]) ?_ 2 _ rfl; (with_reducible repeat (first | refine zD ?_ _ | refine zC ?_ | refine zB ?_ _)); refine blk_put (cs := #[.int .i64 ((rd_T48 l0_0 x5_3).f0), .int .i64 0, .int .i64 0, .int .u8 0]) ?_ 1 _ rfl; (with_reducible repeat (first | refine zD ?_ _ | refine zC ?_ | refine zB ?_ _)); refine blk_put (cs := #[.int .i64 0, .int .i64 0, .int .i64 0, .int .u8 0]) ?_ 0 _ rfl; (with_reducible repeat (first | refine zD ?_ _ | refine zC ?_ | refine zB ?_ _)); exact BK246.out))⟩; have n2_ : zA (Below w.heap.size w w25) := ⟨(by rw [hw]; exact (aL HB))⟩; clear hw; clear BK242; clear BK246; clear HB; have BK242 := n0_; have BK246 := n1_; have HB := n2_; clear n0_ n1_ n2_; obtain ⟨hcz26_0, hcz26_1, hcz26_2, hcz26_3, hfz26_0, hfz26_1, hfz26_2, hfz26_3⟩ := aC4 BK246))
     go_ret
     exact ⟨aX, aL HB⟩
    rw [if_neg c20] at H; have c20b0 : decide (((rd_T48 l0_0 x5_3).f1) < 1) = false := decide_eq_false c20
    clear c20; by_cases c27 : ((rd_T48 l0_0 x5_3).f1) > 4096
    ·rw [if_pos c27] at H
     have c27b0 : decide (4096 < ((rd_T48 l0_0 x5_3).f1)) = true := decide_eq_true c27
     clear c27; obtain rfl := Option.some.inj H
     obtain ⟨hcz28_0, hcz28_1, hfz28_0, hfz28_1⟩ := aC2 BK242; have p245 : 0 ≤ (x5_3 : Int) := aD
     have q245 : x5_3 < (l0_0.length : Int) := aD
     obtain ⟨ad245, e245, hx245_0, hx245_1, hx245_2, hx245_3⟩ := at_T48 HR0_0.out x5_3 p245 q245; cases e245
     replace hx245_0 := (HB.out.cell (World.block_lt_of_cell? w _ hx245_0)).trans hx245_0; replace hx245_1 := (HB.out.cell (World.block_lt_of_cell? w _ hx245_1)).trans hx245_1; replace hx245_2 := (HB.out.cell (World.block_lt_of_cell? w _ hx245_2)).trans hx245_2; replace hx245_3 := (HB.out.cell (World.block_lt_of_cell? w _ hx245_3)).trans hx245_3; replace p245 := eq_true p245; replace q245 := eq_true q245; go_wp2_with (first | ((with_reducible refine gate_dst (N := 6) rfl ?_); refine box_event ?hg (N := 6) ?hd (cs := #[.int .i64 0, .int .i64 0, .int .i64 0, .int .u8 0]) (t := 48) ?hr ?_; (case hd => rfl); (case hg => rfl); (case hr => first | (go_simp; done) | (go_simp; rfl)); intro gb246 hg w29 hbox hb; have BK246 := zA.mk (hbox); have GW246 := zA.mk ((by rw [hg]; exact (below_size (aL HB)) : w.heap.size ≤ gb246)); replace HB := zA.mk (below_step (aL HB) hb); have GE246 := GW246; have NB242_246 := zA.mk ((by rw [hg]; exact Nat.ne_of_lt (blk_lt (aB BK242)) : gb242 ≠ gb246)); have NB246_242 := zA.mk ((by rw [hg]; exact Nat.ne_of_gt (blk_lt (g := gb242) (o := .cells #[.slice (some ad245) l0_0.length c0_0, .slice A0_1 l0_1.length c0_1] 60 (0, 0)) (aB BK242)) : gb246 ≠ gb242)); replace BK242 := zA.mk (blk_below (aB BK242) hb); clear hb hbox hg; have hnb30 := NB246_242.out; have hnc30 := NB242_246.out; obtain ⟨hcz31_0, hcz31_1, hcz31_2, hcz31_3, hfz31_0, hfz31_1, hfz31_2, hfz31_3⟩ := aC4 BK246) | ((with_reducible refine gate_store (t := 48) (p := 6) rfl ?_); refine store_event (t := 48) (p := 6) (v := ?vo_w32) (w1 := ((((w29.setCell ⟨gb246, 0, none⟩ (.int .i64 ((rd_T48 l0_0 x5_3).f0))).setCell ⟨gb246, 1, none⟩ (.int .i64 ((rd_T48 l0_0 x5_3).f1))).setCell ⟨gb246, 2, none⟩ (.int .i64 ((rd_T48 l0_0 x5_3).f2))).setCell ⟨gb246, 3, none⟩ (.int .u8 ((rd_T48 l0_0 x5_3).f3)))) ?hg ?ho ?hn ?hr ?_; (case ho => rfl); (case hg => rfl); (case hn => rfl); (case hr => first | (go_simp; done) | (go_simp; rfl)); intro w32 hw; have n0_ : zA (w32.heap[gb242]? = some (.cells #[.slice (some ad245) l0_0.length c0_0, .slice A0_1 l0_1.length c0_1] 60 (0, 0))) := ⟨(by rw [hw]; exact (aB BK242))⟩; have n1_ : zA (w32.heap[gb246]? = some (.cells #[.int .i64 ((rd_T48 l0_0 x5_3).f0), .int .i64 ((rd_T48 l0_0 x5_3).f1), .int .i64 ((rd_T48 l0_0 x5_3).f2), .int .u8 ((rd_T48 l0_0 x5_3).f3)] 48 (0, 0))) := ⟨(by rw [hw]; exact (by (with_reducible repeat (first | refine zD ?_ _ | refine zC ?_ | refine zB ?_ _)); refine blk_put (cs := #[.int .i64 ((rd_T48 l0_0 x5_3).f0), .int .i64 ((rd_T48 l0_0 x5_3).f1), .int .i64 ((rd_T48 l0_0 x5_3).f2), .int .u8 0]) ?_ 3 _ rfl; (with_reducible repeat (first | refine zD ?_ _ | refine zC ?_ | refine zB ?_ _)); refine blk_put (cs := #[.int .i64 ((rd_T48 l0_0 x5_3).f0), .int .i64 ((rd_T48 l0_0 x5_3).f1), .int .i64 0, .int .u8 0]) ?_ 2 _ rfl; (with_reducible repeat (first | refine zD ?_ _ | refine zC ?_ | refine zB ?_ _)); refine blk_put (cs := #[.int .i64 ((rd_T48 l0_0 x5_3).f0), .int .i64 0, .int .i64 0, .int .u8 0]) ?_ 1 _ rfl; (with_reducible repeat (first | refine zD ?_ _ | refine zC ?_ | refine zB ?_ _)); refine blk_put (cs := #[.int .i64 0, .int .i64 0, .int .i64 0, .int .u8 0]) ?_ 0 _ rfl; (with_reducible repeat (first | refine zD ?_ _ | refine zC ?_ | refine zB ?_ _)); exact BK246.out))⟩; have n2_ : zA (Below w.heap.size w w32) := ⟨(by rw [hw]; exact (aL HB))⟩; clear hw; clear BK242; clear BK246; clear HB; have BK242 := n0_; have BK246 := n1_; have HB := n2_; clear n0_ n1_ n2_; obtain ⟨hcz33_0, hcz33_1, hcz33_2, hcz33_3, hfz33_0, hfz33_1, hfz33_2, hfz33_3⟩ := aC4 BK246))
     go_ret
     exact ⟨aX, aL HB⟩
    rw [if_neg c27] at H; have c27b0 : decide (4096 < ((rd_T48 l0_0 x5_3).f1)) = false := decide_eq_false c27
    clear c27; by_cases c34 : (wrap64 (x4_3 + ((rd_T48 l0_0 x5_3).f1))) > 4096
    ·rw [if_pos c34] at H
     have c34b0 : decide (4096 < (wrap64 (x4_3 + ((rd_T48 l0_0 x5_3).f1)))) = true := decide_eq_true c34
     clear c34; obtain rfl := Option.some.inj H
     obtain ⟨hcz35_0, hcz35_1, hfz35_0, hfz35_1⟩ := aC2 BK242; have p245 : 0 ≤ (x5_3 : Int) := aD
     have q245 : x5_3 < (l0_0.length : Int) := aD
     obtain ⟨ad245, e245, hx245_0, hx245_1, hx245_2, hx245_3⟩ := at_T48 HR0_0.out x5_3 p245 q245; cases e245
     replace hx245_0 := (HB.out.cell (World.block_lt_of_cell? w _ hx245_0)).trans hx245_0; replace hx245_1 := (HB.out.cell (World.block_lt_of_cell? w _ hx245_1)).trans hx245_1; replace hx245_2 := (HB.out.cell (World.block_lt_of_cell? w _ hx245_2)).trans hx245_2; replace hx245_3 := (HB.out.cell (World.block_lt_of_cell? w _ hx245_3)).trans hx245_3; replace p245 := eq_true p245; replace q245 := eq_true q245; go_wp2_with (first | ((with_reducible refine gate_dst (N := 6) rfl ?_); refine box_event ?hg (N := 6) ?hd (cs := #[.int .i64 0, .int .i64 0, .int .i64 0, .int .u8 0]) (t := 48) ?hr ?_; (case hd => rfl); (case hg => rfl); (case hr => first | (go_simp; done) | (go_simp; rfl)); intro gb246 hg w36 hbox hb; have BK246 := zA.mk (hbox); have GW246 := zA.mk ((by rw [hg]; exact (below_size (aL HB)) : w.heap.size ≤ gb246)); replace HB := zA.mk (below_step (aL HB) hb); have GE246 := GW246; have NB242_246 := zA.mk ((by rw [hg]; exact Nat.ne_of_lt (blk_lt (aB BK242)) : gb242 ≠ gb246)); have NB246_242 := zA.mk ((by rw [hg]; exact Nat.ne_of_gt (blk_lt (g := gb242) (o := .cells #[.slice (some ad245) l0_0.length c0_0, .slice A0_1 l0_1.length c0_1] 60 (0, 0)) (aB BK242)) : gb246 ≠ gb242)); replace BK242 := zA.mk (blk_below (aB BK242) hb); clear hb hbox hg; have hnb37 := NB246_242.out; have hnc37 := NB242_246.out; obtain ⟨hcz38_0, hcz38_1, hcz38_2, hcz38_3, hfz38_0, hfz38_1, hfz38_2, hfz38_3⟩ := aC4 BK246) | ((with_reducible refine gate_store (t := 48) (p := 6) rfl ?_); refine store_event (t := 48) (p := 6) (v := ?vo_w39) (w1 := ((((w36.setCell ⟨gb246, 0, none⟩ (.int .i64 ((rd_T48 l0_0 x5_3).f0))).setCell ⟨gb246, 1, none⟩ (.int .i64 ((rd_T48 l0_0 x5_3).f1))).setCell ⟨gb246, 2, none⟩ (.int .i64 ((rd_T48 l0_0 x5_3).f2))).setCell ⟨gb246, 3, none⟩ (.int .u8 ((rd_T48 l0_0 x5_3).f3)))) ?hg ?ho ?hn ?hr ?_; (case ho => rfl); (case hg => rfl); (case hn => rfl); (case hr => first | (go_simp; done) | (go_simp; rfl)); intro w39 hw; have n0_ : zA (w39.heap[gb242]? = some (.cells #[.slice (some ad245) l0_0.length c0_0, .slice A0_1 l0_1.length c0_1] 60 (0, 0))) := ⟨(by rw [hw]; exact (aB BK242))⟩; have n1_ : zA (w39.heap[gb246]? = some (.cells #[.int .i64 ((rd_T48 l0_0 x5_3).f0), .int .i64 ((rd_T48 l0_0 x5_3).f1), .int .i64 ((rd_T48 l0_0 x5_3).f2), .int .u8 ((rd_T48 l0_0 x5_3).f3)] 48 (0, 0))) := ⟨(by rw [hw]; exact (by (with_reducible repeat (first | refine zD ?_ _ | refine zC ?_ | refine zB ?_ _)); refine blk_put (cs := #[.int .i64 ((rd_T48 l0_0 x5_3).f0), .int .i64 ((rd_T48 l0_0 x5_3).f1), .int .i64 ((rd_T48 l0_0 x5_3).f2), .int .u8 0]) ?_ 3 _ rfl; (with_reducible repeat (first | refine zD ?_ _ | refine zC ?_ | refine zB ?_ _)); refine blk_put (cs := #[.int .i64 ((rd_T48 l0_0 x5_3).f0), .int .i64 ((rd_T48 l0_0 x5_3).f1), .int .i64 0, .int .u8 0]) ?_ 2 _ rfl; (with_reducible repeat (first | refine zD ?_ _ | refine zC ?_ | refine zB ?_ _)); refine blk_put (cs := #[.int .i64 ((rd_T48 l0_0 x5_3).f0), .int .i64 0, .int .i64 0, .int .u8 0]) ?_ 1 _ rfl; (with_reducible repeat (first | refine zD ?_ _ | refine zC ?_ | refine zB ?_ _)); refine blk_put (cs := #[.int .i64 0, .int .i64 0, .int .i64 0, .int .u8 0]) ?_ 0 _ rfl; (with_reducible repeat (first | refine zD ?_ _ | refine zC ?_ | refine zB ?_ _)); exact BK246.out))⟩; have n2_ : zA (Below w.heap.size w w39) := ⟨(by rw [hw]; exact (aL HB))⟩; clear hw; clear BK242; clear BK246; clear HB; have BK242 := n0_; have BK246 := n1_; have HB := n2_; clear n0_ n1_ n2_; obtain ⟨hcz40_0, hcz40_1, hcz40_2, hcz40_3, hfz40_0, hfz40_1, hfz40_2, hfz40_3⟩ := aC4 BK246))
     go_ret
     exact ⟨aX, aL HB⟩
    rw [if_neg c34] at H; have c34b0 : decide (4096 < (wrap64 (x4_3 + ((rd_T48 l0_0 x5_3).f1)))) = false := decide_eq_false c34
    clear c34; by_cases c41 : ((rd_T48 l0_0 x5_3).f2) < 0
    ·rw [if_pos c41] at H
     have c41b0 : decide (((rd_T48 l0_0 x5_3).f2) < 0) = true := decide_eq_true c41
     clear c41; obtain rfl := Option.some.inj H
     obtain ⟨hcz42_0, hcz42_1, hfz42_0, hfz42_1⟩ := aC2 BK242; have p245 : 0 ≤ (x5_3 : Int) := aD
     have q245 : x5_3 < (l0_0.length : Int) := aD
     obtain ⟨ad245, e245, hx245_0, hx245_1, hx245_2, hx245_3⟩ := at_T48 HR0_0.out x5_3 p245 q245; cases e245
     replace hx245_0 := (HB.out.cell (World.block_lt_of_cell? w _ hx245_0)).trans hx245_0; replace hx245_1 := (HB.out.cell (World.block_lt_of_cell? w _ hx245_1)).trans hx245_1; replace hx245_2 := (HB.out.cell (World.block_lt_of_cell? w _ hx245_2)).trans hx245_2; replace hx245_3 := (HB.out.cell (World.block_lt_of_cell? w _ hx245_3)).trans hx245_3; replace p245 := eq_true p245; replace q245 := eq_true q245; go_wp2_with (first | ((with_reducible refine gate_dst (N := 6) rfl ?_); refine box_event ?hg (N := 6) ?hd (cs := #[.int .i64 0, .int .i64 0, .int .i64 0, .int .u8 0]) (t := 48) ?hr ?_; (case hd => rfl); (case hg => rfl); (case hr => first | (go_simp; done) | (go_simp; rfl)); intro gb246 hg w43 hbox hb; have BK246 := zA.mk (hbox); have GW246 := zA.mk ((by rw [hg]; exact (below_size (aL HB)) : w.heap.size ≤ gb246)); replace HB := zA.mk (below_step (aL HB) hb); have GE246 := GW246; have NB242_246 := zA.mk ((by rw [hg]; exact Nat.ne_of_lt (blk_lt (aB BK242)) : gb242 ≠ gb246)); have NB246_242 := zA.mk ((by rw [hg]; exact Nat.ne_of_gt (blk_lt (g := gb242) (o := .cells #[.slice (some ad245) l0_0.length c0_0, .slice A0_1 l0_1.length c0_1] 60 (0, 0)) (aB BK242)) : gb246 ≠ gb242)); replace BK242 := zA.mk (blk_below (aB BK242) hb); clear hb hbox hg; have hnb44 := NB246_242.out; have hnc44 := NB242_246.out; obtain ⟨hcz45_0, hcz45_1, hcz45_2, hcz45_3, hfz45_0, hfz45_1, hfz45_2, hfz45_3⟩ := aC4 BK246) | ((with_reducible refine gate_store (t := 48) (p := 6) rfl ?_); refine store_event (t := 48) (p := 6) (v := ?vo_w46) (w1 := ((((w43.setCell ⟨gb246, 0, none⟩ (.int .i64 ((rd_T48 l0_0 x5_3).f0))).setCell ⟨gb246, 1, none⟩ (.int .i64 ((rd_T48 l0_0 x5_3).f1))).setCell ⟨gb246, 2, none⟩ (.int .i64 ((rd_T48 l0_0 x5_3).f2))).setCell ⟨gb246, 3, none⟩ (.int .u8 ((rd_T48 l0_0 x5_3).f3)))) ?hg ?ho ?hn ?hr ?_; (case ho => rfl); (case hg => rfl); (case hn => rfl); (case hr => first | (go_simp; done) | (go_simp; rfl)); intro w46 hw; have n0_ : zA (w46.heap[gb242]? = some (.cells #[.slice (some ad245) l0_0.length c0_0, .slice A0_1 l0_1.length c0_1] 60 (0, 0))) := ⟨(by rw [hw]; exact (aB BK242))⟩; have n1_ : zA (w46.heap[gb246]? = some (.cells #[.int .i64 ((rd_T48 l0_0 x5_3).f0), .int .i64 ((rd_T48 l0_0 x5_3).f1), .int .i64 ((rd_T48 l0_0 x5_3).f2), .int .u8 ((rd_T48 l0_0 x5_3).f3)] 48 (0, 0))) := ⟨(by rw [hw]; exact (by (with_reducible repeat (first | refine zD ?_ _ | refine zC ?_ | refine zB ?_ _)); refine blk_put (cs := #[.int .i64 ((rd_T48 l0_0 x5_3).f0), .int .i64 ((rd_T48 l0_0 x5_3).f1), .int .i64 ((rd_T48 l0_0 x5_3).f2), .int .u8 0]) ?_ 3 _ rfl; (with_reducible repeat (first | refine zD ?_ _ | refine zC ?_ | refine zB ?_ _)); refine blk_put (cs := #[.int .i64 ((rd_T48 l0_0 x5_3).f0), .int .i64 ((rd_T48 l0_0 x5_3).f1), .int .i64 0, .int .u8 0]) ?_ 2 _ rfl; (with_reducible repeat (first | refine zD ?_ _ | refine zC ?_ | refine zB ?_ _)); refine blk_put (cs := #[.int .i64 ((rd_T48 l0_0 x5_3).f0), .int .i64 0, .int .i64 0, .int .u8 0]) ?_ 1 _ rfl; (with_reducible repeat (first | refine zD ?_ _ | refine zC ?_ | refine zB ?_ _)); refine blk_put (cs := #[.int .i64 0, .int .i64 0, .int .i64 0, .int .u8 0]) ?_ 0 _ rfl; (with_reducible repeat (first | refine zD ?_ _ | refine zC ?_ | refine zB ?_ _)); exact BK246.out))⟩; have n2_ : zA (Below w.heap.size w w46) := ⟨(by rw [hw]; exact (aL HB))⟩; clear hw; clear BK242; clear BK246; clear HB; have BK242 := n0_; have BK246 := n1_; have HB := n2_; clear n0_ n1_ n2_; obtain ⟨hcz47_0, hcz47_1, hcz47_2, hcz47_3, hfz47_0, hfz47_1, hfz47_2, hfz47_3⟩ := aC4 BK246))
     go_ret
     exact ⟨aX, aL HB⟩
    rw [if_neg c41] at H; have c41b0 : decide (((rd_T48 l0_0 x5_3).f2) < 0) = false := decide_eq_false c41
    clear c41; by_cases c48 : ((rd_T48 l0_0 x5_3).f2) > 2
    ·rw [if_pos c48] at H
     have c48b0 : decide (2 < ((rd_T48 l0_0 x5_3).f2)) = true := decide_eq_true c48
     clear c48; obtain rfl := Option.some.inj H
     obtain ⟨hcz49_0, hcz49_1, hfz49_0, hfz49_1⟩ := aC2 BK242; have p245 : 0 ≤ (x5_3 : Int) := aD
     have q245 : x5_3 < (l0_0.length : Int) := aD
     obtain ⟨ad245, e245, hx245_0, hx245_1, hx245_2, hx245_3⟩ := at_T48 HR0_0.out x5_3 p245 q245; cases e245
     replace hx245_0 := (HB.out.cell (World.block_lt_of_cell? w _ hx245_0)).trans hx245_0; replace hx245_1 := (HB.out.cell (World.block_lt_of_cell? w _ hx245_1)).trans hx245_1; replace hx245_2 := (HB.out.cell (World.block_lt_of_cell? w _ hx245_2)).trans hx245_2; replace hx245_3 := (HB.out.cell (World.block_lt_of_cell? w _ hx245_3)).trans hx245_3; replace p245 := eq_true p245; replace q245 := eq_true q245; go_wp2_with (first | ((with_reducible refine gate_dst (N := 6) rfl ?_); refine box_event ?hg (N := 6) ?hd (cs := #[.int .i64 0, .int .i64 0, .int .i64 0, .int .u8 0]) (t := 48) ?hr ?_; (case hd => rfl); (case hg => rfl); (case hr => first | (go_simp; done) | (go_simp; rfl)); intro gb246 hg w50 hbox hb; have BK246 := zA.mk (hbox); have GW246 := zA.mk ((by rw [hg]; exact (below_size (aL HB)) : w.heap.size ≤ gb246)); replace HB := zA.mk (below_step (aL HB) hb); have GE246 := GW246; have NB242_246 := zA.mk ((by rw [hg]; exact Nat.ne_of_lt (blk_lt (aB BK242)) : gb242 ≠ gb246)); have NB246_242 := zA.mk ((by rw [hg]; exact Nat.ne_of_gt (blk_lt (g := gb242) (o := .cells #[.slice (some ad245) l0_0.length c0_0, .slice A0_1 l0_1.length c0_1] 60 (0, 0)) (aB BK242)) : gb246 ≠ gb242)); replace BK242 := zA.mk (blk_below (aB BK242) hb); clear hb hbox hg; have hnb51 := NB246_242.out; have hnc51 := NB242_246.out; obtain ⟨hcz52_0, hcz52_1, hcz52_2, hcz52_3, hfz52_0, hfz52_1, hfz52_2, hfz52_3⟩ := aC4 BK246) | ((with_reducible refine gate_store (t := 48) (p := 6) rfl ?_); refine store_event (t := 48) (p := 6) (v := ?vo_w53) (w1 := ((((w50.setCell ⟨gb246, 0, none⟩ (.int .i64 ((rd_T48 l0_0 x5_3).f0))).setCell ⟨gb246, 1, none⟩ (.int .i64 ((rd_T48 l0_0 x5_3).f1))).setCell ⟨gb246, 2, none⟩ (.int .i64 ((rd_T48 l0_0 x5_3).f2))).setCell ⟨gb246, 3, none⟩ (.int .u8 ((rd_T48 l0_0 x5_3).f3)))) ?hg ?ho ?hn ?hr ?_; (case ho => rfl); (case hg => rfl); (case hn => rfl); (case hr => first | (go_simp; done) | (go_simp; rfl)); intro w53 hw; have n0_ : zA (w53.heap[gb242]? = some (.cells #[.slice (some ad245) l0_0.length c0_0, .slice A0_1 l0_1.length c0_1] 60 (0, 0))) := ⟨(by rw [hw]; exact (aB BK242))⟩; have n1_ : zA (w53.heap[gb246]? = some (.cells #[.int .i64 ((rd_T48 l0_0 x5_3).f0), .int .i64 ((rd_T48 l0_0 x5_3).f1), .int .i64 ((rd_T48 l0_0 x5_3).f2), .int .u8 ((rd_T48 l0_0 x5_3).f3)] 48 (0, 0))) := ⟨(by rw [hw]; exact (by (with_reducible repeat (first | refine zD ?_ _ | refine zC ?_ | refine zB ?_ _)); refine blk_put (cs := #[.int .i64 ((rd_T48 l0_0 x5_3).f0), .int .i64 ((rd_T48 l0_0 x5_3).f1), .int .i64 ((rd_T48 l0_0 x5_3).f2), .int .u8 0]) ?_ 3 _ rfl; (with_reducible repeat (first | refine zD ?_ _ | refine zC ?_ | refine zB ?_ _)); refine blk_put (cs := #[.int .i64 ((rd_T48 l0_0 x5_3).f0), .int .i64 ((rd_T48 l0_0 x5_3).f1), .int .i64 0, .int .u8 0]) ?_ 2 _ rfl; (with_reducible repeat (first | refine zD ?_ _ | refine zC ?_ | refine zB ?_ _)); refine blk_put (cs := #[.int .i64 ((rd_T48 l0_0 x5_3).f0), .int .i64 0, .int .i64 0, .int .u8 0]) ?_ 1 _ rfl; (with_reducible repeat (first | refine zD ?_ _ | refine zC ?_ | refine zB ?_ _)); refine blk_put (cs := #[.int .i64 0, .int .i64 0, .int .i64 0, .int .u8 0]) ?_ 0 _ rfl; (with_reducible repeat (first | refine zD ?_ _ | refine zC ?_ | refine zB ?_ _)); exact BK246.out))⟩; have n2_ : zA (Below w.heap.size w w53) := ⟨(by rw [hw]; exact (aL HB))⟩; clear hw; clear BK242; clear BK246; clear HB; have BK242 := n0_; have BK246 := n1_; have HB := n2_; clear n0_ n1_ n2_; obtain ⟨hcz54_0, hcz54_1, hcz54_2, hcz54_3, hfz54_0, hfz54_1, hfz54_2, hfz54_3⟩ := aC4 BK246))
     go_ret
     exact ⟨aX, aL HB⟩
    rw [if_neg c48] at H; have c48b0 : decide (2 < ((rd_T48 l0_0 x5_3).f2)) = false := decide_eq_false c48
    clear c48; by_cases c55 : ((rd_T48 l0_0 x5_3).f3) > 2
    ·rw [if_pos c55] at H
     have c55b0 : decide (2 < ((rd_T48 l0_0 x5_3).f3)) = true := decide_eq_true c55
     clear c55; obtain rfl := Option.some.inj H
     obtain ⟨hcz56_0, hcz56_1, hfz56_0, hfz56_1⟩ := aC2 BK242; have p245 : 0 ≤ (x5_3 : Int) := aD
     have q245 : x5_3 < (l0_0.length : Int) := aD
     obtain ⟨ad245, e245, hx245_0, hx245_1, hx245_2, hx245_3⟩ := at_T48 HR0_0.out x5_3 p245 q245; cases e245
     replace hx245_0 := (HB.out.cell (World.block_lt_of_cell? w _ hx245_0)).trans hx245_0; replace hx245_1 := (HB.out.cell (World.block_lt_of_cell? w _ hx245_1)).trans hx245_1; replace hx245_2 := (HB.out.cell (World.block_lt_of_cell? w _ hx245_2)).trans hx245_2; replace hx245_3 := (HB.out.cell (World.block_lt_of_cell? w _ hx245_3)).trans hx245_3; replace p245 := eq_true p245; replace q245 := eq_true q245; go_wp2_with (first | ((with_reducible refine gate_dst (N := 6) rfl ?_); refine box_event ?hg (N := 6) ?hd (cs := #[.int .i64 0, .int .i64 0, .int .i64 0, .int .u8 0]) (t := 48) ?hr ?_; (case hd => rfl); (case hg => rfl); (case hr => first | (go_simp; done) | (go_simp; rfl)); intro gb246 hg w57 hbox hb; have BK246 := zA.mk (hbox); have GW246 := zA.mk ((by rw [hg]; exact (below_size (aL HB)) : w.heap.size ≤ gb246)); replace HB := zA.mk (below_step (aL HB) hb); have GE246 := GW246; have NB242_246 := zA.mk ((by rw [hg]; exact Nat.ne_of_lt (blk_lt (aB BK242)) : gb242 ≠ gb246)); have NB246_242 := zA.mk ((by rw [hg]; exact Nat.ne_of_gt (blk_lt (g := gb242) (o := .cells #[.slice (some ad245) l0_0.length c0_0, .slice A0_1 l0_1.length c0_1] 60 (0, 0)) (aB BK242)) : gb246 ≠ gb242)); replace BK242 := zA.mk (blk_below (aB BK242) hb); clear hb hbox hg; have hnb58 := NB246_242.out; have hnc58 := NB242_246.out; obtain ⟨hcz59_0, hcz59_1, hcz59_2, hcz59_3, hfz59_0, hfz59_1, hfz59_2, hfz59_3⟩ := aC4 BK246) | ((with_reducible refine gate_store (t := 48) (p := 6) rfl ?_); refine store_event (t := 48) (p := 6) (v := ?vo_w60) (w1 := ((((w57.setCell ⟨gb246, 0, none⟩ (.int .i64 ((rd_T48 l0_0 x5_3).f0))).setCell ⟨gb246, 1, none⟩ (.int .i64 ((rd_T48 l0_0 x5_3).f1))).setCell ⟨gb246, 2, none⟩ (.int .i64 ((rd_T48 l0_0 x5_3).f2))).setCell ⟨gb246, 3, none⟩ (.int .u8 ((rd_T48 l0_0 x5_3).f3)))) ?hg ?ho ?hn ?hr ?_; (case ho => rfl); (case hg => rfl); (case hn => rfl); (case hr => first | (go_simp; done) | (go_simp; rfl)); intro w60 hw; have n0_ : zA (w60.heap[gb242]? = some (.cells #[.slice (some ad245) l0_0.length c0_0, .slice A0_1 l0_1.length c0_1] 60 (0, 0))) := ⟨(by rw [hw]; exact (aB BK242))⟩; have n1_ : zA (w60.heap[gb246]? = some (.cells #[.int .i64 ((rd_T48 l0_0 x5_3).f0), .int .i64 ((rd_T48 l0_0 x5_3).f1), .int .i64 ((rd_T48 l0_0 x5_3).f2), .int .u8 ((rd_T48 l0_0 x5_3).f3)] 48 (0, 0))) := ⟨(by rw [hw]; exact (by (with_reducible repeat (first | refine zD ?_ _ | refine zC ?_ | refine zB ?_ _)); refine blk_put (cs := #[.int .i64 ((rd_T48 l0_0 x5_3).f0), .int .i64 ((rd_T48 l0_0 x5_3).f1), .int .i64 ((rd_T48 l0_0 x5_3).f2), .int .u8 0]) ?_ 3 _ rfl; (with_reducible repeat (first | refine zD ?_ _ | refine zC ?_ | refine zB ?_ _)); refine blk_put (cs := #[.int .i64 ((rd_T48 l0_0 x5_3).f0), .int .i64 ((rd_T48 l0_0 x5_3).f1), .int .i64 0, .int .u8 0]) ?_ 2 _ rfl; (with_reducible repeat (first | refine zD ?_ _ | refine zC ?_ | refine zB ?_ _)); refine blk_put (cs := #[.int .i64 ((rd_T48 l0_0 x5_3).f0), .int .i64 0, .int .i64 0, .int .u8 0]) ?_ 1 _ rfl; (with_reducible repeat (first | refine zD ?_ _ | refine zC ?_ | refine zB ?_ _)); refine blk_put (cs := #[.int .i64 0, .int .i64 0, .int .i64 0, .int .u8 0]) ?_ 0 _ rfl; (with_reducible repeat (first | refine zD ?_ _ | refine zC ?_ | refine zB ?_ _)); exact BK246.out))⟩; have n2_ : zA (Below w.heap.size w w60) := ⟨(by rw [hw]; exact (aL HB))⟩; clear hw; clear BK242; clear BK246; clear HB; have BK242 := n0_; have BK246 := n1_; have HB := n2_; clear n0_ n1_ n2_; obtain ⟨hcz61_0, hcz61_1, hcz61_2, hcz61_3, hfz61_0, hfz61_1, hfz61_2, hfz61_3⟩ := aC4 BK246))
     go_ret
     exact ⟨aX, aL HB⟩
    rw [if_neg c55] at H; have c55b0 : decide (2 < ((rd_T48 l0_0 x5_3).f3)) = false := decide_eq_false c55
    clear c55; by_cases c62 : x5_3 < (l0_1.length : Int)
    rotate_left
    ·rw [if_neg c62] at H
     exact absurd H (by simp)
    rw [if_pos c62] at H; have c62b0 : decide (x5_3 < (l0_1.length : Int)) = true := decide_eq_true c62
    clear c62; by_cases c63 : (rd l0_1 x5_3) > 3
    ·rw [if_pos c63] at H
     have c63b0 : decide (3 < (rd l0_1 x5_3)) = true := decide_eq_true c63
     clear c63; obtain rfl := Option.some.inj H
     obtain ⟨hcz64_0, hcz64_1, hfz64_0, hfz64_1⟩ := aC2 BK242; have p245 : 0 ≤ (x5_3 : Int) := aD
     have q245 : x5_3 < (l0_0.length : Int) := aD
     obtain ⟨ad245, e245, hx245_0, hx245_1, hx245_2, hx245_3⟩ := at_T48 HR0_0.out x5_3 p245 q245; cases e245
     replace hx245_0 := (HB.out.cell (World.block_lt_of_cell? w _ hx245_0)).trans hx245_0; replace hx245_1 := (HB.out.cell (World.block_lt_of_cell? w _ hx245_1)).trans hx245_1; replace hx245_2 := (HB.out.cell (World.block_lt_of_cell? w _ hx245_2)).trans hx245_2; replace hx245_3 := (HB.out.cell (World.block_lt_of_cell? w _ hx245_3)).trans hx245_3; replace p245 := eq_true p245; replace q245 := eq_true q245; go_wp2_with (first | ((with_reducible refine gate_dst (N := 6) rfl ?_); refine box_event ?hg (N := 6) ?hd (cs := #[.int .i64 0, .int .i64 0, .int .i64 0, .int .u8 0]) (t := 48) ?hr ?_; (case hd => rfl); (case hg => rfl); (case hr => first | (go_simp; done) | (go_simp; rfl)); intro gb246 hg w65 hbox hb; have BK246 := zA.mk (hbox); have GW246 := zA.mk ((by rw [hg]; exact (below_size (aL HB)) : w.heap.size ≤ gb246)); replace HB := zA.mk (below_step (aL HB) hb); have GE246 := GW246; have NB242_246 := zA.mk ((by rw [hg]; exact Nat.ne_of_lt (blk_lt (aB BK242)) : gb242 ≠ gb246)); have NB246_242 := zA.mk ((by rw [hg]; exact Nat.ne_of_gt (blk_lt (g := gb242) (o := .cells #[.slice (some ad245) l0_0.length c0_0, .slice A0_1 l0_1.length c0_1] 60 (0, 0)) (aB BK242)) : gb246 ≠ gb242)); replace BK242 := zA.mk (blk_below (aB BK242) hb); clear hb hbox hg; have hnb66 := NB246_242.out; have hnc66 := NB242_246.out; obtain ⟨hcz67_0, hcz67_1, hcz67_2, hcz67_3, hfz67_0, hfz67_1, hfz67_2, hfz67_3⟩ := aC4 BK246) | ((with_reducible refine gate_store (t := 48) (p := 6) rfl ?_); refine store_event (t := 48) (p := 6) (v := ?vo_w68) (w1 := ((((w65.setCell ⟨gb246, 0, none⟩ (.int .i64 ((rd_T48 l0_0 x5_3).f0))).setCell ⟨gb246, 1, none⟩ (.int .i64 ((rd_T48 l0_0 x5_3).f1))).setCell ⟨gb246, 2, none⟩ (.int .i64 ((rd_T48 l0_0 x5_3).f2))).setCell ⟨gb246, 3, none⟩ (.int .u8 ((rd_T48 l0_0 x5_3).f3)))) ?hg ?ho ?hn ?hr ?_; (case ho => rfl); (case hg => rfl); (case hn => rfl); (case hr => first | (go_simp; done) | (go_simp; rfl)); intro w68 hw; have n0_ : zA (w68.heap[gb242]? = some (.cells #[.slice (some ad245) l0_0.length c0_0, .slice A0_1 l0_1.length c0_1] 60 (0, 0))) := ⟨(by rw [hw]; exact (aB BK242))⟩; have n1_ : zA (w68.heap[gb246]? = some (.cells #[.int .i64 ((rd_T48 l0_0 x5_3).f0), .int .i64 ((rd_T48 l0_0 x5_3).f1), .int .i64 ((rd_T48 l0_0 x5_3).f2), .int .u8 ((rd_T48 l0_0 x5_3).f3)] 48 (0, 0))) := ⟨(by rw [hw]; exact (by (with_reducible repeat (first | refine zD ?_ _ | refine zC ?_ | refine zB ?_ _)); refine blk_put (cs := #[.int .i64 ((rd_T48 l0_0 x5_3).f0), .int .i64 ((rd_T48 l0_0 x5_3).f1), .int .i64 ((rd_T48 l0_0 x5_3).f2), .int .u8 0]) ?_ 3 _ rfl; (with_reducible repeat (first | refine zD ?_ _ | refine zC ?_ | refine zB ?_ _)); refine blk_put (cs := #[.int .i64 ((rd_T48 l0_0 x5_3).f0), .int .i64 ((rd_T48 l0_0 x5_3).f1), .int .i64 0, .int .u8 0]) ?_ 2 _ rfl; (with_reducible repeat (first | refine zD ?_ _ | refine zC ?_ | refine zB ?_ _)); refine blk_put (cs := #[.int .i64 ((rd_T48 l0_0 x5_3).f0), .int .i64 0, .int .i64 0, .int .u8 0]) ?_ 1 _ rfl; (with_reducible repeat (first | refine zD ?_ _ | refine zC ?_ | refine zB ?_ _)); refine blk_put (cs := #[.int .i64 0, .int .i64 0, .int .i64 0, .int .u8 0]) ?_ 0 _ rfl; (with_reducible repeat (first | refine zD ?_ _ | refine zC ?_ | refine zB ?_ _)); exact BK246.out))⟩; have n2_ : zA (Below w.heap.size w w68) := ⟨(by rw [hw]; exact (aL HB))⟩; clear hw; clear BK242; clear BK246; clear HB; have BK242 := n0_; have BK246 := n1_; have HB := n2_; clear n0_ n1_ n2_; obtain ⟨hcz69_0, hcz69_1, hcz69_2, hcz69_3, hfz69_0, hfz69_1, hfz69_2, hfz69_3⟩ := aC4 BK246; obtain ⟨hcz70_0, hcz70_1, hfz70_0, hfz70_1⟩ := aC2 BK242; have p247 : 0 ≤ (x5_3 : Int) := aD; have q247 : x5_3 < (l0_1.length : Int) := aD; obtain ⟨ad247, e247, hx247_0⟩ := Kd.at_int HR0_1.out x5_3 p247 q247; cases e247; replace hx247_0 := (HB.out.cell (World.block_lt_of_cell? w _ hx247_0)).trans hx247_0; replace p247 := eq_true p247; replace q247 := eq_true q247))
     go_ret
     exact ⟨aX, aL HB⟩
    rw [if_neg c63] at H; have c63b0 : decide (3 < (rd l0_1 x5_3)) = false := decide_eq_false c63
    clear c63; have H' := zA.mk H
    clear H; obtain ⟨hcz71_0, hcz71_1, hfz71_0, hfz71_1⟩ := aC2 BK242; have p245 : 0 ≤ (x5_3 : Int) := aD
    have q245 : x5_3 < (l0_0.length : Int) := aD
    obtain ⟨ad245, e245, hx245_0, hx245_1, hx245_2, hx245_3⟩ := at_T48 HR0_0.out x5_3 p245 q245; cases e245
    replace hx245_0 := (HB.out.cell (World.block_lt_of_cell? w _ hx245_0)).trans hx245_0; replace hx245_1 := (HB.out.cell (World.block_lt_of_cell? w _ hx245_1)).trans hx245_1; replace hx245_2 := (HB.out.cell (World.block_lt_of_cell? w _ hx245_2)).trans hx245_2; replace hx245_3 := (HB.out.cell (World.block_lt_of_cell? w _ hx245_3)).trans hx245_3; replace p245 := eq_true p245; replace q245 := eq_true q245; go_wp2_with (first | ((with_reducible refine gate_dst (N := 6) rfl ?_); refine box_event ?hg (N := 6) ?hd (cs := #[.int .i64 0, .int .i64 0, .int .i64 0, .int .u8 0]) (t := 48) ?hr ?_; (case hd => rfl); (case hg => rfl); (case hr => first | (go_simp; done) | (go_simp; rfl)); intro gb246 hg w72 hbox hb; have BK246 := zA.mk (hbox); have GW246 := zA.mk ((by rw [hg]; exact (below_size (aL HB)) : w.heap.size ≤ gb246)); replace HB := zA.mk (below_step (aL HB) hb); have GE246 := GW246; have NB242_246 := zA.mk ((by rw [hg]; exact Nat.ne_of_lt (blk_lt (aB BK242)) : gb242 ≠ gb246)); have NB246_242 := zA.mk ((by rw [hg]; exact Nat.ne_of_gt (blk_lt (g := gb242) (o := .cells #[.slice (some ad245) l0_0.length c0_0, .slice A0_1 l0_1.length c0_1] 60 (0, 0)) (aB BK242)) : gb246 ≠ gb242)); replace BK242 := zA.mk (blk_below (aB BK242) hb); clear hb hbox hg; have hnb73 := NB246_242.out; have hnc73 := NB242_246.out; obtain ⟨hcz74_0, hcz74_1, hcz74_2, hcz74_3, hfz74_0, hfz74_1, hfz74_2, hfz74_3⟩ := aC4 BK246) | ((with_reducible refine gate_store (t := 48) (p := 6) rfl ?_); refine store_event (t := 48) (p := 6) (v := ?vo_w75) (w1 := ((((w72.setCell ⟨gb246, 0, none⟩ (.int .i64 ((rd_T48 l0_0 x5_3).f0))).setCell ⟨gb246, 1, none⟩ (.int .i64 ((rd_T48 l0_0 x5_3).f1))).setCell ⟨gb246, 2, none⟩ (.int .i64 ((rd_T48 l0_0 x5_3).f2))).setCell ⟨gb246, 3, none⟩ (.int .u8 ((rd_T48 l0_0 x5_3).f3)))) ?hg ?ho ?hn ?hr ?_; (case ho => rfl); (case hg => rfl); (case hn => rfl); (case hr => first | (go_simp; done) | (go_simp; rfl)); intro w75 hw; have n0_ : zA (w75.heap[gb242]? = some (.cells #[.slice (some ad245) l0_0.length c0_0, .slice A0_1 l0_1.length c0_1] 60 (0, 0))) := ⟨(by rw [hw]; exact (aB BK242))⟩; have n1_ : zA (w75.heap[gb246]? = some (.cells #[.int .i64 ((rd_T48 l0_0 x5_3).f0), .int .i64 ((rd_T48 l0_0 x5_3).f1), .int .i64 ((rd_T48 l0_0 x5_3).f2), .int .u8 ((rd_T48 l0_0 x5_3).f3)] 48 (0, 0))) := ⟨(by rw [hw]; exact (by (with_reducible repeat (first | refine zD ?_ _ | refine zC ?_ | refine zB ?_ _)); refine blk_put (cs := #[.int .i64 ((rd_T48 l0_0 x5_3).f0), .int .i64 ((rd_T48 l0_0 x5_3).f1), .int .i64 ((rd_T48 l0_0 x5_3).f2), .int .u8 0]) ?_ 3 _ rfl; (with_reducible repeat (first | refine zD ?_ _ | refine zC ?_ | refine zB ?_ _)); refine blk_put (cs := #[.int .i64 ((rd_T48 l0_0 x5_3).f0), .int .i64 ((rd_T48 l0_0 x5_3).f1), .int .i64 0, .int .u8 0]) ?_ 2 _ rfl; (with_reducible repeat (first | refine zD ?_ _ | refine zC ?_ | refine zB ?_ _)); refine blk_put (cs := #[.int .i64 ((rd_T48 l0_0 x5_3).f0), .int .i64 0, .int .i64 0, .int .u8 0]) ?_ 1 _ rfl; (with_reducible repeat (first | refine zD ?_ _ | refine zC ?_ | refine zB ?_ _)); refine blk_put (cs := #[.int .i64 0, .int .i64 0, .int .i64 0, .int .u8 0]) ?_ 0 _ rfl; (with_reducible repeat (first | refine zD ?_ _ | refine zC ?_ | refine zB ?_ _)); exact BK246.out))⟩; have n2_ : zA (Below w.heap.size w w75) := ⟨(by rw [hw]; exact (aL HB))⟩; clear hw; clear BK242; clear BK246; clear HB; have BK242 := n0_; have BK246 := n1_; have HB := n2_; clear n0_ n1_ n2_; obtain ⟨hcz76_0, hcz76_1, hcz76_2, hcz76_3, hfz76_0, hfz76_1, hfz76_2, hfz76_3⟩ := aC4 BK246; obtain ⟨hcz77_0, hcz77_1, hfz77_0, hfz77_1⟩ := aC2 BK242; have p247 : 0 ≤ (x5_3 : Int) := aD; have q247 : x5_3 < (l0_1.length : Int) := aD; obtain ⟨ad247, e247, hx247_0⟩ := Kd.at_int HR0_1.out x5_3 p247 q247; cases e247; replace hx247_0 := (HB.out.cell (World.block_lt_of_cell? w _ hx247_0)).trans hx247_0; replace p247 := eq_true p247; replace q247 := eq_true q247))
    go_roundg k3
    case measure => have := HJ1.out; have := HJ10.out; have := HK3.out; omega
    case rel => exact ⟨(wrap64 (x4_3 + ((rd_T48 l0_0 x5_3).f1))), (wrap64 (x5_3 + 1)), aZ, aZ, H', ⟨by have := HJ1.out; have := HJ10.out; have := HK3.out; omega⟩, ⟨aB BK242⟩, ⟨aL HB⟩⟩
mutual
def stanzalaw11_ItemsChecks.j0 : Nat → List (S48) → List Int → List (S90) → Int → Int → Int → Bool → Option (Bool)
 | 0, _, _, _, _, _, _, _ => none
 | k + 1, x0, x1, x2, x3, x4, x5, x31 => if x31 = true then (some true) else ((h3_Opps.f k x1).bind fun t249 => ((h3_Para.f k x2).bind fun bt253 => ((items_Check.f k bt253.1 bt253.2).bind fun t260 => (if t260 = true then ((items_Check.f k x0 t249).bind fun t261 => ((r0_Check.f k x0 t249).bind fun t262 => (stanzalaw11_ItemsChecks.j1 k x3 x4 x5 (t261 != t262) bt253.1 bt253.2))) else (stanzalaw11_ItemsChecks.j1 k x3 x4 x5 true bt253.1 bt253.2)))))
def stanzalaw11_ItemsChecks.j1 : Nat → Int → Int → Int → Bool → List (S48) → List Int → Option (Bool)
 | 0, _, _, _, _, _, _ => none
 | k + 1, x3, x4, x5, x47, x260000, x260001 => if x47 = true then (some false) else (if (x260000.length : Int) = 0 then (some true) else (if (IntKind.u64.wrap ((x260000.length : Int))) = 0 then (none) else (if 0 ≤ (wrap64 (Int.tmod (IntKind.u64.wrap (x3)) (IntKind.u64.wrap ((x260000.length : Int))))) then (if (wrap64 (Int.tmod (IntKind.u64.wrap (x3)) (IntKind.u64.wrap ((x260000.length : Int))))) < (x260000.length : Int) then (if (Int.tmod (IntKind.u64.wrap (x4)) 8) = 0 then ((some (x260000.set ((wrap64 (Int.tmod (IntKind.u64.wrap (x3)) (IntKind.u64.wrap ((x260000.length : Int))))) : Int).toNat (⟨x5, (rd_T48 x260000 (wrap64 (Int.tmod (IntKind.u64.wrap (x3)) (IntKind.u64.wrap ((x260000.length : Int)))))).f1, (rd_T48 x260000 (wrap64 (Int.tmod (IntKind.u64.wrap (x3)) (IntKind.u64.wrap ((x260000.length : Int)))))).f2, (rd_T48 x260000 (wrap64 (Int.tmod (IntKind.u64.wrap (x3)) (IntKind.u64.wrap ((x260000.length : Int)))))).f3⟩ : S48) : List (S48))).bind fun y264 => ((items_Check.f k y264 x260001).bind fun t265 => ((r0_Check.f k y264 x260001).bind fun t266 => (some (t265 == t266))))) else (if (Int.tmod (IntKind.u64.wrap (x4)) 8) = 1 then ((some (x260000.set ((wrap64 (Int.tmod (IntKind.u64.wrap (x3)) (IntKind.u64.wrap ((x260000.length : Int))))) : Int).toNat (⟨(rd_T48 x260000 (wrap64 (Int.tmod (IntKind.u64.wrap (x3)) (IntKind.u64.wrap ((x260000.length : Int)))))).f0, x5, (rd_T48 x260000 (wrap64 (Int.tmod (IntKind.u64.wrap (x3)) (IntKind.u64.wrap ((x260000.length : Int)))))).f2, (rd_T48 x260000 (wrap64 (Int.tmod (IntKind.u64.wrap (x3)) (IntKind.u64.wrap ((x260000.length : Int)))))).f3⟩ : S48) : List (S48))).bind fun y267 => ((items_Check.f k y267 x260001).bind fun t268 => ((r0_Check.f k y267 x260001).bind fun t269 => (some (t268 == t269))))) else (if (Int.tmod (IntKind.u64.wrap (x4)) 8) = 2 then ((some (x260000.set ((wrap64 (Int.tmod (IntKind.u64.wrap (x3)) (IntKind.u64.wrap ((x260000.length : Int))))) : Int).toNat (⟨(rd_T48 x260000 (wrap64 (Int.tmod (IntKind.u64.wrap (x3)) (IntKind.u64.wrap ((x260000.length : Int)))))).f0, (rd_T48 x260000 (wrap64 (Int.tmod (IntKind.u64.wrap (x3)) (IntKind.u64.wrap ((x260000.length : Int)))))).f1, x5, (rd_T48 x260000 (wrap64 (Int.tmod (IntKind.u64.wrap (x3)) (IntKind.u64.wrap ((x260000.length : Int)))))).f3⟩ : S48) : List (S48))).bind fun y270 => ((items_Check.f k y270 x260001).bind fun t271 => ((r0_Check.f k y270 x260001).bind fun t272 => (some (t271 == t272))))) else (if (Int.tmod (IntKind.u64.wrap (x4)) 8) = 3 then ((some (x260000.set ((wrap64 (Int.tmod (IntKind.u64.wrap (x3)) (IntKind.u64.wrap ((x260000.length : Int))))) : Int).toNat (⟨(rd_T48 x260000 (wrap64 (Int.tmod (IntKind.u64.wrap (x3)) (IntKind.u64.wrap ((x260000.length : Int)))))).f0, (rd_T48 x260000 (wrap64 (Int.tmod (IntKind.u64.wrap (x3)) (IntKind.u64.wrap ((x260000.length : Int)))))).f1, (rd_T48 x260000 (wrap64 (Int.tmod (IntKind.u64.wrap (x3)) (IntKind.u64.wrap ((x260000.length : Int)))))).f2, (x5) % 256⟩ : S48) : List (S48))).bind fun y273 => ((items_Check.f k y273 x260001).bind fun t274 => ((r0_Check.f k y273 x260001).bind fun t275 => (some (t274 == t275))))) else (if (Int.tmod (IntKind.u64.wrap (x4)) 8) = 4 then (if (wrap64 (Int.tmod (IntKind.u64.wrap (x3)) (IntKind.u64.wrap ((x260000.length : Int))))) < (x260001.length : Int) then ((some (x260001.set ((wrap64 (Int.tmod (IntKind.u64.wrap (x3)) (IntKind.u64.wrap ((x260000.length : Int))))) : Int).toNat ((x5) % 256) : List Int)).bind fun y276 => ((items_Check.f k x260000 y276).bind fun t277 => ((r0_Check.f k x260000 y276).bind fun t278 => (some (t277 == t278))))) else (none)) else (if (Int.tmod (IntKind.u64.wrap (x4)) 8) = 5 then (if 0 ≤ (wrap64 ((x260001.length : Int) - 1)) then (if (wrap64 ((x260001.length : Int) - 1)) < (x260001.length : Int) then ((some (x260001.set ((wrap64 ((x260001.length : Int) - 1)) : Int).toNat ((x5) % 256) : List Int)).bind fun y279 => ((items_Check.f k x260000 y279).bind fun t280 => ((r0_Check.f k x260000 y279).bind fun t281 => (some (t280 == t281))))) else (none)) else (none)) else (if (Int.tmod (IntKind.u64.wrap (x4)) 8) = 6 then (if 0 ≤ (wrap64 ((x260001.length : Int) - 1)) then (if (wrap64 ((x260001.length : Int) - 1)) ≤ (x260001.length : Int) then ((some (x260001.take ((wrap64 ((x260001.length : Int) - 1)) : Int).toNat : List Int)).bind fun y282 => ((items_Check.f k x260000 y282).bind fun t285 => ((r0_Check.f k x260000 y282).bind fun t286 => (some (t285 == t286))))) else (none)) else (none)) else (if 1 ≤ (x260000.length : Int) then ((some (x260000.drop (1 : Int).toNat : List (S48))).bind fun y287 => ((items_Check.f k y287 x260001).bind fun t290 => ((r0_Check.f k y287 x260001).bind fun t291 => (some (t290 == t291))))) else (none))))))))) else (none)) else (none))))
end
def stanzalaw11_ItemsChecks.f (k : Nat) (l0 : List (S48)) (l1 : List Int) (l2 : List (S90)) (a3 : Int) (a4 : Int) (a5 : Int) : Option (Bool) := (stanzalaw11_Awake.f k).bind fun t248 => (if t248 = true then (if (l0.length : Int) > 500 then (stanzalaw11_ItemsChecks.j0 k l0 l1 l2 a3 a4 a5 true) else (if (l1.length : Int) > 500 then (stanzalaw11_ItemsChecks.j0 k l0 l1 l2 a3 a4 a5 true) else (stanzalaw11_ItemsChecks.j0 k l0 l1 l2 a3 a4 a5 (decide ((l2.length : Int) > 500))))) else (some false))
theorem stanzalaw11_ItemsChecks.mono_l : ∀ k, (∀ y0 y1 y2 y3 y4 y5 y6, LeO (stanzalaw11_ItemsChecks.j0 k y0 y1 y2 y3 y4 y5 y6) (stanzalaw11_ItemsChecks.j0 (k + 1) y0 y1 y2 y3 y4 y5 y6)) ∧ (∀ y0 y1 y2 y3 y4 y5, LeO (stanzalaw11_ItemsChecks.j1 k y0 y1 y2 y3 y4 y5) (stanzalaw11_ItemsChecks.j1 (k + 1) y0 y1 y2 y3 y4 y5))
 | 0 => ⟨fun _ _ _ _ _ _ _ r h => by simp [stanzalaw11_ItemsChecks.j0] at h, fun _ _ _ _ _ _ r h => by simp [stanzalaw11_ItemsChecks.j1] at h⟩
 | k + 1 => by
  obtain ⟨ih0, ih1⟩ := stanzalaw11_ItemsChecks.mono_l k; refine ⟨?_, ?_⟩
  ·intro y0 y1 y2 y3 y4 y5 y6
   unfold stanzalaw11_ItemsChecks.j0
   repeat' (with_reducible first | exact ih0 _ _ _ _ _ _ _ | exact ih1 _ _ _ _ _ _ | exact items_Check.mono _ _ _ | exact h3_Opps.mono _ _ | exact h3_Para.mono _ _ | exact stanzalaw11_Awake.mono _ | exact r0_Check.mono _ _ _ | exact LeO.refl _ | exact LeO.none _ | refine LeO.ite ?_ ?_ | refine LeO.bind ?_ (fun _ => ?_))
  ·intro y0 y1 y2 y3 y4 y5
   unfold stanzalaw11_ItemsChecks.j1
   repeat' (with_reducible first | exact ih0 _ _ _ _ _ _ _ | exact ih1 _ _ _ _ _ _ | exact items_Check.mono _ _ _ | exact h3_Opps.mono _ _ | exact h3_Para.mono _ _ | exact stanzalaw11_Awake.mono _ | exact r0_Check.mono _ _ _ | exact LeO.refl _ | exact LeO.none _ | refine LeO.ite ?_ ?_ | refine LeO.bind ?_ (fun _ => ?_))
theorem stanzalaw11_ItemsChecks.mono : ∀ a0 a1 a2 a3 a4 a5 k, LeO (stanzalaw11_ItemsChecks.f k a0 a1 a2 a3 a4 a5) (stanzalaw11_ItemsChecks.f (k + 1) a0 a1 a2 a3 a4 a5) := by
 intro a0 a1 a2 a3 a4 a5 k
 obtain ⟨ih0, ih1⟩ := stanzalaw11_ItemsChecks.mono_l k; unfold stanzalaw11_ItemsChecks.f
 repeat' (with_reducible first | exact ih0 _ _ _ _ _ _ _ | exact ih1 _ _ _ _ _ _ | exact items_Check.mono _ _ _ | exact h3_Opps.mono _ _ | exact h3_Para.mono _ _ | exact stanzalaw11_Awake.mono _ | exact r0_Check.mono _ _ _ | exact LeO.refl _ | exact LeO.none _ | refine LeO.ite ?_ ?_ | refine LeO.bind ?_ (fun _ => ?_))
def stanzalaw11_ItemsChecks.T7 : Bool × List (List Nat × List Nat) := (true, [([], []), ([0], [0]), ([1], [1]), ([2, 1], [2]), ([3], [3]), ([4, 3, 3], [3, 4]), ([3], [3]), ([6, 5, 3], [3, 6]), ([5, 7, 3], [3, 5, 7]), ([3, 8], [3, 8])])
def stanzalaw11_ItemsChecks.B7 : List Nat := [0, 1, 3, 7, 15, 31, 15, 127, 255, 511]
theorem stanzalaw11_ItemsChecks.tab7 : rtab .any (opsOf Try.f8 7) = stanzalaw11_ItemsChecks.T7 := by kernel_rfl
theorem stanzalaw11_ItemsChecks.bits7 : waitsOk stanzalaw11_ItemsChecks.T7.2 stanzalaw11_ItemsChecks.B7 = true := by kernel_rfl
set_option maxHeartbeats 8000000 in
set_option maxRecDepth 100000 in
theorem stanzalaw11_ItemsChecks.calls (k : Nat) (A0 : Option Addr) (c0 : Nat) (l0 : List (S48)) (A1 : Option Addr) (c1 : Nat) (l1 : List Int) (A2 : Option Addr) (c2 : Nat) (l2 : List (S90)) (a3 : Int) (a4 : Int) (a5 : Int) (r : Bool) (w : World) (hr0 : Kd.C k48 w A0 l0.length l0) (hc0 : l0.length ≤ c0) (hr1 : Kd.C (Kd.int .u8) w A1 l1.length l1) (hc1 : l1.length ≤ c1) (hr2 : Kd.C k90 w A2 l2.length l2) (hc2 : l2.length ≤ c2) (h : stanzalaw11_ItemsChecks.f k l0 l1 l2 a3 a4 a5 = some r) (hrt_ : zA (r = true)) :
  Calls Try.prog 8 #[.slice A0 l0.length c0, .slice A1 l1.length c1, .slice A2 l2.length c2, .int .i64 a3, .int .i64 a4, .int .i64 a5] w fun e w' => e = .returned (.bool r) ∧ Below w.heap.size w w' := by
 have hu60 := Try.underlying60; have HR0 := zA.mk hr0; have HC0 := zA.mk hc0; clear hr0 hc0; have HR1 := zA.mk hr1; have HC1 := zA.mk hc1; clear hr1 hc1; have HR2 := zA.mk hr2; have HC2 := zA.mk hc2; clear hr2 hc2; have HB := zA.mk (Below.refl w.heap.size w); have H : ((stanzalaw11_Awake.f k).bind fun t248 => (if t248 = true then (if (l0.length : Int) > 500 then (stanzalaw11_ItemsChecks.j0 k l0 l1 l2 a3 a4 a5 true) else (if (l1.length : Int) > 500 then (stanzalaw11_ItemsChecks.j0 k l0 l1 l2 a3 a4 a5 true) else (stanzalaw11_ItemsChecks.j0 k l0 l1 l2 a3 a4 a5 (decide ((l2.length : Int) > 500))))) else (some false))) = some r := h
 clear h; replace H := Option.bind_eq_some_iff.mp H; obtain ⟨t248, A70, H⟩ := H; replace H : (if t248 = true then (if (l0.length : Int) > 500 then (stanzalaw11_ItemsChecks.j0 k l0 l1 l2 a3 a4 a5 true) else (if (l1.length : Int) > 500 then (stanzalaw11_ItemsChecks.j0 k l0 l1 l2 a3 a4 a5 true) else (stanzalaw11_ItemsChecks.j0 k l0 l1 l2 a3 a4 a5 (decide ((l2.length : Int) > 500))))) else (some false)) = some r := H; have A7 := zA.mk A70; clear A70; by_cases c8 : t248 = true
 rotate_left
 ·replace c8 := Bool.eq_false_iff.mpr c8
  subst c8; have H1 : (some false) = some r := by rw [if_neg (show ¬ (false = true) by decide)] at H; exact H
  clear H; have H := H1; clear H1; exact absurd ((Option.some.inj H).trans hrt_.out) (by decide)
 subst c8; have H1 : (if (l0.length : Int) > 500 then (stanzalaw11_ItemsChecks.j0 k l0 l1 l2 a3 a4 a5 true) else (if (l1.length : Int) > 500 then (stanzalaw11_ItemsChecks.j0 k l0 l1 l2 a3 a4 a5 true) else (stanzalaw11_ItemsChecks.j0 k l0 l1 l2 a3 a4 a5 (decide ((l2.length : Int) > 500))))) = some r := by rw [if_pos rfl] at H; exact H
 clear H; have H := H1; clear H1; have HC9 := zA.mk H; clear H; go_enter Try.func8, Try.ntmps8
 go_upto_region 3 with (first | ((with_reducible refine gate_callee (f := 23) rfl ?_); refine goesL_ (some 17) rfl rfl Try.func23 (by kernel_rfl) rfl #[] rfl aT ?_; (with_reducible refine (stanzalaw11_Awake.calls k  true _ A7.out (by first | exact ⟨rfl⟩ | exact hrt_)).mono ?_); rintro e w10 ⟨rfl, hb⟩; refine ⟨_, rfl, ?_⟩; have n0_ := zA.mk (below_step (aL HB) hb); clear HB; have HB := n0_; clear n0_; (try clear hb); (try clear hb2); (try clear hk); (try clear hi)))
 (try simp only [Act.put, sA_, sB_, sC_])
 go_cut [31] (fun v31 wc => ∃ (kq : Nat) (x31_8 : Bool), v31 = .bool x31_8 ∧ zA (stanzalaw11_ItemsChecks.j0 kq l0 l1 l2 a3 a4 a5 x31_8 = some r) ∧ zA (kq ≤ k) ∧ zA (Below w.heap.size w wc))
 case first =>
  have H := HC9.out; clear HC9; by_cases c11 : (l0.length : Int) > 500
  ·rw [if_pos c11] at H
   have c11b0 : decide (500 < (l0.length : Int)) = true := decide_eq_true c11
   have c11b1 : decide (500 < l0.length) = true := decide_eq_true (by omega)
   clear c11; (first | rw [c11b0] | (simp only [i64_w, i32_w]; rw [c11b0]) | skip)
   have H' := zA.mk H
   clear H; go_wp2
   go_meet
   case rel => exact ⟨_, (true), aZ, H', ⟨by first | omega | exact Nat.le_refl _⟩, ⟨aL HB⟩⟩
  rw [if_neg c11] at H; have c11b0 : decide (500 < (l0.length : Int)) = false := decide_eq_false c11
  have c11b1 : decide (500 < l0.length) = false := decide_eq_false (by omega)
  clear c11; (first | rw [c11b0] | (simp only [i64_w, i32_w]; rw [c11b0]) | skip)
  by_cases c12 : (l1.length : Int) > 500
  ·rw [if_pos c12] at H
   have c12b0 : decide (500 < (l1.length : Int)) = true := decide_eq_true c12
   have c12b1 : decide (500 < l1.length) = true := decide_eq_true (by omega)
   clear c12; have H' := zA.mk H
   clear H; go_wp2
   go_meet
   case rel => exact ⟨_, (true), aZ, H', ⟨by first | omega | exact Nat.le_refl _⟩, ⟨aL HB⟩⟩
  rw [if_neg c12] at H; have c12b0 : decide (500 < (l1.length : Int)) = false := decide_eq_false c12
  have c12b1 : decide (500 < l1.length) = false := decide_eq_false (by omega)
  clear c12; have H' := zA.mk H
  clear H; go_wp2
  go_meet
  case rel => exact ⟨_, (decide ((l2.length : Int) > 500)), aZ, H', ⟨by first | omega | exact Nat.le_refl _⟩, ⟨aL HB⟩⟩
 clear HC9; try clear c1
 try clear c2
 try clear p2
 try clear c8
 try clear c11
 try clear c11b0
 try clear c11b1
 try clear c12
 try clear c12b0
 try clear c12b1
 obtain ⟨kq, x31_8, rfl, HA, HJ8, HB⟩ := hcut; cases kq with
 | zero => exact absurd HA.out (by simp [stanzalaw11_ItemsChecks.j0])
 | succ kj8 =>
  have H := HA.out; clear HA; simp only [stanzalaw11_ItemsChecks.j0] at H; by_cases c13 : x31_8 = true
  ·subst c13
   have H1 : (some true) = some r := by rw [if_pos rfl] at H; exact H
   clear H; have H := H1; clear H1; obtain rfl := Option.some.inj H
   go_wp2
   go_ret
   exact ⟨aX, aL HB⟩
  replace c13 := Bool.eq_false_iff.mpr c13; subst c13; have H1 : ((h3_Opps.f kj8 l1).bind fun t249 => ((h3_Para.f kj8 l2).bind fun bt253 => ((items_Check.f kj8 bt253.1 bt253.2).bind fun t260 => (if t260 = true then ((items_Check.f kj8 l0 t249).bind fun t261 => ((r0_Check.f kj8 l0 t249).bind fun t262 => (stanzalaw11_ItemsChecks.j1 kj8 a3 a4 a5 (t261 != t262) bt253.1 bt253.2))) else (stanzalaw11_ItemsChecks.j1 kj8 a3 a4 a5 true bt253.1 bt253.2))))) = some r := by rw [if_neg (show ¬ (false = true) by decide)] at H; exact H
  clear H; have H := H1; clear H1; replace H := Option.bind_eq_some_iff.mp H; obtain ⟨t249, A140, H⟩ := H; replace H : ((h3_Para.f kj8 l2).bind fun bt253 => ((items_Check.f kj8 bt253.1 bt253.2).bind fun t260 => (if t260 = true then ((items_Check.f kj8 l0 t249).bind fun t261 => ((r0_Check.f kj8 l0 t249).bind fun t262 => (stanzalaw11_ItemsChecks.j1 kj8 a3 a4 a5 (t261 != t262) bt253.1 bt253.2))) else (stanzalaw11_ItemsChecks.j1 kj8 a3 a4 a5 true bt253.1 bt253.2)))) = some r := H
  have A14 := zA.mk A140; clear A140; replace H := Option.bind_eq_some_iff.mp H; obtain ⟨⟨t253, t256⟩, A150, H⟩ := H; replace H : ((items_Check.f kj8 t253 t256).bind fun t260 => (if t260 = true then ((items_Check.f kj8 l0 t249).bind fun t261 => ((r0_Check.f kj8 l0 t249).bind fun t262 => (stanzalaw11_ItemsChecks.j1 kj8 a3 a4 a5 (t261 != t262) t253 t256))) else (stanzalaw11_ItemsChecks.j1 kj8 a3 a4 a5 true t253 t256))) = some r := H
  have A15 := zA.mk A150; clear A150; have HC16 := zA.mk H; clear H; go_upto_region 7 with (first | ((with_reducible refine gate_callee (f := 18) rfl ?_); refine goesL_ (some 34) rfl rfl Try.func18 (by kernel_rfl) rfl #[.slice A1 l1.length c1] rfl aT ?_; (with_reducible refine (h3_Opps.calls kj8 _ _ l1 t249 _ ?side1 ?side2 A14.out).mono ?_); (case side1 => exact aA HR1 HB); (case side2 => exact HC1.out); rintro e w17 ⟨v250, rfl, ho0, hb⟩; refine ⟨_, rfl, ?_⟩; have n0_ := zA.mk (Kd.zQ ho0 (below_size (aL HB))); have n1_ := zA.mk (below_step (aL HB) hb); clear HB; have HO251 := n0_; have HB := n1_; clear n0_ n1_; (try clear hb); (try clear hb2); (try clear hk); (try clear hi); (try clear ho0); obtain ⟨Ao18, co18, eo18⟩ := Kd.zP HO251.out; subst eo18) | ((with_reducible refine gate_dst (N := 13) rfl ?_); (try (refine gate_guard (by rfl) ?_; dsimp only)); refine box_event ?hg (N := 13) ?hd (cs := #[.slice none 0 0, .slice none 0 0]) (t := 60) ?hr ?_; (case hd => rfl); (case hg => rfl); (case hr => first | (go_simp; done) | (go_simp; rfl)); intro gb252 hg w19 hbox hb; have n0_ := zA.mk (Kd.zN (aR HO251) hb); have n1_ := zA.mk (below_step (aL HB) hb); have n2_ := zA.mk (hbox); have n3_ := zA.mk ((by rw [hg]; exact (below_size (aL HB)) : w.heap.size ≤ gb252)); have n4_ := zA.mk ((by rw [hg]; exact (below_size (aL HB)) : w.heap.size ≤ gb252)); clear HO251; clear HB; have HO251 := n0_; have HB := n1_; have BK252 := n2_; have GW252 := n3_; have GE252 := n4_; clear n0_ n1_ n2_ n3_ n4_; clear hb hbox hg; obtain ⟨hcz20_0, hcz20_1, hfz20_0, hfz20_1⟩ := aC2 BK252) | ((with_reducible refine gate_store (t := 60) (p := 13) rfl ?_); refine store_event (t := 60) (p := 13) (v := ?vo_w21) (w1 := ((w19.setCell ⟨gb252, 0, none⟩ (.slice A0 l0.length c0)).setCell ⟨gb252, 1, none⟩ (.slice Ao18 t249.length co18))) ?hg ?ho ?hn ?hr ?_; (case ho => rfl); (case hg => rfl); (case hn => rfl); (case hr => first | (go_simp; done) | (go_simp; rfl)); intro w21 hw; have n0_ : zA (Kd.R (Kd.int .u8) 53 w21 w.heap.size (fun _ => True) (.slice Ao18 t249.length co18) t249) := ⟨(by rw [hw]; exact (by (with_reducible repeat (first | apply Kd.zF | apply Kd.zG | apply Kd.zH)); exact Kd.zR (Kd.zO (p := ⟨gb252, 1, none⟩) (Kd.zO (p := ⟨gb252, 0, none⟩) (Kd.zS HO251.out BK252.out (by decide)) (fun _ hk => hk.2) (.slice A0 l0.length c0)) (fun _ hk => hk.2) (.slice Ao18 t249.length co18)) (fun _ hk => trivial)))⟩; have n1_ : zA (w21.heap[gb252]? = some (.cells #[.slice A0 l0.length c0, .slice Ao18 t249.length co18] 60 (0, 0))) := ⟨(by rw [hw]; exact (by (with_reducible repeat (first | refine zD ?_ _ | refine zC ?_ | refine zB ?_ _)); refine blk_put (cs := #[.slice A0 l0.length c0, .slice none 0 0]) ?_ 1 _ rfl; (with_reducible repeat (first | refine zD ?_ _ | refine zC ?_ | refine zB ?_ _)); refine blk_put (cs := #[.slice none 0 0, .slice none 0 0]) ?_ 0 _ rfl; (with_reducible repeat (first | refine zD ?_ _ | refine zC ?_ | refine zB ?_ _)); exact BK252.out))⟩; have n2_ : zA (Below w.heap.size w w21) := ⟨(by rw [hw]; exact (aL HB))⟩; clear hw; clear HO251; clear BK252; clear HB; have HO251 := n0_; have BK252 := n1_; have HB := n2_; clear n0_ n1_ n2_) | ((with_reducible refine gate_callee (f := 27) rfl ?_); refine goesL_ (some 37) rfl rfl Try.func27 (by kernel_rfl) rfl #[.slice A2 l2.length c2] rfl aT ?_; (with_reducible refine (h3_Para.calls kj8 _ _ l2 t253 t256 _ ?side1 ?side2 A15.out).mono ?_); (case side1 => exact aA HR2 HB); (case side2 => exact HC2.out); rintro e w22 ⟨v254, v257, rfl, ho0, ho1, hb⟩; refine ⟨_, rfl, ?_⟩; have n0_ := zA.mk (Kd.R_elder' (aR HO251) (Kd.R_base ho1) hb); have n1_ := zA.mk (Kd.zQ ho0 (below_size (aL HB))); have n2_ := zA.mk (Kd.zQ (Kd.R_new' ho1 (Kd.R_lt (aR HO251))) (below_size (aL HB))); have n3_ := zA.mk (blk_below (g := gb252) (o := .cells #[.slice A0 l0.length c0, .slice Ao18 t249.length co18] 60 (0, 0)) (aB BK252) hb); have n4_ := zA.mk (below_step (aL HB) hb); clear HO251; clear BK252; clear HB; have HO251 := n0_; have HO255 := n1_; have HO258 := n2_; have BK252 := n3_; have HB := n4_; clear n0_ n1_ n2_ n3_ n4_; (try clear hb); (try clear hb2); (try clear hk); (try clear hi); (try clear ho0); (try clear ho1)) | ((with_reducible refine gate_dst (N := 14) rfl ?_); (try (refine gate_guard (by rfl) ?_; dsimp only)); refine box_event ?hg (N := 14) ?hd (cs := #[.slice none 0 0, .slice none 0 0]) (t := 60) ?hr ?_; (case hd => rfl); (case hg => rfl); (case hr => first | (go_simp; done) | (go_simp; rfl)); intro gb259 hg w23 hbox hb; have n0_ := zA.mk (Kd.zN (aR HO251) hb); have n1_ := zA.mk (Kd.zN (aR HO255) hb); have n2_ := zA.mk (Kd.zN (aR HO258) hb); have n3_ := zA.mk (blk_below (g := gb252) (o := .cells #[.slice A0 l0.length c0, .slice Ao18 t249.length co18] 60 (0, 0)) (aB BK252) hb); have n4_ := zA.mk (below_step (aL HB) hb); have n5_ := zA.mk (hbox); have n6_ := zA.mk ((by rw [hg]; exact (below_size (aL HB)) : w.heap.size ≤ gb259)); have n7_ := zA.mk ((by rw [hg]; exact (below_size (aL HB)) : w.heap.size ≤ gb259)); have n8_ := zA.mk ((by rw [hg]; exact Nat.ne_of_lt (blk_lt (g := gb252) (o := .cells #[.slice A0 l0.length c0, .slice Ao18 t249.length co18] 60 (0, 0)) (aB BK252)) : gb252 ≠ gb259)); have n9_ := zA.mk ((by rw [hg]; exact Nat.ne_of_gt (blk_lt (g := gb252) (o := .cells #[.slice A0 l0.length c0, .slice Ao18 t249.length co18] 60 (0, 0)) (aB BK252)) : gb259 ≠ gb252)); clear HO251; clear HO255; clear HO258; clear BK252; clear HB; have HO251 := n0_; have HO255 := n1_; have HO258 := n2_; have BK252 := n3_; have HB := n4_; have BK259 := n5_; have GW259 := n6_; have GE259 := n7_; have NB252_259 := n8_; have NB259_252 := n9_; clear n0_ n1_ n2_ n3_ n4_ n5_ n6_ n7_ n8_ n9_; clear hb hbox hg; obtain ⟨Ao24, co24, eo24⟩ := Kd.zP HO255.out; subst eo24; have hnb25 := NB259_252.out; have hnc25 := NB252_259.out; obtain ⟨hcz26_0, hcz26_1, hfz26_0, hfz26_1⟩ := aC2 BK259; obtain ⟨Ao27, co27, eo27⟩ := Kd.zP HO258.out; subst eo27) | ((with_reducible refine gate_store (t := 60) (p := 14) rfl ?_); refine store_event (t := 60) (p := 14) (v := ?vo_w28) (w1 := ((w23.setCell ⟨gb259, 0, none⟩ (.slice Ao24 t253.length co24)).setCell ⟨gb259, 1, none⟩ (.slice Ao27 t256.length co27))) ?hg ?ho ?hn ?hr ?_; (case ho => rfl); (case hg => rfl); (case hn => rfl); (case hr => first | (go_simp; done) | (go_simp; rfl)); intro w28 hw; have n0_ : zA (Kd.R (Kd.int .u8) 53 w28 w.heap.size (fun k_ => some k_ ≠ (.slice Ao27 t256.length co27 : Value).ownBlock) (.slice Ao18 t249.length co18) t249) := ⟨(by rw [hw]; exact (by (with_reducible repeat (first | apply Kd.zF | apply Kd.zG | apply Kd.zH)); exact Kd.zR (Kd.zO (p := ⟨gb259, 1, none⟩) (Kd.zO (p := ⟨gb259, 0, none⟩) (Kd.zS HO251.out BK259.out (by decide)) (fun _ hk => hk.2) (.slice Ao24 t253.length co24)) (fun _ hk => hk.2) (.slice Ao27 t256.length co27)) (fun _ hk => hk.1.2)))⟩; have n1_ : zA (Kd.R k48 48 w28 w.heap.size (fun _ => True) (.slice Ao24 t253.length co24) t253) := ⟨(by rw [hw]; exact (by (with_reducible repeat (first | apply Kd.zF | apply Kd.zG | apply Kd.zH)); exact Kd.zR (Kd.zO (p := ⟨gb259, 1, none⟩) (Kd.zO (p := ⟨gb259, 0, none⟩) (Kd.zS HO255.out BK259.out (by decide)) (fun _ hk => hk.2) (.slice Ao24 t253.length co24)) (fun _ hk => hk.2) (.slice Ao27 t256.length co27)) (fun _ hk => trivial)))⟩; have n2_ : zA (Kd.R (Kd.int .u8) 53 w28 w.heap.size (fun k_ => some k_ ≠ (.slice Ao18 t249.length co18 : Value).ownBlock) (.slice Ao27 t256.length co27) t256) := ⟨(by rw [hw]; exact (by (with_reducible repeat (first | apply Kd.zF | apply Kd.zG | apply Kd.zH)); exact Kd.zR (Kd.zO (p := ⟨gb259, 1, none⟩) (Kd.zO (p := ⟨gb259, 0, none⟩) (Kd.zS HO258.out BK259.out (by decide)) (fun _ hk => hk.2) (.slice Ao24 t253.length co24)) (fun _ hk => hk.2) (.slice Ao27 t256.length co27)) (fun _ hk => hk.1.2)))⟩; have n3_ : zA (w28.heap[gb252]? = some (.cells #[.slice A0 l0.length c0, .slice Ao18 t249.length co18] 60 (0, 0))) := ⟨(by rw [hw]; exact (aB BK252))⟩; have n4_ : zA (w28.heap[gb259]? = some (.cells #[.slice Ao24 t253.length co24, .slice Ao27 t256.length co27] 60 (0, 0))) := ⟨(by rw [hw]; exact (by (with_reducible repeat (first | refine zD ?_ _ | refine zC ?_ | refine zB ?_ _)); refine blk_put (cs := #[.slice Ao24 t253.length co24, .slice none 0 0]) ?_ 1 _ rfl; (with_reducible repeat (first | refine zD ?_ _ | refine zC ?_ | refine zB ?_ _)); refine blk_put (cs := #[.slice none 0 0, .slice none 0 0]) ?_ 0 _ rfl; (with_reducible repeat (first | refine zD ?_ _ | refine zC ?_ | refine zB ?_ _)); exact BK259.out))⟩; have n5_ : zA (Below w.heap.size w w28) := ⟨(by rw [hw]; exact (aL HB))⟩; clear hw; clear HO251; clear HO255; clear HO258; clear BK252; clear BK259; clear HB; have HO251 := n0_; have HO255 := n1_; have HO258 := n2_; have BK252 := n3_; have BK259 := n4_; have HB := n5_; clear n0_ n1_ n2_ n3_ n4_ n5_))
  (try simp only [Act.put, sA_, sB_, sC_])
  go_cut [47] (fun v47 wc => ∃ (kq : Nat) (x47_15 : Bool), v47 = .bool x47_15 ∧ zA (stanzalaw11_ItemsChecks.j1 kq a3 a4 a5 x47_15 t253 t256 = some r) ∧ zA (kq ≤ kj8) ∧ zA (Kd.R (Kd.int .u8) 53 wc w.heap.size (fun k_ => some k_ ≠ ((.slice Ao27 t256.length co27) : Value).ownBlock) (.slice Ao18 t249.length co18) t249) ∧ zA (Kd.Q k48 48 wc w.heap.size (fun _ => True) (.slice Ao24 t253.length co24) t253) ∧ zA (Kd.R (Kd.int .u8) 53 wc w.heap.size (fun k_ => some k_ ≠ ((.slice Ao18 t249.length co18) : Value).ownBlock) (.slice Ao27 t256.length co27) t256) ∧ zA (wc.heap[gb252]? = some (.cells #[(.slice A0 l0.length c0), (.slice Ao18 t249.length co18)] 60 (0, 0))) ∧ zA (wc.heap[gb259]? = some (.cells #[(.slice Ao24 t253.length co24), (.slice Ao27 t256.length co27)] 60 (0, 0))) ∧ zA (Below w.heap.size w wc))
  case first =>
   have H := HC16.out; clear HC16; replace H := Option.bind_eq_some_iff.mp H; obtain ⟨t260, A290, H⟩ := H; replace H : (if t260 = true then ((items_Check.f kj8 l0 t249).bind fun t261 => ((r0_Check.f kj8 l0 t249).bind fun t262 => (stanzalaw11_ItemsChecks.j1 kj8 a3 a4 a5 (t261 != t262) t253 t256))) else (stanzalaw11_ItemsChecks.j1 kj8 a3 a4 a5 true t253 t256)) = some r := H
   have A29 := zA.mk A290; clear A290; by_cases c30 : t260 = true
   rotate_left
   ·replace c30 := Bool.eq_false_iff.mpr c30
    subst c30; have H1 : (stanzalaw11_ItemsChecks.j1 kj8 a3 a4 a5 true t253 t256) = some r := by rw [if_neg (show ¬ (false = true) by decide)] at H; exact H
    clear H; have H := H1; clear H1; have H' := zA.mk H
    clear H; try go_wp2
    have n0_ := zA.mk (Kd.zH HO251.out); have n1_ := zA.mk (Kd.zH HO255.out); have n2_ := zA.mk (Kd.zH HO258.out); have n3_ := zA.mk (zC BK252.out); have n4_ := zA.mk (zC BK259.out); have n5_ := zA.mk (below_drew1 HB.out); clear HO251; clear HO255; clear HO258; clear BK252; clear BK259; clear HB; have HO251 := n0_; have HO255 := n1_; have HO258 := n2_; have BK252 := n3_; have BK259 := n4_; have HB := n5_; clear n0_ n1_ n2_ n3_ n4_ n5_; refine start_ (n := 10) (S := fun w' => w'.cell? ⟨gb259, 0, none⟩ = some (.slice Ao24 t253.length co24) ∧ w'.cell? ⟨gb259, 1, none⟩ = some (.slice Ao27 t256.length co27)) (ds := []) #[false, false, false, false, false, false, false, false, false, false] (by kernel_rfl) rfl rfl ⟨(zE BK259.out 0).trans rfl, (zE BK259.out 1).trans rfl⟩ (fun hHeld => ?_); refine with_tabW stanzalaw11_ItemsChecks.tab7 stanzalaw11_ItemsChecks.bits7 (fun HT_ HW_ => ?_)
    generalize w28.drew = w37 at HO251 HO255 HO258 BK252 BK259 HB hHeld ⊢
    refine take_ (i := 0) (N := some 38) (v := ?_) (a' := ?_) (tf_ 1 10) rfl rfl (take_ofW HT_.out HW_.out (by kernel_rfl)) (fun _ _ _ h => h) (Or.inl ⟨by rfl, ?_⟩) hHeld ?_ ?_
    rotate_left
    ·rintro w' ⟨s0, s1⟩
     go_simp
     with_reducible rfl
    rotate_left
    ·simp only [Act.put, sA_, sB_, sC_, i64_w, i32_w]
     rfl
    refine one_ (i := 1) (N := some 39) #[true, true, false, false, false, false, false, false, false, false] rfl rfl (one_of HT_.out (by kernel_rfl)) (by decide) (fun K hK => ?_)
    refine goes_ Try.func28 (by kernel_rfl) rfl #[.agg #[.slice Ao24 t253.length co24, .slice Ao27 t256.length co27]] (by rfl) rfl rfl aT ?_
    with_reducible refine (items_Check.calls kj8 _ _ t253 _ _ t256 false _ ?side1 ?side2 ?side3 ?side4 A29.out).mono ?_
    (case side1 => exact aF HO255)
    (case side2 => exact (Kd.zM HO255.out).2.1)
    (case side3 => exact aF HO258)
    (case side4 => exact (Kd.zM HO258.out).2.1)
    rintro e w38 ⟨rfl, hb⟩
    refine ⟨_, rfl, ?_⟩
    have n0_ := zA.mk (Kd.zN (aR HO251) hb); have n1_ := zA.mk (Kd.zN (aR HO255) hb); have n2_ := zA.mk (Kd.zN (aR HO258) hb); have n3_ := zA.mk (blk_below (g := gb252) (o := .cells #[.slice A0 l0.length c0, .slice Ao18 t249.length co18] 60 (0, 0)) (aB BK252) hb); have n4_ := zA.mk (blk_below (g := gb259) (o := .cells #[.slice Ao24 t253.length co24, .slice Ao27 t256.length co27] 60 (0, 0)) (aB BK259) hb); have n5_ := zA.mk (below_step (aL HB) hb); clear HO251; clear HO255; clear HO258; clear BK252; clear BK259; clear HB; have HO251 := n0_; have HO255 := n1_; have HO258 := n2_; have BK252 := n3_; have BK259 := n4_; have HB := n5_; clear n0_ n1_ n2_ n3_ n4_ n5_; (try clear hb)
    (try clear hb2)
    (try clear hk)
    (try clear hi)
    refine hK.out _ _ ⟨(zE BK259.out 0).trans rfl, (zE BK259.out 1).trans rfl⟩ (fun hHeld => ?_)
    clear hK K; refine norm_ (a' := ?_) ?_ ?_
    rotate_left
    ·show Act.put _ (some 39) _ = _
     simp only [Act.put, sA_, sB_, sC_, i64_w, i32_w]; rfl
    refine aP 2 (some 40) (tf_ 3 10) HT_ ?_
    refine aP 3 (some 41) (tf_ 4 10) HT_ ?_
    refine pure_ (i := 4) (N := some 42) (v := undef) (a' := ?_) (tf_ 5 10) rfl rfl (any_of HT_.out (by kernel_rfl)) (fun _ _ _ h => h) (Or.inr ⟨by rfl, rfl⟩) ?_ ?_
    rotate_left
    ·simp only [Act.put, sA_, sB_, sC_, i64_w, i32_w]
     rfl
    refine pure_ (i := 5) (N := some 43) (v := undef) (a' := ?_) (tf_ 6 10) rfl rfl (any_of HT_.out (by kernel_rfl)) (fun _ _ _ h => h) (Or.inr ⟨by rfl, rfl⟩) ?_ ?_
    rotate_left
    ·simp only [Act.put, sA_, sB_, sC_, i64_w, i32_w]
     rfl
    refine pure_ (i := 6) (N := some 44) (v := undef) (a' := ?_) (tf_ 7 10) rfl rfl (any_of HT_.out (by kernel_rfl)) (fun _ _ _ h => h) (Or.inr ⟨by rfl, rfl⟩) ?_ ?_
    rotate_left
    ·simp only [Act.put, sA_, sB_, sC_, i64_w, i32_w]
     rfl
    refine pure_ (i := 7) (N := some 45) (v := undef) (a' := ?_) (tf_ 8 10) rfl rfl (any_of HT_.out (by kernel_rfl)) (fun _ _ _ h => h) (Or.inr ⟨by rfl, rfl⟩) ?_ ?_
    rotate_left
    ·simp only [Act.put, sA_, sB_, sC_, i64_w, i32_w]
     rfl
    refine pure_ (i := 8) (N := some 46) (v := undef) (a' := ?_) (tf_ 9 10) rfl rfl (any_of HT_.out (by kernel_rfl)) (fun _ _ _ h => h) (Or.inr ⟨by rfl, rfl⟩) ?_ ?_
    rotate_left
    ·simp only [Act.put, sA_, sB_, sC_, i64_w, i32_w]
     rfl
    refine aP 9 (some 47) #[true, true, true, true, true, true, true, true, true, true] HT_ ?_
    refine done_ (done_of HT_.out (by kernel_rfl)) ?_
    try go_wp2
    go_meet
    case rel => exact ⟨_, (true), aZ, H', ⟨by have := HJ8.out; first | omega | exact Nat.le_refl _⟩, ⟨aR HO251⟩, ⟨Kd.Q_of_R (aR HO255)⟩, ⟨aR HO258⟩, ⟨aB BK252⟩, ⟨aB BK259⟩, ⟨aL HB⟩⟩
   subst c30; have H1 : ((items_Check.f kj8 l0 t249).bind fun t261 => ((r0_Check.f kj8 l0 t249).bind fun t262 => (stanzalaw11_ItemsChecks.j1 kj8 a3 a4 a5 (t261 != t262) t253 t256))) = some r := by rw [if_pos rfl] at H; exact H
   clear H; have H := H1; clear H1; replace H := Option.bind_eq_some_iff.mp H; obtain ⟨t261, A310, H⟩ := H; replace H : ((r0_Check.f kj8 l0 t249).bind fun t262 => (stanzalaw11_ItemsChecks.j1 kj8 a3 a4 a5 (t261 != t262) t253 t256)) = some r := H
   have A31 := zA.mk A310; clear A310; replace H := Option.bind_eq_some_iff.mp H; obtain ⟨t262, A320, H⟩ := H; replace H : (stanzalaw11_ItemsChecks.j1 kj8 a3 a4 a5 (t261 != t262) t253 t256) = some r := H; have A32 := zA.mk A320; clear A320; have H' := zA.mk H
   clear H; try go_wp2
   have n0_ := zA.mk (Kd.zH HO251.out); have n1_ := zA.mk (Kd.zH HO255.out); have n2_ := zA.mk (Kd.zH HO258.out); have n3_ := zA.mk (zC BK252.out); have n4_ := zA.mk (zC BK259.out); have n5_ := zA.mk (below_drew1 HB.out); clear HO251; clear HO255; clear HO258; clear BK252; clear BK259; clear HB; have HO251 := n0_; have HO255 := n1_; have HO258 := n2_; have BK252 := n3_; have BK259 := n4_; have HB := n5_; clear n0_ n1_ n2_ n3_ n4_ n5_; refine start_ (n := 10) (S := fun w' => w'.cell? ⟨gb259, 0, none⟩ = some (.slice Ao24 t253.length co24) ∧ w'.cell? ⟨gb259, 1, none⟩ = some (.slice Ao27 t256.length co27) ∧ w'.cell? ⟨gb252, 0, none⟩ = some (.slice A0 l0.length c0) ∧ w'.cell? ⟨gb252, 1, none⟩ = some (.slice Ao18 t249.length co18)) (ds := []) #[false, false, false, false, false, false, false, false, false, false] (by kernel_rfl) rfl rfl ⟨(zE BK259.out 0).trans rfl, (zE BK259.out 1).trans rfl, (zE BK252.out 0).trans rfl, (zE BK252.out 1).trans rfl⟩ (fun hHeld => ?_); refine with_tabW stanzalaw11_ItemsChecks.tab7 stanzalaw11_ItemsChecks.bits7 (fun HT_ HW_ => ?_)
   generalize w28.drew = w33 at HO251 HO255 HO258 BK252 BK259 HB hHeld ⊢
   refine take_ (i := 0) (N := some 38) (v := ?_) (a' := ?_) (tf_ 1 10) rfl rfl (take_ofW HT_.out HW_.out (by kernel_rfl)) (fun _ _ _ h => h) (Or.inl ⟨by rfl, ?_⟩) hHeld ?_ ?_
   rotate_left
   ·rintro w' ⟨s0, s1, s2, s3⟩
    go_simp
    with_reducible rfl
   rotate_left
   ·simp only [Act.put, sA_, sB_, sC_, i64_w, i32_w]
    rfl
   refine one_ (i := 1) (N := some 39) #[true, true, false, false, false, false, false, false, false, false] rfl rfl (one_of HT_.out (by kernel_rfl)) (by decide) (fun K hK => ?_)
   refine goes_ Try.func28 (by kernel_rfl) rfl #[.agg #[.slice Ao24 t253.length co24, .slice Ao27 t256.length co27]] (by rfl) rfl rfl aT ?_
   with_reducible refine (items_Check.calls kj8 _ _ t253 _ _ t256 true _ ?side1 ?side2 ?side3 ?side4 A29.out).mono ?_
   (case side1 => exact aF HO255)
   (case side2 => exact (Kd.zM HO255.out).2.1)
   (case side3 => exact aF HO258)
   (case side4 => exact (Kd.zM HO258.out).2.1)
   rintro e w34 ⟨rfl, hb⟩
   refine ⟨_, rfl, ?_⟩
   have n0_ := zA.mk (Kd.zN (aR HO251) hb); have n1_ := zA.mk (Kd.zN (aR HO255) hb); have n2_ := zA.mk (Kd.zN (aR HO258) hb); have n3_ := zA.mk (blk_below (g := gb252) (o := .cells #[.slice A0 l0.length c0, .slice Ao18 t249.length co18] 60 (0, 0)) (aB BK252) hb); have n4_ := zA.mk (blk_below (g := gb259) (o := .cells #[.slice Ao24 t253.length co24, .slice Ao27 t256.length co27] 60 (0, 0)) (aB BK259) hb); have n5_ := zA.mk (below_step (aL HB) hb); clear HO251; clear HO255; clear HO258; clear BK252; clear BK259; clear HB; have HO251 := n0_; have HO255 := n1_; have HO258 := n2_; have BK252 := n3_; have BK259 := n4_; have HB := n5_; clear n0_ n1_ n2_ n3_ n4_ n5_; (try clear hb)
   (try clear hb2)
   (try clear hk)
   (try clear hi)
   refine hK.out _ _ ⟨(zE BK259.out 0).trans rfl, (zE BK259.out 1).trans rfl, (zE BK252.out 0).trans rfl, (zE BK252.out 1).trans rfl⟩ (fun hHeld => ?_)
   clear hK K; refine norm_ (a' := ?_) ?_ ?_
   rotate_left
   ·show Act.put _ (some 39) _ = _
    simp only [Act.put, sA_, sB_, sC_, i64_w, i32_w]; rfl
   refine aP 2 (some 40) (tf_ 3 10) HT_ ?_
   refine aP 3 (some 41) (tf_ 4 10) HT_ ?_
   refine take_ (i := 4) (N := some 42) (v := ?_) (a' := ?_) (tf_ 5 10) rfl rfl (take_ofW HT_.out HW_.out (by kernel_rfl)) (fun _ _ _ h => h) (Or.inl ⟨by rfl, ?_⟩) hHeld ?_ ?_
   rotate_left
   ·rintro w' ⟨s0, s1, s2, s3⟩
    go_simp
    with_reducible rfl
   rotate_left
   ·simp only [Act.put, sA_, sB_, sC_, i64_w, i32_w]
    rfl
   refine take_ (i := 6) (N := some 44) (v := ?_) (a' := ?_) #[true, true, true, true, true, false, true, false, false, false] rfl rfl (take_ofW HT_.out HW_.out (by kernel_rfl)) (fun _ _ _ h => h) (Or.inl ⟨by rfl, ?_⟩) hHeld ?_ ?_
   rotate_left
   ·rintro w' ⟨s0, s1, s2, s3⟩
    go_simp
    with_reducible rfl
   rotate_left
   ·simp only [Act.put, sA_, sB_, sC_, i64_w, i32_w]
    rfl
   refine one_ (i := 5) (N := some 43) #[true, true, true, true, true, true, true, false, false, false] rfl rfl (one_of HT_.out (by kernel_rfl)) (by decide) (fun K hK => ?_)
   refine goes_ Try.func28 (by kernel_rfl) rfl #[.agg #[.slice A0 l0.length c0, .slice Ao18 t249.length co18]] (by rfl) rfl rfl aT ?_
   with_reducible refine (items_Check.calls kj8 _ _ l0 _ _ t249 t261 _ ?side1 ?side2 ?side3 ?side4 A31.out).mono ?_
   (case side1 => exact aA HR0 HB)
   (case side2 => exact HC0.out)
   (case side3 => exact aF HO251)
   (case side4 => exact (Kd.zM HO251.out).2.1)
   rintro e w35 ⟨rfl, hb⟩
   refine ⟨_, rfl, ?_⟩
   have n0_ := zA.mk (Kd.zN (aR HO251) hb); have n1_ := zA.mk (Kd.zN (aR HO255) hb); have n2_ := zA.mk (Kd.zN (aR HO258) hb); have n3_ := zA.mk (blk_below (g := gb252) (o := .cells #[.slice A0 l0.length c0, .slice Ao18 t249.length co18] 60 (0, 0)) (aB BK252) hb); have n4_ := zA.mk (blk_below (g := gb259) (o := .cells #[.slice Ao24 t253.length co24, .slice Ao27 t256.length co27] 60 (0, 0)) (aB BK259) hb); have n5_ := zA.mk (below_step (aL HB) hb); clear HO251; clear HO255; clear HO258; clear BK252; clear BK259; clear HB; have HO251 := n0_; have HO255 := n1_; have HO258 := n2_; have BK252 := n3_; have BK259 := n4_; have HB := n5_; clear n0_ n1_ n2_ n3_ n4_ n5_; (try clear hb)
   (try clear hb2)
   (try clear hk)
   (try clear hi)
   refine hK.out _ _ ⟨(zE BK259.out 0).trans rfl, (zE BK259.out 1).trans rfl, (zE BK252.out 0).trans rfl, (zE BK252.out 1).trans rfl⟩ (fun hHeld => ?_)
   clear hK K; refine norm_ (a' := ?_) ?_ ?_
   rotate_left
   ·show Act.put _ (some 43) _ = _
    simp only [Act.put, sA_, sB_, sC_, i64_w, i32_w]; rfl
   refine one_ (i := 7) (N := some 45) #[true, true, true, true, true, true, true, true, false, false] rfl rfl (one_of HT_.out (by kernel_rfl)) (by decide) (fun K hK => ?_)
   refine goes_ Try.func29 (by kernel_rfl) rfl #[.agg #[.slice A0 l0.length c0, .slice Ao18 t249.length co18]] (by rfl) rfl rfl aT ?_
   with_reducible refine (r0_Check.calls kj8 _ _ l0 _ _ t249 t262 _ ?side1 ?side2 ?side3 ?side4 A32.out).mono ?_
   (case side1 => exact aA HR0 HB)
   (case side2 => exact HC0.out)
   (case side3 => exact aF HO251)
   (case side4 => exact (Kd.zM HO251.out).2.1)
   rintro e w36 ⟨rfl, hb⟩
   refine ⟨_, rfl, ?_⟩
   have n0_ := zA.mk (Kd.zN (aR HO251) hb); have n1_ := zA.mk (Kd.zN (aR HO255) hb); have n2_ := zA.mk (Kd.zN (aR HO258) hb); have n3_ := zA.mk (blk_below (g := gb252) (o := .cells #[.slice A0 l0.length c0, .slice Ao18 t249.length co18] 60 (0, 0)) (aB BK252) hb); have n4_ := zA.mk (blk_below (g := gb259) (o := .cells #[.slice Ao24 t253.length co24, .slice Ao27 t256.length co27] 60 (0, 0)) (aB BK259) hb); have n5_ := zA.mk (below_step (aL HB) hb); clear HO251; clear HO255; clear HO258; clear BK252; clear BK259; clear HB; have HO251 := n0_; have HO255 := n1_; have HO258 := n2_; have BK252 := n3_; have BK259 := n4_; have HB := n5_; clear n0_ n1_ n2_ n3_ n4_ n5_; (try clear hb)
   (try clear hb2)
   (try clear hk)
   (try clear hi)
   refine hK.out _ _ ⟨(zE BK259.out 0).trans rfl, (zE BK259.out 1).trans rfl, (zE BK252.out 0).trans rfl, (zE BK252.out 1).trans rfl⟩ (fun hHeld => ?_)
   clear hK K; refine norm_ (a' := ?_) ?_ ?_
   rotate_left
   ·show Act.put _ (some 45) _ = _
    simp only [Act.put, sA_, sB_, sC_, i64_w, i32_w]; rfl
   refine aP 8 (some 46) (tf_ 9 10) HT_ ?_
   refine aP 9 (some 47) #[true, true, true, true, true, true, true, true, true, true] HT_ ?_
   refine done_ (done_of HT_.out (by kernel_rfl)) ?_
   try go_wp2
   go_meet
   case rel => exact ⟨_, ((t261 != t262)), aZ, H', ⟨by have := HJ8.out; first | omega | exact Nat.le_refl _⟩, ⟨aR HO251⟩, ⟨Kd.Q_of_R (aR HO255)⟩, ⟨aR HO258⟩, ⟨aB BK252⟩, ⟨aB BK259⟩, ⟨aL HB⟩⟩
  clear HC16; try clear c1
  try clear c2
  try clear p2
  try clear c3
  try clear c8
  try clear c11
  try clear c11b0
  try clear c11b1
  try clear c12
  try clear c12b0
  try clear c12b1
  try clear c13
  try clear c18
  try clear c23
  try clear c25
  try clear c27
  try clear c28
  try clear c29
  try clear c30
  try clear hcz20_0
  try clear hcz20_1
  try clear hcz26_0
  try clear hcz26_1
  try clear hfz20_0
  try clear hfz20_1
  try clear hfz26_0
  try clear hfz26_1
  try clear p2
  obtain ⟨kq, x47_15, rfl, HA, HJ15, HO_253001, HO_260000, HO_260001, BK252, BK259, HB⟩ := hcut; cases kq with
  | zero => exact absurd HA.out (by simp [stanzalaw11_ItemsChecks.j1])
  | succ kj15 =>
   have H := HA.out; clear HA; simp only [stanzalaw11_ItemsChecks.j1] at H; by_cases c39 : x47_15 = true
   ·subst c39
    have H1 : (some false) = some r := by rw [if_pos rfl] at H; exact H
    clear H; have H := H1; clear H1; exact absurd ((Option.some.inj H).trans hrt_.out) (by decide)
   replace c39 := Bool.eq_false_iff.mpr c39; subst c39; have H1 : (if (t253.length : Int) = 0 then (some true) else (if (IntKind.u64.wrap ((t253.length : Int))) = 0 then (none) else (if 0 ≤ (wrap64 (Int.tmod (IntKind.u64.wrap (a3)) (IntKind.u64.wrap ((t253.length : Int))))) then (if (wrap64 (Int.tmod (IntKind.u64.wrap (a3)) (IntKind.u64.wrap ((t253.length : Int))))) < (t253.length : Int) then (if (Int.tmod (IntKind.u64.wrap (a4)) 8) = 0 then ((some (t253.set ((wrap64 (Int.tmod (IntKind.u64.wrap (a3)) (IntKind.u64.wrap ((t253.length : Int))))) : Int).toNat (⟨a5, (rd_T48 t253 (wrap64 (Int.tmod (IntKind.u64.wrap (a3)) (IntKind.u64.wrap ((t253.length : Int)))))).f1, (rd_T48 t253 (wrap64 (Int.tmod (IntKind.u64.wrap (a3)) (IntKind.u64.wrap ((t253.length : Int)))))).f2, (rd_T48 t253 (wrap64 (Int.tmod (IntKind.u64.wrap (a3)) (IntKind.u64.wrap ((t253.length : Int)))))).f3⟩ : S48) : List (S48))).bind fun y264 => ((items_Check.f kj15 y264 t256).bind fun t265 => ((r0_Check.f kj15 y264 t256).bind fun t266 => (some (t265 == t266))))) else (if (Int.tmod (IntKind.u64.wrap (a4)) 8) = 1 then ((some (t253.set ((wrap64 (Int.tmod (IntKind.u64.wrap (a3)) (IntKind.u64.wrap ((t253.length : Int))))) : Int).toNat (⟨(rd_T48 t253 (wrap64 (Int.tmod (IntKind.u64.wrap (a3)) (IntKind.u64.wrap ((t253.length : Int)))))).f0, a5, (rd_T48 t253 (wrap64 (Int.tmod (IntKind.u64.wrap (a3)) (IntKind.u64.wrap ((t253.length : Int)))))).f2, (rd_T48 t253 (wrap64 (Int.tmod (IntKind.u64.wrap (a3)) (IntKind.u64.wrap ((t253.length : Int)))))).f3⟩ : S48) : List (S48))).bind fun y267 => ((items_Check.f kj15 y267 t256).bind fun t268 => ((r0_Check.f kj15 y267 t256).bind fun t269 => (some (t268 == t269))))) else (if (Int.tmod (IntKind.u64.wrap (a4)) 8) = 2 then ((some (t253.set ((wrap64 (Int.tmod (IntKind.u64.wrap (a3)) (IntKind.u64.wrap ((t253.length : Int))))) : Int).toNat (⟨(rd_T48 t253 (wrap64 (Int.tmod (IntKind.u64.wrap (a3)) (IntKind.u64.wrap ((t253.length : Int)))))).f0, (rd_T48 t253 (wrap64 (Int.tmod (IntKind.u64.wrap (a3)) (IntKind.u64.wrap ((t253.length : Int)))))).f1, a5, (rd_T48 t253 (wrap64 (Int.tmod (IntKind.u64.wrap (a3)) (IntKind.u64.wrap ((t253.length : Int)))))).f3⟩ : S48) : List (S48))).bind fun y270 => ((items_Check.f kj15 y270 t256).bind fun t271 => ((r0_Check.f kj15 y270 t256).bind fun t272 => (some (t271 == t272))))) else (if (Int.tmod (IntKind.u64.wrap (a4)) 8) = 3 then ((some (t253.set ((wrap64 (Int.tmod (IntKind.u64.wrap (a3)) (IntKind.u64.wrap ((t253.length : Int))))) : Int).toNat (⟨(rd_T48 t253 (wrap64 (Int.tmod (IntKind.u64.wrap (a3)) (IntKind.u64.wrap ((t253.length : Int)))))).f0, (rd_T48 t253 (wrap64 (Int.tmod (IntKind.u64.wrap (a3)) (IntKind.u64.wrap ((t253.length : Int)))))).f1, (rd_T48 t253 (wrap64 (Int.tmod (IntKind.u64.wrap (a3)) (IntKind.u64.wrap ((t253.length : Int)))))).f2, (a5) % 256⟩ : S48) : List (S48))).bind fun y273 => ((items_Check.f kj15 y273 t256).bind fun t274 => ((r0_Check.f kj15 y273 t256).bind fun t275 => (some (t274 == t275))))) else (if (Int.tmod (IntKind.u64.wrap (a4)) 8) = 4 then (if (wrap64 (Int.tmod (IntKind.u64.wrap (a3)) (IntKind.u64.wrap ((t253.length : Int))))) < (t256.length : Int) then ((some (t256.set ((wrap64 (Int.tmod (IntKind.u64.wrap (a3)) (IntKind.u64.wrap ((t253.length : Int))))) : Int).toNat ((a5) % 256) : List Int)).bind fun y276 => ((items_Check.f kj15 t253 y276).bind fun t277 => ((r0_Check.f kj15 t253 y276).bind fun t278 => (some (t277 == t278))))) else (none)) else (if (Int.tmod (IntKind.u64.wrap (a4)) 8) = 5 then (if 0 ≤ (wrap64 ((t256.length : Int) - 1)) then (if (wrap64 ((t256.length : Int) - 1)) < (t256.length : Int) then ((some (t256.set ((wrap64 ((t256.length : Int) - 1)) : Int).toNat ((a5) % 256) : List Int)).bind fun y279 => ((items_Check.f kj15 t253 y279).bind fun t280 => ((r0_Check.f kj15 t253 y279).bind fun t281 => (some (t280 == t281))))) else (none)) else (none)) else (if (Int.tmod (IntKind.u64.wrap (a4)) 8) = 6 then (if 0 ≤ (wrap64 ((t256.length : Int) - 1)) then (if (wrap64 ((t256.length : Int) - 1)) ≤ (t256.length : Int) then ((some (t256.take ((wrap64 ((t256.length : Int) - 1)) : Int).toNat : List Int)).bind fun y282 => ((items_Check.f kj15 t253 y282).bind fun t285 => ((r0_Check.f kj15 t253 y282).bind fun t286 => (some (t285 == t286))))) else (none)) else (none)) else (if 1 ≤ (t253.length : Int) then ((some (t253.drop (1 : Int).toNat : List (S48))).bind fun y287 => ((items_Check.f kj15 y287 t256).bind fun t290 => ((r0_Check.f kj15 y287 t256).bind fun t291 => (some (t290 == t291))))) else (none))))))))) else (none)) else (none)))) = some r := by rw [if_neg (show ¬ (false = true) by decide)] at H; exact H
   clear H; have H := H1; clear H1; by_cases c40 : (t253.length : Int) = 0
   ·rw [if_pos c40] at H
    have c40b0 : ((t253.length : Int) == 0) = true := beq_iff_eq.mpr c40
    have c40b1 : ((t253.length : Int) != 0) = false := bne_eq_false_iff_eq.mpr c40
    clear c40; obtain rfl := Option.some.inj H
    have hnb41 := NB259_252.out; have hnc41 := NB252_259.out; obtain ⟨hcz42_0, hcz42_1, hfz42_0, hfz42_1⟩ := aC2 BK259; go_wp2
    go_ret
    exact ⟨aX, aL HB⟩
   rw [if_neg c40] at H; have c40b0 : ((t253.length : Int) == 0) = false := beq_eq_false_iff_ne.mpr c40
   have c40b1 : ((t253.length : Int) != 0) = true := bne_iff_ne.mpr c40
   have c40b2 : ¬ (t253 = []) := fun h_ => c40 (by rw [h_]; rfl)
   by_cases c43 : (IntKind.u64.wrap ((t253.length : Int))) = 0
   ·rw [if_pos c43] at H
    exact absurd H (by simp)
   rw [if_neg c43] at H; have c43b0 : ((IntKind.u64.wrap ((t253.length : Int))) == 0) = false := beq_eq_false_iff_ne.mpr c43
   have c43b1 : ((IntKind.u64.wrap ((t253.length : Int))) != 0) = true := bne_iff_ne.mpr c43
   obtain ⟨ji44, hji44⟩ : ∃ j_ : Int, (wrap64 (Int.tmod (IntKind.u64.wrap (a3)) (IntKind.u64.wrap ((t253.length : Int))))) = j_ := ⟨_, rfl⟩; replace H : (if 0 ≤ (ji44) then (if (ji44) < (t253.length : Int) then (if (Int.tmod (IntKind.u64.wrap (a4)) 8) = 0 then ((some (t253.set ((ji44) : Int).toNat (⟨a5, (rd_T48 t253 (ji44)).f1, (rd_T48 t253 (ji44)).f2, (rd_T48 t253 (ji44)).f3⟩ : S48) : List (S48))).bind fun y264 => ((items_Check.f kj15 y264 t256).bind fun t265 => ((r0_Check.f kj15 y264 t256).bind fun t266 => (some (t265 == t266))))) else (if (Int.tmod (IntKind.u64.wrap (a4)) 8) = 1 then ((some (t253.set ((ji44) : Int).toNat (⟨(rd_T48 t253 (ji44)).f0, a5, (rd_T48 t253 (ji44)).f2, (rd_T48 t253 (ji44)).f3⟩ : S48) : List (S48))).bind fun y267 => ((items_Check.f kj15 y267 t256).bind fun t268 => ((r0_Check.f kj15 y267 t256).bind fun t269 => (some (t268 == t269))))) else (if (Int.tmod (IntKind.u64.wrap (a4)) 8) = 2 then ((some (t253.set ((ji44) : Int).toNat (⟨(rd_T48 t253 (ji44)).f0, (rd_T48 t253 (ji44)).f1, a5, (rd_T48 t253 (ji44)).f3⟩ : S48) : List (S48))).bind fun y270 => ((items_Check.f kj15 y270 t256).bind fun t271 => ((r0_Check.f kj15 y270 t256).bind fun t272 => (some (t271 == t272))))) else (if (Int.tmod (IntKind.u64.wrap (a4)) 8) = 3 then ((some (t253.set ((ji44) : Int).toNat (⟨(rd_T48 t253 (ji44)).f0, (rd_T48 t253 (ji44)).f1, (rd_T48 t253 (ji44)).f2, (a5) % 256⟩ : S48) : List (S48))).bind fun y273 => ((items_Check.f kj15 y273 t256).bind fun t274 => ((r0_Check.f kj15 y273 t256).bind fun t275 => (some (t274 == t275))))) else (if (Int.tmod (IntKind.u64.wrap (a4)) 8) = 4 then (if (ji44) < (t256.length : Int) then ((some (t256.set ((ji44) : Int).toNat ((a5) % 256) : List Int)).bind fun y276 => ((items_Check.f kj15 t253 y276).bind fun t277 => ((r0_Check.f kj15 t253 y276).bind fun t278 => (some (t277 == t278))))) else (none)) else (if (Int.tmod (IntKind.u64.wrap (a4)) 8) = 5 then (if 0 ≤ (wrap64 ((t256.length : Int) - 1)) then (if (wrap64 ((t256.length : Int) - 1)) < (t256.length : Int) then ((some (t256.set ((wrap64 ((t256.length : Int) - 1)) : Int).toNat ((a5) % 256) : List Int)).bind fun y279 => ((items_Check.f kj15 t253 y279).bind fun t280 => ((r0_Check.f kj15 t253 y279).bind fun t281 => (some (t280 == t281))))) else (none)) else (none)) else (if (Int.tmod (IntKind.u64.wrap (a4)) 8) = 6 then (if 0 ≤ (wrap64 ((t256.length : Int) - 1)) then (if (wrap64 ((t256.length : Int) - 1)) ≤ (t256.length : Int) then ((some (t256.take ((wrap64 ((t256.length : Int) - 1)) : Int).toNat : List Int)).bind fun y282 => ((items_Check.f kj15 t253 y282).bind fun t285 => ((r0_Check.f kj15 t253 y282).bind fun t286 => (some (t285 == t286))))) else (none)) else (none)) else (if 1 ≤ (t253.length : Int) then ((some (t253.drop (1 : Int).toNat : List (S48))).bind fun y287 => ((items_Check.f kj15 y287 t256).bind fun t290 => ((r0_Check.f kj15 y287 t256).bind fun t291 => (some (t290 == t291))))) else (none))))))))) else (none)) else (none)) = some r := by first | (rw [hji44] at H; exact H) | (simp only [hji44] at H ⊢; exact H)
   have hji44w : (IntKind.i64.wrap (Int.tmod (IntKind.u64.wrap (a3)) (IntKind.u64.wrap ((t253.length : Int))))) = ji44 := (i64_w _).trans hji44
   by_cases c45 : 0 ≤ (ji44)
   rotate_left
   ·rw [if_neg c45] at H
    exact absurd H (by simp)
   rw [if_pos c45] at H; have c45b0 : decide (0 ≤ (ji44)) = true := decide_eq_true c45
   clear c45; by_cases c46 : (ji44) < (t253.length : Int)
   rotate_left
   ·rw [if_neg c46] at H
    exact absurd H (by simp)
   rw [if_pos c46] at H; have c46b0 : decide ((ji44) < (t253.length : Int)) = true := decide_eq_true c46
   clear c46; by_cases c47 : (Int.tmod (IntKind.u64.wrap (a4)) 8) = 0
   ·rw [if_pos c47] at H
    have c47b0 : ((Int.tmod (IntKind.u64.wrap (a4)) 8) == 0) = true := beq_iff_eq.mpr c47
    have c47b1 : ((Int.tmod (IntKind.u64.wrap (a4)) 8) != 0) = false := bne_eq_false_iff_eq.mpr c47
    clear c47; obtain ⟨y264, hy264⟩ : ∃ y_ : List (S48), y_ = (t253.set ((ji44) : Int).toNat (⟨a5, (rd_T48 t253 (ji44)).f1, (rd_T48 t253 (ji44)).f2, (rd_T48 t253 (ji44)).f3⟩ : S48)) := ⟨_, rfl⟩; replace H : ((items_Check.f kj15 y264 t256).bind fun t265 => ((r0_Check.f kj15 y264 t256).bind fun t266 => (some (t265 == t266)))) = some r := by first | (rw [hy264]; with_reducible exact H) | (have H2_ := (Option.bind_some _ _).symm.trans H; rw [hy264]; with_reducible exact H2_) | (have H2_ := (Option.bind_some _ _).symm.trans H; with_reducible exact H2_) | with_reducible exact H | (rw [hy264]; exact H) | exact H
    have Ny264 := zA.mk hy264; clear hy264; replace H := Option.bind_eq_some_iff.mp H; obtain ⟨t265, A490, H⟩ := H; replace H : ((r0_Check.f kj15 y264 t256).bind fun t266 => (some (t265 == t266))) = some r := H
    have A49 := zA.mk A490; clear A490; replace H := Option.bind_eq_some_iff.mp H; obtain ⟨t266, A500, H⟩ := H; replace H : (some (t265 == t266)) = some r := H; have A50 := zA.mk A500; clear A500; obtain rfl := Option.some.inj H
    have hnb51 := NB259_252.out; have hnc51 := NB252_259.out; obtain ⟨hcz52_0, hcz52_1, hfz52_0, hfz52_1⟩ := aC2 BK259; have p263 : 0 ≤ ((ji44) : Int) := aD
    have q263 : (ji44) < (t253.length : Int) := aD
    obtain ⟨ad263, e263, hx263_0, hx263_1, hx263_2, hx263_3⟩ := at_T48 (Kd.Q_reads' HO_260000.out).2.2 (ji44) p263 q263; cases e263
    replace p263 := eq_true p263; replace q263 := eq_true q263; have p48 : 0 ≤ ((ji44) : Int) := aD
    have q48 : ((ji44) : Int) < ((t253.length : Int) : Int) := aD
    obtain ⟨go48, oo48, co48, eo48, gb48, gl48, cl48, HG48⟩ := Kd.Q_form HO_260000.out (by omega)
    (first | cases eo48 | (injection eo48 with ea_ en_ ec_; (first | subst ea_ | (injection ea_ with ea_; subst ea_)); subst ec_; clear en_))
    have GB48 := zA.mk gb48; have GG48 := zA.mk HG48; clear gb48 gl48 HG48; (first | simp only [add_at] at hx263_0 | skip)
    (first | simp only [add_at] at hx263_1 | skip)
    (first | simp only [add_at] at hx263_2 | skip)
    (first | simp only [add_at] at hx263_3 | skip)
    obtain ⟨ce48, hcl48, hM48, hcc48, hfr48⟩ := Kd.Q_elem HO_260000.out z48 ((ji44) : Int) p48 q48; obtain rfl := k48_openM hM48
    have hx48_0 : wc.cell? ⟨go48, oo48 + ((ji44) : Int).toNat * 4, none⟩ = some (.int .i64 ((rd_T48 t253 (ji44)).f0)) := hcc48 0 _ rfl
    have hx48_1 : wc.cell? ⟨go48, oo48 + ((ji44) : Int).toNat * 4 + 1, none⟩ = some (.int .i64 ((rd_T48 t253 (ji44)).f1)) := hcc48 1 _ rfl
    have hx48_2 : wc.cell? ⟨go48, oo48 + ((ji44) : Int).toNat * 4 + 2, none⟩ = some (.int .i64 ((rd_T48 t253 (ji44)).f2)) := hcc48 2 _ rfl
    have hx48_3 : wc.cell? ⟨go48, oo48 + ((ji44) : Int).toNat * 4 + 3, none⟩ = some (.int .u8 ((rd_T48 t253 (ji44)).f3)) := hcc48 3 _ rfl
    have hf48_0 : wc.frozen? ⟨go48, oo48 + ((ji44) : Int).toNat * 4, none⟩ = false := hfr48 0
    have hf48_1 : wc.frozen? ⟨go48, oo48 + ((ji44) : Int).toNat * 4 + 1, none⟩ = false := hfr48 1
    have hf48_2 : wc.frozen? ⟨go48, oo48 + ((ji44) : Int).toNat * 4 + 2, none⟩ = false := hfr48 2
    have hf48_3 : wc.frozen? ⟨go48, oo48 + ((ji44) : Int).toNat * 4 + 3, none⟩ = false := hfr48 3
    (try clear hcl48); (try clear hcc48); (try clear hfr48); (try clear hM48)
    replace p48 := eq_true p48; replace q48 := eq_true q48; have HX53 := zA.mk (show Kd.Q k48 48 wc w.heap.size (fun _ => True) (.slice (some ⟨go48, oo48, none⟩) t253.length co24) t253 from (aQ HO_260000))
    obtain ⟨ce53, hcl53, hM53, hcc53, hfr53⟩ := Kd.Q_elem HX53.out z48 ((ji44) : Int) (aD) (by have h_ : ((ji44) : Int) < ((t253.length : Int) : Int) := aD; first | exact h_ | (have e_ := (Kd.Q_reads' HO_260000.out).1; omega) | simpa using h_)
    obtain rfl := k48_openM hM53
    have HP53 := Kd.Q_seg HX53.out ((ji44) : Int) (aD) (by have h_ : ((ji44) : Int) < ((t253.length : Int) : Int) := aD; first | exact h_ | (have e_ := (Kd.Q_reads' HO_260000.out).1; omega) | simpa using h_) (seg := [.int .i64 a5]) (j := 0) hcl53 hcc53 (show 1 ≤ 4 from by decide) (x' := (⟨a5, (rd_T48 t253 (ji44)).f1, (rd_T48 t253 (ji44)).f2, (rd_T48 t253 (ji44)).f3⟩ : S48)) (k48_mkM _ _ _ (⟨a5, (rd_T48 t253 (ji44)).f1, (rd_T48 t253 (ji44)).f2, (rd_T48 t253 (ji44)).f3⟩ : S48) ) (fun _ hk => hk)
    have hx53_0 := hcc53 0 _ rfl; (try simp only [show (k48).sz = 4 from rfl, Nat.mul_one, Nat.add_zero] at hx53_0)
    have hf53_0 := hfr53 0; (try simp only [show (k48).sz = 4 from rfl, Nat.mul_one, Nat.add_zero] at hf53_0)
    (try clear hcl53); (try clear hcc53); (try clear hfr53); (try clear hM53)
    try go_wp2_with (first | ((with_reducible refine gate_store (t := 3) (p := 76) rfl ?_); refine store_event (t := 3) (p := 76) (v := ?vo_w54) (w1 := (wc.setCell ⟨go48, oo48 + ((ji44) : Int).toNat * 4, none⟩ (.int .i64 a5))) ?hg ?ho ?hn ?hr ?_; (case ho => rfl); (case hg => rfl); (case hn => rfl); (case hr => first | (go_simp; done) | (go_simp; rfl)); intro w54 hw; have hg : wc.grownBy w54 (some go48) := (by rw [hw]; exact HP53.2); have hp_ : Kd.Q k48 48 w54 w.heap.size (fun _ => True) (.slice (some ⟨go48, oo48, none⟩) t253.length co24) y264 := (by rw [hw, Ny264.out]; exact HP53.1); clear HP53; have n0_ := zA.mk (Kd.R_over' (v := (.slice (some ⟨go48, oo48, none⟩) t253.length co24)) (aR HO_253001) (Kd.Q_typed HO_260000.out) (by decide) hg); have n1_ := zA.mk (hp_); have n2_ := zA.mk (Kd.R_over' (v := (.slice (some ⟨go48, oo48, none⟩) t253.length co24)) (aR HO_260001) (Kd.Q_typed HO_260000.out) (by decide) hg); have n3_ := zA.mk (blk_grown (g := gb252) (o := .cells #[.slice A0 l0.length c0, .slice Ao18 t249.length co18] 60 (0, 0)) (aB BK252) hg (Kd.Q_ne HO_260000.out BK252.out (by decide))); have n4_ := zA.mk (blk_grown (g := gb259) (o := .cells #[.slice (some ⟨go48, oo48, none⟩) t253.length co24, .slice Ao27 t256.length co27] 60 (0, 0)) (aB BK259) hg (Kd.Q_ne HO_260000.out BK259.out (by decide))); have n5_ := zA.mk ((by rw [hw]; exact below_set (HB.out) GB48.out : Below w.heap.size w w54)); clear HO_253001; clear HO_260000; clear HO_260001; clear BK252; clear BK259; clear HB; have HO_253001 := n0_; have HO_260000 := n1_; have HO_260001 := n2_; have BK252 := n3_; have BK259 := n4_; have HB := n5_; clear n0_ n1_ n2_ n3_ n4_ n5_; clear hg hw hp_))
    have n0_ := zA.mk (Kd.zH HO_253001.out); have n1_ := zA.mk (Kd.Q_drew HO_260000.out); have n2_ := zA.mk (Kd.zH HO_260001.out); have n3_ := zA.mk (zC BK252.out); have n4_ := zA.mk (zC BK259.out); have n5_ := zA.mk (below_drew1 HB.out); clear HO_253001; clear HO_260000; clear HO_260001; clear BK252; clear BK259; clear HB; have HO_253001 := n0_; have HO_260000 := n1_; have HO_260001 := n2_; have BK252 := n3_; have BK259 := n4_; have HB := n5_; clear n0_ n1_ n2_ n3_ n4_ n5_; refine start_ (n := 6) (S := fun w' => w'.cell? ⟨gb259, 0, none⟩ = some (.slice (some ⟨go48, oo48, none⟩) t253.length co24) ∧ w'.cell? ⟨gb259, 1, none⟩ = some (.slice Ao27 t256.length co27)) (ds := []) #[false, false, false, false, false, false] (by kernel_rfl) rfl rfl ⟨(zE BK259.out 0).trans rfl, (zE BK259.out 1).trans rfl⟩ (fun hHeld => ?_)
    generalize w54.drew = w55 at HO_253001 HO_260000 HO_260001 BK252 BK259 HB hHeld ⊢
    refine take_ (i := 0) (N := some 125) (v := ?_) (a' := ?_) (tf_ 1 6) rfl rfl (by kernel_rfl) (fun _ _ _ h => h) (Or.inl ⟨by rfl, ?_⟩) hHeld ?_ ?_
    rotate_left
    ·rintro w' ⟨s0, s1⟩
     go_simp
     with_reducible rfl
    rotate_left
    ·simp only [Act.put, sA_, sB_, sC_, i64_w, i32_w]
     rfl
    refine take_ (i := 2) (N := some 127) (v := ?_) (a' := ?_) #[true, false, true, false, false, false] rfl rfl (by kernel_rfl) (fun _ _ _ h => h) (Or.inl ⟨by rfl, ?_⟩) hHeld ?_ ?_
    rotate_left
    ·rintro w' ⟨s0, s1⟩
     go_simp
     with_reducible rfl
    rotate_left
    ·simp only [Act.put, sA_, sB_, sC_, i64_w, i32_w]
     rfl
    refine one_ (i := 1) (N := some 126) #[true, true, true, false, false, false] rfl rfl (by kernel_rfl) (by decide) (fun K hK => ?_)
    refine goes_ Try.func28 (by kernel_rfl) rfl #[.agg #[.slice (some ⟨go48, oo48, none⟩) y264.length co24, .slice Ao27 t256.length co27]] (by rfl) rfl rfl (by (try simp only [List.map_toArray, List.map_cons, List.map_nil]); first | done | (rw [show y264.length = t253.length from (Kd.Q_reads' HO_260000.out).1.symm] <;> rfl) | rfl | (simp only [List.length_drop, List.length_take]; rfl)) ?_
    with_reducible refine (items_Check.calls kj15 _ _ y264 _ _ t256 t265 _ ?side1 ?side2 ?side3 ?side4 A49.out).mono ?_
    (case side1 => repeat (first | exact (Kd.Q_reads' HO_260000.out).2.2 | (with_reducible refine Kd.zI ?_ _) | (with_reducible refine Kd.zJ ?_ _) | (with_reducible refine Kd.zK ?_)))
    (case side2 => rw [show y264.length = t253.length from (Kd.Q_reads' HO_260000.out).1.symm]; exact (Kd.Q_reads' HO_260000.out).2.1)
    (case side3 => exact aF HO_260001)
    (case side4 => exact (Kd.zM HO_260001.out).2.1)
    rintro e w56 ⟨rfl, hb⟩
    refine ⟨_, rfl, ?_⟩
    have n0_ := zA.mk (Kd.zN (aR HO_253001) hb); have n1_ := zA.mk (Kd.Q_below (aQ HO_260000) hb); have n2_ := zA.mk (Kd.zN (aR HO_260001) hb); have n3_ := zA.mk (blk_below (g := gb252) (o := .cells #[.slice A0 l0.length c0, .slice Ao18 t249.length co18] 60 (0, 0)) (aB BK252) hb); have n4_ := zA.mk (blk_below (g := gb259) (o := .cells #[.slice (some ⟨go48, oo48, none⟩) t253.length co24, .slice Ao27 t256.length co27] 60 (0, 0)) (aB BK259) hb); have n5_ := zA.mk (below_step (aL HB) hb); clear HO_253001; clear HO_260000; clear HO_260001; clear BK252; clear BK259; clear HB; have HO_253001 := n0_; have HO_260000 := n1_; have HO_260001 := n2_; have BK252 := n3_; have BK259 := n4_; have HB := n5_; clear n0_ n1_ n2_ n3_ n4_ n5_; (try clear hb)
    (try clear hb2)
    (try clear hk)
    (try clear hi)
    refine hK.out _ _ ⟨(zE BK259.out 0).trans rfl, (zE BK259.out 1).trans rfl⟩ (fun hHeld => ?_)
    clear hK K; refine norm_ (a' := ?_) ?_ ?_
    rotate_left
    ·show Act.put _ (some 126) _ = _
     simp only [Act.put, sA_, sB_, sC_, i64_w, i32_w]; rfl
    refine one_ (i := 3) (N := some 128) #[true, true, true, true, false, false] rfl rfl (by kernel_rfl) (by decide) (fun K hK => ?_)
    refine goes_ Try.func29 (by kernel_rfl) rfl #[.agg #[.slice (some ⟨go48, oo48, none⟩) y264.length co24, .slice Ao27 t256.length co27]] (by rfl) rfl rfl (by (try simp only [List.map_toArray, List.map_cons, List.map_nil]); first | done | (rw [show y264.length = t253.length from (Kd.Q_reads' HO_260000.out).1.symm] <;> rfl) | rfl | (simp only [List.length_drop, List.length_take]; rfl)) ?_
    with_reducible refine (r0_Check.calls kj15 _ _ y264 _ _ t256 t266 _ ?side1 ?side2 ?side3 ?side4 A50.out).mono ?_
    (case side1 => repeat (first | exact (Kd.Q_reads' HO_260000.out).2.2 | (with_reducible refine Kd.zI ?_ _) | (with_reducible refine Kd.zJ ?_ _) | (with_reducible refine Kd.zK ?_)))
    (case side2 => rw [show y264.length = t253.length from (Kd.Q_reads' HO_260000.out).1.symm]; exact (Kd.Q_reads' HO_260000.out).2.1)
    (case side3 => exact aF HO_260001)
    (case side4 => exact (Kd.zM HO_260001.out).2.1)
    rintro e w57 ⟨rfl, hb⟩
    refine ⟨_, rfl, ?_⟩
    have n0_ := zA.mk (Kd.zN (aR HO_253001) hb); have n1_ := zA.mk (Kd.Q_below (aQ HO_260000) hb); have n2_ := zA.mk (Kd.zN (aR HO_260001) hb); have n3_ := zA.mk (blk_below (g := gb252) (o := .cells #[.slice A0 l0.length c0, .slice Ao18 t249.length co18] 60 (0, 0)) (aB BK252) hb); have n4_ := zA.mk (blk_below (g := gb259) (o := .cells #[.slice (some ⟨go48, oo48, none⟩) t253.length co24, .slice Ao27 t256.length co27] 60 (0, 0)) (aB BK259) hb); have n5_ := zA.mk (below_step (aL HB) hb); clear HO_253001; clear HO_260000; clear HO_260001; clear BK252; clear BK259; clear HB; have HO_253001 := n0_; have HO_260000 := n1_; have HO_260001 := n2_; have BK252 := n3_; have BK259 := n4_; have HB := n5_; clear n0_ n1_ n2_ n3_ n4_ n5_; (try clear hb)
    (try clear hb2)
    (try clear hk)
    (try clear hi)
    refine hK.out _ _ ⟨(zE BK259.out 0).trans rfl, (zE BK259.out 1).trans rfl⟩ (fun hHeld => ?_)
    clear hK K; refine norm_ (a' := ?_) ?_ ?_
    rotate_left
    ·show Act.put _ (some 128) _ = _
     simp only [Act.put, sA_, sB_, sC_, i64_w, i32_w]; rfl
    refine pure_ (i := 4) (N := some 129) (v := ?_) (a' := ?_) (tf_ 5 6) rfl rfl (by kernel_rfl) (fun _ _ _ h => h) (Or.inl ⟨by rfl, ?_⟩) ?_ ?_
    rotate_left
    ·intro w'
     go_simp
     with_reducible rfl
    rotate_left
    ·simp only [Act.put, sA_, sB_, sC_, i64_w, i32_w]
     rfl
    refine pure_ (i := 5) (N := some 12) (v := ?_) (a' := ?_) #[true, true, true, true, true, true] rfl rfl (by kernel_rfl) (fun _ _ _ h => h) (Or.inl ⟨by rfl, ?_⟩) ?_ ?_
    rotate_left
    ·intro w'
     go_simp
     with_reducible rfl
    rotate_left
    ·simp only [Act.put, sA_, sB_, sC_, i64_w, i32_w]
     rfl
    refine done_ (by kernel_rfl) ?_
    try go_wp2
    go_ret
    exact ⟨by first | rfl | (simp [errW_none, errW_some] <;> rfl) | (simp only [← hji44]; first | rfl | (simp [errW_none, errW_some] <;> rfl)) | (simp [*, errW_none, errW_some] <;> rfl), aL HB⟩
   rw [if_neg c47] at H; have c47b0 : ((Int.tmod (IntKind.u64.wrap (a4)) 8) == 0) = false := beq_eq_false_iff_ne.mpr c47
   have c47b1 : ((Int.tmod (IntKind.u64.wrap (a4)) 8) != 0) = true := bne_iff_ne.mpr c47
   by_cases c58 : (Int.tmod (IntKind.u64.wrap (a4)) 8) = 1
   ·rw [if_pos c58] at H
    have c58b0 : ((Int.tmod (IntKind.u64.wrap (a4)) 8) == 1) = true := beq_iff_eq.mpr c58
    have c58b1 : ((Int.tmod (IntKind.u64.wrap (a4)) 8) != 1) = false := bne_eq_false_iff_eq.mpr c58
    clear c58; obtain ⟨y267, hy267⟩ : ∃ y_ : List (S48), y_ = (t253.set ((ji44) : Int).toNat (⟨(rd_T48 t253 (ji44)).f0, a5, (rd_T48 t253 (ji44)).f2, (rd_T48 t253 (ji44)).f3⟩ : S48)) := ⟨_, rfl⟩; replace H : ((items_Check.f kj15 y267 t256).bind fun t268 => ((r0_Check.f kj15 y267 t256).bind fun t269 => (some (t268 == t269)))) = some r := by first | (rw [hy267]; with_reducible exact H) | (have H2_ := (Option.bind_some _ _).symm.trans H; rw [hy267]; with_reducible exact H2_) | (have H2_ := (Option.bind_some _ _).symm.trans H; with_reducible exact H2_) | with_reducible exact H | (rw [hy267]; exact H) | exact H
    have Ny267 := zA.mk hy267; clear hy267; replace H := Option.bind_eq_some_iff.mp H; obtain ⟨t268, A600, H⟩ := H; replace H : ((r0_Check.f kj15 y267 t256).bind fun t269 => (some (t268 == t269))) = some r := H
    have A60 := zA.mk A600; clear A600; replace H := Option.bind_eq_some_iff.mp H; obtain ⟨t269, A610, H⟩ := H; replace H : (some (t268 == t269)) = some r := H; have A61 := zA.mk A610; clear A610; obtain rfl := Option.some.inj H
    have hnb62 := NB259_252.out; have hnc62 := NB252_259.out; obtain ⟨hcz63_0, hcz63_1, hfz63_0, hfz63_1⟩ := aC2 BK259; have p263 : 0 ≤ ((ji44) : Int) := aD
    have q263 : (ji44) < (t253.length : Int) := aD
    obtain ⟨ad263, e263, hx263_0, hx263_1, hx263_2, hx263_3⟩ := at_T48 (Kd.Q_reads' HO_260000.out).2.2 (ji44) p263 q263; cases e263
    replace p263 := eq_true p263; replace q263 := eq_true q263; have p59 : 0 ≤ ((ji44) : Int) := aD
    have q59 : ((ji44) : Int) < ((t253.length : Int) : Int) := aD
    obtain ⟨go59, oo59, co59, eo59, gb59, gl59, cl59, HG59⟩ := Kd.Q_form HO_260000.out (by omega)
    (first | cases eo59 | (injection eo59 with ea_ en_ ec_; (first | subst ea_ | (injection ea_ with ea_; subst ea_)); subst ec_; clear en_))
    have GB59 := zA.mk gb59; have GG59 := zA.mk HG59; clear gb59 gl59 HG59; (first | simp only [add_at] at hx263_0 | skip)
    (first | simp only [add_at] at hx263_1 | skip)
    (first | simp only [add_at] at hx263_2 | skip)
    (first | simp only [add_at] at hx263_3 | skip)
    obtain ⟨ce59, hcl59, hM59, hcc59, hfr59⟩ := Kd.Q_elem HO_260000.out z48 ((ji44) : Int) p59 q59; obtain rfl := k48_openM hM59
    have hx59_0 : wc.cell? ⟨go59, oo59 + ((ji44) : Int).toNat * 4, none⟩ = some (.int .i64 ((rd_T48 t253 (ji44)).f0)) := hcc59 0 _ rfl
    have hx59_1 : wc.cell? ⟨go59, oo59 + ((ji44) : Int).toNat * 4 + 1, none⟩ = some (.int .i64 ((rd_T48 t253 (ji44)).f1)) := hcc59 1 _ rfl
    have hx59_2 : wc.cell? ⟨go59, oo59 + ((ji44) : Int).toNat * 4 + 2, none⟩ = some (.int .i64 ((rd_T48 t253 (ji44)).f2)) := hcc59 2 _ rfl
    have hx59_3 : wc.cell? ⟨go59, oo59 + ((ji44) : Int).toNat * 4 + 3, none⟩ = some (.int .u8 ((rd_T48 t253 (ji44)).f3)) := hcc59 3 _ rfl
    have hf59_0 : wc.frozen? ⟨go59, oo59 + ((ji44) : Int).toNat * 4, none⟩ = false := hfr59 0
    have hf59_1 : wc.frozen? ⟨go59, oo59 + ((ji44) : Int).toNat * 4 + 1, none⟩ = false := hfr59 1
    have hf59_2 : wc.frozen? ⟨go59, oo59 + ((ji44) : Int).toNat * 4 + 2, none⟩ = false := hfr59 2
    have hf59_3 : wc.frozen? ⟨go59, oo59 + ((ji44) : Int).toNat * 4 + 3, none⟩ = false := hfr59 3
    (try clear hcl59); (try clear hcc59); (try clear hfr59); (try clear hM59)
    replace p59 := eq_true p59; replace q59 := eq_true q59; have HX64 := zA.mk (show Kd.Q k48 48 wc w.heap.size (fun _ => True) (.slice (some ⟨go59, oo59, none⟩) t253.length co24) t253 from (aQ HO_260000))
    obtain ⟨ce64, hcl64, hM64, hcc64, hfr64⟩ := Kd.Q_elem HX64.out z48 ((ji44) : Int) (aD) (by have h_ : ((ji44) : Int) < ((t253.length : Int) : Int) := aD; first | exact h_ | (have e_ := (Kd.Q_reads' HO_260000.out).1; omega) | simpa using h_)
    obtain rfl := k48_openM hM64
    have HP64 := Kd.Q_seg HX64.out ((ji44) : Int) (aD) (by have h_ : ((ji44) : Int) < ((t253.length : Int) : Int) := aD; first | exact h_ | (have e_ := (Kd.Q_reads' HO_260000.out).1; omega) | simpa using h_) (seg := [.int .i64 a5]) (j := 1) hcl64 hcc64 (show 2 ≤ 4 from by decide) (x' := (⟨(rd_T48 t253 (ji44)).f0, a5, (rd_T48 t253 (ji44)).f2, (rd_T48 t253 (ji44)).f3⟩ : S48)) (k48_mkM _ _ _ (⟨(rd_T48 t253 (ji44)).f0, a5, (rd_T48 t253 (ji44)).f2, (rd_T48 t253 (ji44)).f3⟩ : S48) ) (fun _ hk => hk)
    have hx64_1 := hcc64 1 _ rfl; (try simp only [show (k48).sz = 4 from rfl, Nat.mul_one, Nat.add_zero] at hx64_1)
    have hf64_1 := hfr64 1; (try simp only [show (k48).sz = 4 from rfl, Nat.mul_one, Nat.add_zero] at hf64_1)
    (try clear hcl64); (try clear hcc64); (try clear hfr64); (try clear hM64)
    try go_wp2_with (first | ((with_reducible refine gate_store (t := 3) (p := 82) rfl ?_); refine store_event (t := 3) (p := 82) (v := ?vo_w65) (w1 := (wc.setCell ⟨go59, oo59 + ((ji44) : Int).toNat * 4 + 1, none⟩ (.int .i64 a5))) ?hg ?ho ?hn ?hr ?_; (case ho => rfl); (case hg => rfl); (case hn => rfl); (case hr => first | (go_simp; done) | (go_simp; rfl)); intro w65 hw; have hg : wc.grownBy w65 (some go59) := (by rw [hw]; exact HP64.2); have hp_ : Kd.Q k48 48 w65 w.heap.size (fun _ => True) (.slice (some ⟨go59, oo59, none⟩) t253.length co24) y267 := (by rw [hw, Ny267.out]; exact HP64.1); clear HP64; have n0_ := zA.mk (Kd.R_over' (v := (.slice (some ⟨go59, oo59, none⟩) t253.length co24)) (aR HO_253001) (Kd.Q_typed HO_260000.out) (by decide) hg); have n1_ := zA.mk (hp_); have n2_ := zA.mk (Kd.R_over' (v := (.slice (some ⟨go59, oo59, none⟩) t253.length co24)) (aR HO_260001) (Kd.Q_typed HO_260000.out) (by decide) hg); have n3_ := zA.mk (blk_grown (g := gb252) (o := .cells #[.slice A0 l0.length c0, .slice Ao18 t249.length co18] 60 (0, 0)) (aB BK252) hg (Kd.Q_ne HO_260000.out BK252.out (by decide))); have n4_ := zA.mk (blk_grown (g := gb259) (o := .cells #[.slice (some ⟨go59, oo59, none⟩) t253.length co24, .slice Ao27 t256.length co27] 60 (0, 0)) (aB BK259) hg (Kd.Q_ne HO_260000.out BK259.out (by decide))); have n5_ := zA.mk ((by rw [hw]; exact below_set (HB.out) GB59.out : Below w.heap.size w w65)); clear HO_253001; clear HO_260000; clear HO_260001; clear BK252; clear BK259; clear HB; have HO_253001 := n0_; have HO_260000 := n1_; have HO_260001 := n2_; have BK252 := n3_; have BK259 := n4_; have HB := n5_; clear n0_ n1_ n2_ n3_ n4_ n5_; clear hg hw hp_))
    have n0_ := zA.mk (Kd.zH HO_253001.out); have n1_ := zA.mk (Kd.Q_drew HO_260000.out); have n2_ := zA.mk (Kd.zH HO_260001.out); have n3_ := zA.mk (zC BK252.out); have n4_ := zA.mk (zC BK259.out); have n5_ := zA.mk (below_drew1 HB.out); clear HO_253001; clear HO_260000; clear HO_260001; clear BK252; clear BK259; clear HB; have HO_253001 := n0_; have HO_260000 := n1_; have HO_260001 := n2_; have BK252 := n3_; have BK259 := n4_; have HB := n5_; clear n0_ n1_ n2_ n3_ n4_ n5_; refine start_ (n := 6) (S := fun w' => w'.cell? ⟨gb259, 0, none⟩ = some (.slice (some ⟨go59, oo59, none⟩) t253.length co24) ∧ w'.cell? ⟨gb259, 1, none⟩ = some (.slice Ao27 t256.length co27)) (ds := []) #[false, false, false, false, false, false] (by kernel_rfl) rfl rfl ⟨(zE BK259.out 0).trans rfl, (zE BK259.out 1).trans rfl⟩ (fun hHeld => ?_)
    generalize w65.drew = w66 at HO_253001 HO_260000 HO_260001 BK252 BK259 HB hHeld ⊢
    refine take_ (i := 0) (N := some 125) (v := ?_) (a' := ?_) (tf_ 1 6) rfl rfl (by kernel_rfl) (fun _ _ _ h => h) (Or.inl ⟨by rfl, ?_⟩) hHeld ?_ ?_
    rotate_left
    ·rintro w' ⟨s0, s1⟩
     go_simp
     with_reducible rfl
    rotate_left
    ·simp only [Act.put, sA_, sB_, sC_, i64_w, i32_w]
     rfl
    refine take_ (i := 2) (N := some 127) (v := ?_) (a' := ?_) #[true, false, true, false, false, false] rfl rfl (by kernel_rfl) (fun _ _ _ h => h) (Or.inl ⟨by rfl, ?_⟩) hHeld ?_ ?_
    rotate_left
    ·rintro w' ⟨s0, s1⟩
     go_simp
     with_reducible rfl
    rotate_left
    ·simp only [Act.put, sA_, sB_, sC_, i64_w, i32_w]
     rfl
    refine one_ (i := 1) (N := some 126) #[true, true, true, false, false, false] rfl rfl (by kernel_rfl) (by decide) (fun K hK => ?_)
    refine goes_ Try.func28 (by kernel_rfl) rfl #[.agg #[.slice (some ⟨go59, oo59, none⟩) y267.length co24, .slice Ao27 t256.length co27]] (by rfl) rfl rfl (by (try simp only [List.map_toArray, List.map_cons, List.map_nil]); first | done | (rw [show y267.length = t253.length from (Kd.Q_reads' HO_260000.out).1.symm] <;> rfl) | rfl | (simp only [List.length_drop, List.length_take]; rfl)) ?_
    with_reducible refine (items_Check.calls kj15 _ _ y267 _ _ t256 t268 _ ?side1 ?side2 ?side3 ?side4 A60.out).mono ?_
    (case side1 => repeat (first | exact (Kd.Q_reads' HO_260000.out).2.2 | (with_reducible refine Kd.zI ?_ _) | (with_reducible refine Kd.zJ ?_ _) | (with_reducible refine Kd.zK ?_)))
    (case side2 => rw [show y267.length = t253.length from (Kd.Q_reads' HO_260000.out).1.symm]; exact (Kd.Q_reads' HO_260000.out).2.1)
    (case side3 => exact aF HO_260001)
    (case side4 => exact (Kd.zM HO_260001.out).2.1)
    rintro e w67 ⟨rfl, hb⟩
    refine ⟨_, rfl, ?_⟩
    have n0_ := zA.mk (Kd.zN (aR HO_253001) hb); have n1_ := zA.mk (Kd.Q_below (aQ HO_260000) hb); have n2_ := zA.mk (Kd.zN (aR HO_260001) hb); have n3_ := zA.mk (blk_below (g := gb252) (o := .cells #[.slice A0 l0.length c0, .slice Ao18 t249.length co18] 60 (0, 0)) (aB BK252) hb); have n4_ := zA.mk (blk_below (g := gb259) (o := .cells #[.slice (some ⟨go59, oo59, none⟩) t253.length co24, .slice Ao27 t256.length co27] 60 (0, 0)) (aB BK259) hb); have n5_ := zA.mk (below_step (aL HB) hb); clear HO_253001; clear HO_260000; clear HO_260001; clear BK252; clear BK259; clear HB; have HO_253001 := n0_; have HO_260000 := n1_; have HO_260001 := n2_; have BK252 := n3_; have BK259 := n4_; have HB := n5_; clear n0_ n1_ n2_ n3_ n4_ n5_; (try clear hb)
    (try clear hb2)
    (try clear hk)
    (try clear hi)
    refine hK.out _ _ ⟨(zE BK259.out 0).trans rfl, (zE BK259.out 1).trans rfl⟩ (fun hHeld => ?_)
    clear hK K; refine norm_ (a' := ?_) ?_ ?_
    rotate_left
    ·show Act.put _ (some 126) _ = _
     simp only [Act.put, sA_, sB_, sC_, i64_w, i32_w]; rfl
    refine one_ (i := 3) (N := some 128) #[true, true, true, true, false, false] rfl rfl (by kernel_rfl) (by decide) (fun K hK => ?_)
    refine goes_ Try.func29 (by kernel_rfl) rfl #[.agg #[.slice (some ⟨go59, oo59, none⟩) y267.length co24, .slice Ao27 t256.length co27]] (by rfl) rfl rfl (by (try simp only [List.map_toArray, List.map_cons, List.map_nil]); first | done | (rw [show y267.length = t253.length from (Kd.Q_reads' HO_260000.out).1.symm] <;> rfl) | rfl | (simp only [List.length_drop, List.length_take]; rfl)) ?_
    with_reducible refine (r0_Check.calls kj15 _ _ y267 _ _ t256 t269 _ ?side1 ?side2 ?side3 ?side4 A61.out).mono ?_
    (case side1 => repeat (first | exact (Kd.Q_reads' HO_260000.out).2.2 | (with_reducible refine Kd.zI ?_ _) | (with_reducible refine Kd.zJ ?_ _) | (with_reducible refine Kd.zK ?_)))
    (case side2 => rw [show y267.length = t253.length from (Kd.Q_reads' HO_260000.out).1.symm]; exact (Kd.Q_reads' HO_260000.out).2.1)
    (case side3 => exact aF HO_260001)
    (case side4 => exact (Kd.zM HO_260001.out).2.1)
    rintro e w68 ⟨rfl, hb⟩
    refine ⟨_, rfl, ?_⟩
    have n0_ := zA.mk (Kd.zN (aR HO_253001) hb); have n1_ := zA.mk (Kd.Q_below (aQ HO_260000) hb); have n2_ := zA.mk (Kd.zN (aR HO_260001) hb); have n3_ := zA.mk (blk_below (g := gb252) (o := .cells #[.slice A0 l0.length c0, .slice Ao18 t249.length co18] 60 (0, 0)) (aB BK252) hb); have n4_ := zA.mk (blk_below (g := gb259) (o := .cells #[.slice (some ⟨go59, oo59, none⟩) t253.length co24, .slice Ao27 t256.length co27] 60 (0, 0)) (aB BK259) hb); have n5_ := zA.mk (below_step (aL HB) hb); clear HO_253001; clear HO_260000; clear HO_260001; clear BK252; clear BK259; clear HB; have HO_253001 := n0_; have HO_260000 := n1_; have HO_260001 := n2_; have BK252 := n3_; have BK259 := n4_; have HB := n5_; clear n0_ n1_ n2_ n3_ n4_ n5_; (try clear hb)
    (try clear hb2)
    (try clear hk)
    (try clear hi)
    refine hK.out _ _ ⟨(zE BK259.out 0).trans rfl, (zE BK259.out 1).trans rfl⟩ (fun hHeld => ?_)
    clear hK K; refine norm_ (a' := ?_) ?_ ?_
    rotate_left
    ·show Act.put _ (some 128) _ = _
     simp only [Act.put, sA_, sB_, sC_, i64_w, i32_w]; rfl
    refine pure_ (i := 4) (N := some 129) (v := ?_) (a' := ?_) (tf_ 5 6) rfl rfl (by kernel_rfl) (fun _ _ _ h => h) (Or.inl ⟨by rfl, ?_⟩) ?_ ?_
    rotate_left
    ·intro w'
     go_simp
     with_reducible rfl
    rotate_left
    ·simp only [Act.put, sA_, sB_, sC_, i64_w, i32_w]
     rfl
    refine pure_ (i := 5) (N := some 12) (v := ?_) (a' := ?_) #[true, true, true, true, true, true] rfl rfl (by kernel_rfl) (fun _ _ _ h => h) (Or.inl ⟨by rfl, ?_⟩) ?_ ?_
    rotate_left
    ·intro w'
     go_simp
     with_reducible rfl
    rotate_left
    ·simp only [Act.put, sA_, sB_, sC_, i64_w, i32_w]
     rfl
    refine done_ (by kernel_rfl) ?_
    try go_wp2
    go_ret
    exact ⟨by first | rfl | (simp [errW_none, errW_some] <;> rfl) | (simp only [← hji44]; first | rfl | (simp [errW_none, errW_some] <;> rfl)) | (simp [*, errW_none, errW_some] <;> rfl), aL HB⟩
   rw [if_neg c58] at H; have c58b0 : ((Int.tmod (IntKind.u64.wrap (a4)) 8) == 1) = false := beq_eq_false_iff_ne.mpr c58
   have c58b1 : ((Int.tmod (IntKind.u64.wrap (a4)) 8) != 1) = true := bne_iff_ne.mpr c58
   by_cases c69 : (Int.tmod (IntKind.u64.wrap (a4)) 8) = 2
   ·rw [if_pos c69] at H
    have c69b0 : ((Int.tmod (IntKind.u64.wrap (a4)) 8) == 2) = true := beq_iff_eq.mpr c69
    have c69b1 : ((Int.tmod (IntKind.u64.wrap (a4)) 8) != 2) = false := bne_eq_false_iff_eq.mpr c69
    clear c69; obtain ⟨y270, hy270⟩ : ∃ y_ : List (S48), y_ = (t253.set ((ji44) : Int).toNat (⟨(rd_T48 t253 (ji44)).f0, (rd_T48 t253 (ji44)).f1, a5, (rd_T48 t253 (ji44)).f3⟩ : S48)) := ⟨_, rfl⟩; replace H : ((items_Check.f kj15 y270 t256).bind fun t271 => ((r0_Check.f kj15 y270 t256).bind fun t272 => (some (t271 == t272)))) = some r := by first | (rw [hy270]; with_reducible exact H) | (have H2_ := (Option.bind_some _ _).symm.trans H; rw [hy270]; with_reducible exact H2_) | (have H2_ := (Option.bind_some _ _).symm.trans H; with_reducible exact H2_) | with_reducible exact H | (rw [hy270]; exact H) | exact H
    have Ny270 := zA.mk hy270; clear hy270; replace H := Option.bind_eq_some_iff.mp H; obtain ⟨t271, A710, H⟩ := H; replace H : ((r0_Check.f kj15 y270 t256).bind fun t272 => (some (t271 == t272))) = some r := H
    have A71 := zA.mk A710; clear A710; replace H := Option.bind_eq_some_iff.mp H; obtain ⟨t272, A720, H⟩ := H; replace H : (some (t271 == t272)) = some r := H; have A72 := zA.mk A720; clear A720; obtain rfl := Option.some.inj H
    have hnb73 := NB259_252.out; have hnc73 := NB252_259.out; obtain ⟨hcz74_0, hcz74_1, hfz74_0, hfz74_1⟩ := aC2 BK259; have p263 : 0 ≤ ((ji44) : Int) := aD
    have q263 : (ji44) < (t253.length : Int) := aD
    obtain ⟨ad263, e263, hx263_0, hx263_1, hx263_2, hx263_3⟩ := at_T48 (Kd.Q_reads' HO_260000.out).2.2 (ji44) p263 q263; cases e263
    replace p263 := eq_true p263; replace q263 := eq_true q263; have p70 : 0 ≤ ((ji44) : Int) := aD
    have q70 : ((ji44) : Int) < ((t253.length : Int) : Int) := aD
    obtain ⟨go70, oo70, co70, eo70, gb70, gl70, cl70, HG70⟩ := Kd.Q_form HO_260000.out (by omega)
    (first | cases eo70 | (injection eo70 with ea_ en_ ec_; (first | subst ea_ | (injection ea_ with ea_; subst ea_)); subst ec_; clear en_))
    have GB70 := zA.mk gb70; have GG70 := zA.mk HG70; clear gb70 gl70 HG70; (first | simp only [add_at] at hx263_0 | skip)
    (first | simp only [add_at] at hx263_1 | skip)
    (first | simp only [add_at] at hx263_2 | skip)
    (first | simp only [add_at] at hx263_3 | skip)
    obtain ⟨ce70, hcl70, hM70, hcc70, hfr70⟩ := Kd.Q_elem HO_260000.out z48 ((ji44) : Int) p70 q70; obtain rfl := k48_openM hM70
    have hx70_0 : wc.cell? ⟨go70, oo70 + ((ji44) : Int).toNat * 4, none⟩ = some (.int .i64 ((rd_T48 t253 (ji44)).f0)) := hcc70 0 _ rfl
    have hx70_1 : wc.cell? ⟨go70, oo70 + ((ji44) : Int).toNat * 4 + 1, none⟩ = some (.int .i64 ((rd_T48 t253 (ji44)).f1)) := hcc70 1 _ rfl
    have hx70_2 : wc.cell? ⟨go70, oo70 + ((ji44) : Int).toNat * 4 + 2, none⟩ = some (.int .i64 ((rd_T48 t253 (ji44)).f2)) := hcc70 2 _ rfl
    have hx70_3 : wc.cell? ⟨go70, oo70 + ((ji44) : Int).toNat * 4 + 3, none⟩ = some (.int .u8 ((rd_T48 t253 (ji44)).f3)) := hcc70 3 _ rfl
    have hf70_0 : wc.frozen? ⟨go70, oo70 + ((ji44) : Int).toNat * 4, none⟩ = false := hfr70 0
    have hf70_1 : wc.frozen? ⟨go70, oo70 + ((ji44) : Int).toNat * 4 + 1, none⟩ = false := hfr70 1
    have hf70_2 : wc.frozen? ⟨go70, oo70 + ((ji44) : Int).toNat * 4 + 2, none⟩ = false := hfr70 2
    have hf70_3 : wc.frozen? ⟨go70, oo70 + ((ji44) : Int).toNat * 4 + 3, none⟩ = false := hfr70 3
    (try clear hcl70); (try clear hcc70); (try clear hfr70); (try clear hM70)
    replace p70 := eq_true p70; replace q70 := eq_true q70; have HX75 := zA.mk (show Kd.Q k48 48 wc w.heap.size (fun _ => True) (.slice (some ⟨go70, oo70, none⟩) t253.length co24) t253 from (aQ HO_260000))
    obtain ⟨ce75, hcl75, hM75, hcc75, hfr75⟩ := Kd.Q_elem HX75.out z48 ((ji44) : Int) (aD) (by have h_ : ((ji44) : Int) < ((t253.length : Int) : Int) := aD; first | exact h_ | (have e_ := (Kd.Q_reads' HO_260000.out).1; omega) | simpa using h_)
    obtain rfl := k48_openM hM75
    have HP75 := Kd.Q_seg HX75.out ((ji44) : Int) (aD) (by have h_ : ((ji44) : Int) < ((t253.length : Int) : Int) := aD; first | exact h_ | (have e_ := (Kd.Q_reads' HO_260000.out).1; omega) | simpa using h_) (seg := [.int .i64 a5]) (j := 2) hcl75 hcc75 (show 3 ≤ 4 from by decide) (x' := (⟨(rd_T48 t253 (ji44)).f0, (rd_T48 t253 (ji44)).f1, a5, (rd_T48 t253 (ji44)).f3⟩ : S48)) (k48_mkM _ _ _ (⟨(rd_T48 t253 (ji44)).f0, (rd_T48 t253 (ji44)).f1, a5, (rd_T48 t253 (ji44)).f3⟩ : S48) ) (fun _ hk => hk)
    have hx75_2 := hcc75 2 _ rfl; (try simp only [show (k48).sz = 4 from rfl, Nat.mul_one, Nat.add_zero] at hx75_2)
    have hf75_2 := hfr75 2; (try simp only [show (k48).sz = 4 from rfl, Nat.mul_one, Nat.add_zero] at hf75_2)
    (try clear hcl75); (try clear hcc75); (try clear hfr75); (try clear hM75)
    try go_wp2_with (first | ((with_reducible refine gate_store (t := 3) (p := 88) rfl ?_); refine store_event (t := 3) (p := 88) (v := ?vo_w76) (w1 := (wc.setCell ⟨go70, oo70 + ((ji44) : Int).toNat * 4 + 2, none⟩ (.int .i64 a5))) ?hg ?ho ?hn ?hr ?_; (case ho => rfl); (case hg => rfl); (case hn => rfl); (case hr => first | (go_simp; done) | (go_simp; rfl)); intro w76 hw; have hg : wc.grownBy w76 (some go70) := (by rw [hw]; exact HP75.2); have hp_ : Kd.Q k48 48 w76 w.heap.size (fun _ => True) (.slice (some ⟨go70, oo70, none⟩) t253.length co24) y270 := (by rw [hw, Ny270.out]; exact HP75.1); clear HP75; have n0_ := zA.mk (Kd.R_over' (v := (.slice (some ⟨go70, oo70, none⟩) t253.length co24)) (aR HO_253001) (Kd.Q_typed HO_260000.out) (by decide) hg); have n1_ := zA.mk (hp_); have n2_ := zA.mk (Kd.R_over' (v := (.slice (some ⟨go70, oo70, none⟩) t253.length co24)) (aR HO_260001) (Kd.Q_typed HO_260000.out) (by decide) hg); have n3_ := zA.mk (blk_grown (g := gb252) (o := .cells #[.slice A0 l0.length c0, .slice Ao18 t249.length co18] 60 (0, 0)) (aB BK252) hg (Kd.Q_ne HO_260000.out BK252.out (by decide))); have n4_ := zA.mk (blk_grown (g := gb259) (o := .cells #[.slice (some ⟨go70, oo70, none⟩) t253.length co24, .slice Ao27 t256.length co27] 60 (0, 0)) (aB BK259) hg (Kd.Q_ne HO_260000.out BK259.out (by decide))); have n5_ := zA.mk ((by rw [hw]; exact below_set (HB.out) GB70.out : Below w.heap.size w w76)); clear HO_253001; clear HO_260000; clear HO_260001; clear BK252; clear BK259; clear HB; have HO_253001 := n0_; have HO_260000 := n1_; have HO_260001 := n2_; have BK252 := n3_; have BK259 := n4_; have HB := n5_; clear n0_ n1_ n2_ n3_ n4_ n5_; clear hg hw hp_))
    have n0_ := zA.mk (Kd.zH HO_253001.out); have n1_ := zA.mk (Kd.Q_drew HO_260000.out); have n2_ := zA.mk (Kd.zH HO_260001.out); have n3_ := zA.mk (zC BK252.out); have n4_ := zA.mk (zC BK259.out); have n5_ := zA.mk (below_drew1 HB.out); clear HO_253001; clear HO_260000; clear HO_260001; clear BK252; clear BK259; clear HB; have HO_253001 := n0_; have HO_260000 := n1_; have HO_260001 := n2_; have BK252 := n3_; have BK259 := n4_; have HB := n5_; clear n0_ n1_ n2_ n3_ n4_ n5_; refine start_ (n := 6) (S := fun w' => w'.cell? ⟨gb259, 0, none⟩ = some (.slice (some ⟨go70, oo70, none⟩) t253.length co24) ∧ w'.cell? ⟨gb259, 1, none⟩ = some (.slice Ao27 t256.length co27)) (ds := []) #[false, false, false, false, false, false] (by kernel_rfl) rfl rfl ⟨(zE BK259.out 0).trans rfl, (zE BK259.out 1).trans rfl⟩ (fun hHeld => ?_)
    generalize w76.drew = w77 at HO_253001 HO_260000 HO_260001 BK252 BK259 HB hHeld ⊢
    refine take_ (i := 0) (N := some 125) (v := ?_) (a' := ?_) (tf_ 1 6) rfl rfl (by kernel_rfl) (fun _ _ _ h => h) (Or.inl ⟨by rfl, ?_⟩) hHeld ?_ ?_
    rotate_left
    ·rintro w' ⟨s0, s1⟩
     go_simp
     with_reducible rfl
    rotate_left
    ·simp only [Act.put, sA_, sB_, sC_, i64_w, i32_w]
     rfl
    refine take_ (i := 2) (N := some 127) (v := ?_) (a' := ?_) #[true, false, true, false, false, false] rfl rfl (by kernel_rfl) (fun _ _ _ h => h) (Or.inl ⟨by rfl, ?_⟩) hHeld ?_ ?_
    rotate_left
    ·rintro w' ⟨s0, s1⟩
     go_simp
     with_reducible rfl
    rotate_left
    ·simp only [Act.put, sA_, sB_, sC_, i64_w, i32_w]
     rfl
    refine one_ (i := 1) (N := some 126) #[true, true, true, false, false, false] rfl rfl (by kernel_rfl) (by decide) (fun K hK => ?_)
    refine goes_ Try.func28 (by kernel_rfl) rfl #[.agg #[.slice (some ⟨go70, oo70, none⟩) y270.length co24, .slice Ao27 t256.length co27]] (by rfl) rfl rfl (by (try simp only [List.map_toArray, List.map_cons, List.map_nil]); first | done | (rw [show y270.length = t253.length from (Kd.Q_reads' HO_260000.out).1.symm] <;> rfl) | rfl | (simp only [List.length_drop, List.length_take]; rfl)) ?_
    with_reducible refine (items_Check.calls kj15 _ _ y270 _ _ t256 t271 _ ?side1 ?side2 ?side3 ?side4 A71.out).mono ?_
    (case side1 => repeat (first | exact (Kd.Q_reads' HO_260000.out).2.2 | (with_reducible refine Kd.zI ?_ _) | (with_reducible refine Kd.zJ ?_ _) | (with_reducible refine Kd.zK ?_)))
    (case side2 => rw [show y270.length = t253.length from (Kd.Q_reads' HO_260000.out).1.symm]; exact (Kd.Q_reads' HO_260000.out).2.1)
    (case side3 => exact aF HO_260001)
    (case side4 => exact (Kd.zM HO_260001.out).2.1)
    rintro e w78 ⟨rfl, hb⟩
    refine ⟨_, rfl, ?_⟩
    have n0_ := zA.mk (Kd.zN (aR HO_253001) hb); have n1_ := zA.mk (Kd.Q_below (aQ HO_260000) hb); have n2_ := zA.mk (Kd.zN (aR HO_260001) hb); have n3_ := zA.mk (blk_below (g := gb252) (o := .cells #[.slice A0 l0.length c0, .slice Ao18 t249.length co18] 60 (0, 0)) (aB BK252) hb); have n4_ := zA.mk (blk_below (g := gb259) (o := .cells #[.slice (some ⟨go70, oo70, none⟩) t253.length co24, .slice Ao27 t256.length co27] 60 (0, 0)) (aB BK259) hb); have n5_ := zA.mk (below_step (aL HB) hb); clear HO_253001; clear HO_260000; clear HO_260001; clear BK252; clear BK259; clear HB; have HO_253001 := n0_; have HO_260000 := n1_; have HO_260001 := n2_; have BK252 := n3_; have BK259 := n4_; have HB := n5_; clear n0_ n1_ n2_ n3_ n4_ n5_; (try clear hb)
    (try clear hb2)
    (try clear hk)
    (try clear hi)
    refine hK.out _ _ ⟨(zE BK259.out 0).trans rfl, (zE BK259.out 1).trans rfl⟩ (fun hHeld => ?_)
    clear hK K; refine norm_ (a' := ?_) ?_ ?_
    rotate_left
    ·show Act.put _ (some 126) _ = _
     simp only [Act.put, sA_, sB_, sC_, i64_w, i32_w]; rfl
    refine one_ (i := 3) (N := some 128) #[true, true, true, true, false, false] rfl rfl (by kernel_rfl) (by decide) (fun K hK => ?_)
    refine goes_ Try.func29 (by kernel_rfl) rfl #[.agg #[.slice (some ⟨go70, oo70, none⟩) y270.length co24, .slice Ao27 t256.length co27]] (by rfl) rfl rfl (by (try simp only [List.map_toArray, List.map_cons, List.map_nil]); first | done | (rw [show y270.length = t253.length from (Kd.Q_reads' HO_260000.out).1.symm] <;> rfl) | rfl | (simp only [List.length_drop, List.length_take]; rfl)) ?_
    with_reducible refine (r0_Check.calls kj15 _ _ y270 _ _ t256 t272 _ ?side1 ?side2 ?side3 ?side4 A72.out).mono ?_
    (case side1 => repeat (first | exact (Kd.Q_reads' HO_260000.out).2.2 | (with_reducible refine Kd.zI ?_ _) | (with_reducible refine Kd.zJ ?_ _) | (with_reducible refine Kd.zK ?_)))
    (case side2 => rw [show y270.length = t253.length from (Kd.Q_reads' HO_260000.out).1.symm]; exact (Kd.Q_reads' HO_260000.out).2.1)
    (case side3 => exact aF HO_260001)
    (case side4 => exact (Kd.zM HO_260001.out).2.1)
    rintro e w79 ⟨rfl, hb⟩
    refine ⟨_, rfl, ?_⟩
    have n0_ := zA.mk (Kd.zN (aR HO_253001) hb); have n1_ := zA.mk (Kd.Q_below (aQ HO_260000) hb); have n2_ := zA.mk (Kd.zN (aR HO_260001) hb); have n3_ := zA.mk (blk_below (g := gb252) (o := .cells #[.slice A0 l0.length c0, .slice Ao18 t249.length co18] 60 (0, 0)) (aB BK252) hb); have n4_ := zA.mk (blk_below (g := gb259) (o := .cells #[.slice (some ⟨go70, oo70, none⟩) t253.length co24, .slice Ao27 t256.length co27] 60 (0, 0)) (aB BK259) hb); have n5_ := zA.mk (below_step (aL HB) hb); clear HO_253001; clear HO_260000; clear HO_260001; clear BK252; clear BK259; clear HB; have HO_253001 := n0_; have HO_260000 := n1_; have HO_260001 := n2_; have BK252 := n3_; have BK259 := n4_; have HB := n5_; clear n0_ n1_ n2_ n3_ n4_ n5_; (try clear hb)
    (try clear hb2)
    (try clear hk)
    (try clear hi)
    refine hK.out _ _ ⟨(zE BK259.out 0).trans rfl, (zE BK259.out 1).trans rfl⟩ (fun hHeld => ?_)
    clear hK K; refine norm_ (a' := ?_) ?_ ?_
    rotate_left
    ·show Act.put _ (some 128) _ = _
     simp only [Act.put, sA_, sB_, sC_, i64_w, i32_w]; rfl
    refine pure_ (i := 4) (N := some 129) (v := ?_) (a' := ?_) (tf_ 5 6) rfl rfl (by kernel_rfl) (fun _ _ _ h => h) (Or.inl ⟨by rfl, ?_⟩) ?_ ?_
    rotate_left
    ·intro w'
     go_simp
     with_reducible rfl
    rotate_left
    ·simp only [Act.put, sA_, sB_, sC_, i64_w, i32_w]
     rfl
    refine pure_ (i := 5) (N := some 12) (v := ?_) (a' := ?_) #[true, true, true, true, true, true] rfl rfl (by kernel_rfl) (fun _ _ _ h => h) (Or.inl ⟨by rfl, ?_⟩) ?_ ?_
    rotate_left
    ·intro w'
     go_simp
     with_reducible rfl
    rotate_left
    ·simp only [Act.put, sA_, sB_, sC_, i64_w, i32_w]
     rfl
    refine done_ (by kernel_rfl) ?_
    try go_wp2
    go_ret
    exact ⟨by first | rfl | (simp [errW_none, errW_some] <;> rfl) | (simp only [← hji44]; first | rfl | (simp [errW_none, errW_some] <;> rfl)) | (simp [*, errW_none, errW_some] <;> rfl), aL HB⟩
   rw [if_neg c69] at H; have c69b0 : ((Int.tmod (IntKind.u64.wrap (a4)) 8) == 2) = false := beq_eq_false_iff_ne.mpr c69
   have c69b1 : ((Int.tmod (IntKind.u64.wrap (a4)) 8) != 2) = true := bne_iff_ne.mpr c69
   by_cases c80 : (Int.tmod (IntKind.u64.wrap (a4)) 8) = 3
   ·rw [if_pos c80] at H
    have c80b0 : ((Int.tmod (IntKind.u64.wrap (a4)) 8) == 3) = true := beq_iff_eq.mpr c80
    have c80b1 : ((Int.tmod (IntKind.u64.wrap (a4)) 8) != 3) = false := bne_eq_false_iff_eq.mpr c80
    clear c80; obtain ⟨y273, hy273⟩ : ∃ y_ : List (S48), y_ = (t253.set ((ji44) : Int).toNat (⟨(rd_T48 t253 (ji44)).f0, (rd_T48 t253 (ji44)).f1, (rd_T48 t253 (ji44)).f2, (a5) % 256⟩ : S48)) := ⟨_, rfl⟩; replace H : ((items_Check.f kj15 y273 t256).bind fun t274 => ((r0_Check.f kj15 y273 t256).bind fun t275 => (some (t274 == t275)))) = some r := by first | (rw [hy273]; with_reducible exact H) | (have H2_ := (Option.bind_some _ _).symm.trans H; rw [hy273]; with_reducible exact H2_) | (have H2_ := (Option.bind_some _ _).symm.trans H; with_reducible exact H2_) | with_reducible exact H | (rw [hy273]; exact H) | exact H
    have Ny273 := zA.mk hy273; clear hy273; replace H := Option.bind_eq_some_iff.mp H; obtain ⟨t274, A820, H⟩ := H; replace H : ((r0_Check.f kj15 y273 t256).bind fun t275 => (some (t274 == t275))) = some r := H
    have A82 := zA.mk A820; clear A820; replace H := Option.bind_eq_some_iff.mp H; obtain ⟨t275, A830, H⟩ := H; replace H : (some (t274 == t275)) = some r := H; have A83 := zA.mk A830; clear A830; obtain rfl := Option.some.inj H
    have hnb84 := NB259_252.out; have hnc84 := NB252_259.out; obtain ⟨hcz85_0, hcz85_1, hfz85_0, hfz85_1⟩ := aC2 BK259; have p263 : 0 ≤ ((ji44) : Int) := aD
    have q263 : (ji44) < (t253.length : Int) := aD
    obtain ⟨ad263, e263, hx263_0, hx263_1, hx263_2, hx263_3⟩ := at_T48 (Kd.Q_reads' HO_260000.out).2.2 (ji44) p263 q263; cases e263
    replace p263 := eq_true p263; replace q263 := eq_true q263; have p81 : 0 ≤ ((ji44) : Int) := aD
    have q81 : ((ji44) : Int) < ((t253.length : Int) : Int) := aD
    obtain ⟨go81, oo81, co81, eo81, gb81, gl81, cl81, HG81⟩ := Kd.Q_form HO_260000.out (by omega)
    (first | cases eo81 | (injection eo81 with ea_ en_ ec_; (first | subst ea_ | (injection ea_ with ea_; subst ea_)); subst ec_; clear en_))
    have GB81 := zA.mk gb81; have GG81 := zA.mk HG81; clear gb81 gl81 HG81; (first | simp only [add_at] at hx263_0 | skip)
    (first | simp only [add_at] at hx263_1 | skip)
    (first | simp only [add_at] at hx263_2 | skip)
    (first | simp only [add_at] at hx263_3 | skip)
    obtain ⟨ce81, hcl81, hM81, hcc81, hfr81⟩ := Kd.Q_elem HO_260000.out z48 ((ji44) : Int) p81 q81; obtain rfl := k48_openM hM81
    have hx81_0 : wc.cell? ⟨go81, oo81 + ((ji44) : Int).toNat * 4, none⟩ = some (.int .i64 ((rd_T48 t253 (ji44)).f0)) := hcc81 0 _ rfl
    have hx81_1 : wc.cell? ⟨go81, oo81 + ((ji44) : Int).toNat * 4 + 1, none⟩ = some (.int .i64 ((rd_T48 t253 (ji44)).f1)) := hcc81 1 _ rfl
    have hx81_2 : wc.cell? ⟨go81, oo81 + ((ji44) : Int).toNat * 4 + 2, none⟩ = some (.int .i64 ((rd_T48 t253 (ji44)).f2)) := hcc81 2 _ rfl
    have hx81_3 : wc.cell? ⟨go81, oo81 + ((ji44) : Int).toNat * 4 + 3, none⟩ = some (.int .u8 ((rd_T48 t253 (ji44)).f3)) := hcc81 3 _ rfl
    have hf81_0 : wc.frozen? ⟨go81, oo81 + ((ji44) : Int).toNat * 4, none⟩ = false := hfr81 0
    have hf81_1 : wc.frozen? ⟨go81, oo81 + ((ji44) : Int).toNat * 4 + 1, none⟩ = false := hfr81 1
    have hf81_2 : wc.frozen? ⟨go81, oo81 + ((ji44) : Int).toNat * 4 + 2, none⟩ = false := hfr81 2
    have hf81_3 : wc.frozen? ⟨go81, oo81 + ((ji44) : Int).toNat * 4 + 3, none⟩ = false := hfr81 3
    (try clear hcl81); (try clear hcc81); (try clear hfr81); (try clear hM81)
    replace p81 := eq_true p81; replace q81 := eq_true q81; have HX86 := zA.mk (show Kd.Q k48 48 wc w.heap.size (fun _ => True) (.slice (some ⟨go81, oo81, none⟩) t253.length co24) t253 from (aQ HO_260000))
    obtain ⟨ce86, hcl86, hM86, hcc86, hfr86⟩ := Kd.Q_elem HX86.out z48 ((ji44) : Int) (aD) (by have h_ : ((ji44) : Int) < ((t253.length : Int) : Int) := aD; first | exact h_ | (have e_ := (Kd.Q_reads' HO_260000.out).1; omega) | simpa using h_)
    obtain rfl := k48_openM hM86
    have HP86 := Kd.Q_seg HX86.out ((ji44) : Int) (aD) (by have h_ : ((ji44) : Int) < ((t253.length : Int) : Int) := aD; first | exact h_ | (have e_ := (Kd.Q_reads' HO_260000.out).1; omega) | simpa using h_) (seg := [.int .u8 ((a5) % 256)]) (j := 3) hcl86 hcc86 (show 4 ≤ 4 from by decide) (x' := (⟨(rd_T48 t253 (ji44)).f0, (rd_T48 t253 (ji44)).f1, (rd_T48 t253 (ji44)).f2, (a5) % 256⟩ : S48)) (k48_mkM _ _ _ (⟨(rd_T48 t253 (ji44)).f0, (rd_T48 t253 (ji44)).f1, (rd_T48 t253 (ji44)).f2, (a5) % 256⟩ : S48) ) (fun _ hk => hk)
    have hx86_3 := hcc86 3 _ rfl; (try simp only [show (k48).sz = 4 from rfl, Nat.mul_one, Nat.add_zero] at hx86_3)
    have hf86_3 := hfr86 3; (try simp only [show (k48).sz = 4 from rfl, Nat.mul_one, Nat.add_zero] at hf86_3)
    (try clear hcl86); (try clear hcc86); (try clear hfr86); (try clear hM86)
    try go_wp2_with (first | ((with_reducible refine gate_store (t := 46) (p := 95) rfl ?_); refine store_event (t := 46) (p := 95) (v := ?vo_w87) (w1 := (wc.setCell ⟨go81, oo81 + ((ji44) : Int).toNat * 4 + 3, none⟩ (.int .u8 ((a5) % 256)))) ?hg ?ho ?hn ?hr ?_; (case ho => rfl); (case hg => rfl); (case hn => rfl); (case hr => first | (go_simp; done) | (go_simp; rfl)); intro w87 hw; have hg : wc.grownBy w87 (some go81) := (by rw [hw]; exact HP86.2); have hp_ : Kd.Q k48 48 w87 w.heap.size (fun _ => True) (.slice (some ⟨go81, oo81, none⟩) t253.length co24) y273 := (by rw [hw, Ny273.out]; exact HP86.1); clear HP86; have n0_ := zA.mk (Kd.R_over' (v := (.slice (some ⟨go81, oo81, none⟩) t253.length co24)) (aR HO_253001) (Kd.Q_typed HO_260000.out) (by decide) hg); have n1_ := zA.mk (hp_); have n2_ := zA.mk (Kd.R_over' (v := (.slice (some ⟨go81, oo81, none⟩) t253.length co24)) (aR HO_260001) (Kd.Q_typed HO_260000.out) (by decide) hg); have n3_ := zA.mk (blk_grown (g := gb252) (o := .cells #[.slice A0 l0.length c0, .slice Ao18 t249.length co18] 60 (0, 0)) (aB BK252) hg (Kd.Q_ne HO_260000.out BK252.out (by decide))); have n4_ := zA.mk (blk_grown (g := gb259) (o := .cells #[.slice (some ⟨go81, oo81, none⟩) t253.length co24, .slice Ao27 t256.length co27] 60 (0, 0)) (aB BK259) hg (Kd.Q_ne HO_260000.out BK259.out (by decide))); have n5_ := zA.mk ((by rw [hw]; exact below_set (HB.out) GB81.out : Below w.heap.size w w87)); clear HO_253001; clear HO_260000; clear HO_260001; clear BK252; clear BK259; clear HB; have HO_253001 := n0_; have HO_260000 := n1_; have HO_260001 := n2_; have BK252 := n3_; have BK259 := n4_; have HB := n5_; clear n0_ n1_ n2_ n3_ n4_ n5_; clear hg hw hp_))
    have n0_ := zA.mk (Kd.zH HO_253001.out); have n1_ := zA.mk (Kd.Q_drew HO_260000.out); have n2_ := zA.mk (Kd.zH HO_260001.out); have n3_ := zA.mk (zC BK252.out); have n4_ := zA.mk (zC BK259.out); have n5_ := zA.mk (below_drew1 HB.out); clear HO_253001; clear HO_260000; clear HO_260001; clear BK252; clear BK259; clear HB; have HO_253001 := n0_; have HO_260000 := n1_; have HO_260001 := n2_; have BK252 := n3_; have BK259 := n4_; have HB := n5_; clear n0_ n1_ n2_ n3_ n4_ n5_; refine start_ (n := 6) (S := fun w' => w'.cell? ⟨gb259, 0, none⟩ = some (.slice (some ⟨go81, oo81, none⟩) t253.length co24) ∧ w'.cell? ⟨gb259, 1, none⟩ = some (.slice Ao27 t256.length co27)) (ds := []) #[false, false, false, false, false, false] (by kernel_rfl) rfl rfl ⟨(zE BK259.out 0).trans rfl, (zE BK259.out 1).trans rfl⟩ (fun hHeld => ?_)
    generalize w87.drew = w88 at HO_253001 HO_260000 HO_260001 BK252 BK259 HB hHeld ⊢
    refine take_ (i := 0) (N := some 125) (v := ?_) (a' := ?_) (tf_ 1 6) rfl rfl (by kernel_rfl) (fun _ _ _ h => h) (Or.inl ⟨by rfl, ?_⟩) hHeld ?_ ?_
    rotate_left
    ·rintro w' ⟨s0, s1⟩
     go_simp
     with_reducible rfl
    rotate_left
    ·simp only [Act.put, sA_, sB_, sC_, i64_w, i32_w]
     rfl
    refine take_ (i := 2) (N := some 127) (v := ?_) (a' := ?_) #[true, false, true, false, false, false] rfl rfl (by kernel_rfl) (fun _ _ _ h => h) (Or.inl ⟨by rfl, ?_⟩) hHeld ?_ ?_
    rotate_left
    ·rintro w' ⟨s0, s1⟩
     go_simp
     with_reducible rfl
    rotate_left
    ·simp only [Act.put, sA_, sB_, sC_, i64_w, i32_w]
     rfl
    refine one_ (i := 1) (N := some 126) #[true, true, true, false, false, false] rfl rfl (by kernel_rfl) (by decide) (fun K hK => ?_)
    refine goes_ Try.func28 (by kernel_rfl) rfl #[.agg #[.slice (some ⟨go81, oo81, none⟩) y273.length co24, .slice Ao27 t256.length co27]] (by rfl) rfl rfl (by (try simp only [List.map_toArray, List.map_cons, List.map_nil]); first | done | (rw [show y273.length = t253.length from (Kd.Q_reads' HO_260000.out).1.symm] <;> rfl) | rfl | (simp only [List.length_drop, List.length_take]; rfl)) ?_
    with_reducible refine (items_Check.calls kj15 _ _ y273 _ _ t256 t274 _ ?side1 ?side2 ?side3 ?side4 A82.out).mono ?_
    (case side1 => repeat (first | exact (Kd.Q_reads' HO_260000.out).2.2 | (with_reducible refine Kd.zI ?_ _) | (with_reducible refine Kd.zJ ?_ _) | (with_reducible refine Kd.zK ?_)))
    (case side2 => rw [show y273.length = t253.length from (Kd.Q_reads' HO_260000.out).1.symm]; exact (Kd.Q_reads' HO_260000.out).2.1)
    (case side3 => exact aF HO_260001)
    (case side4 => exact (Kd.zM HO_260001.out).2.1)
    rintro e w89 ⟨rfl, hb⟩
    refine ⟨_, rfl, ?_⟩
    have n0_ := zA.mk (Kd.zN (aR HO_253001) hb); have n1_ := zA.mk (Kd.Q_below (aQ HO_260000) hb); have n2_ := zA.mk (Kd.zN (aR HO_260001) hb); have n3_ := zA.mk (blk_below (g := gb252) (o := .cells #[.slice A0 l0.length c0, .slice Ao18 t249.length co18] 60 (0, 0)) (aB BK252) hb); have n4_ := zA.mk (blk_below (g := gb259) (o := .cells #[.slice (some ⟨go81, oo81, none⟩) t253.length co24, .slice Ao27 t256.length co27] 60 (0, 0)) (aB BK259) hb); have n5_ := zA.mk (below_step (aL HB) hb); clear HO_253001; clear HO_260000; clear HO_260001; clear BK252; clear BK259; clear HB; have HO_253001 := n0_; have HO_260000 := n1_; have HO_260001 := n2_; have BK252 := n3_; have BK259 := n4_; have HB := n5_; clear n0_ n1_ n2_ n3_ n4_ n5_; (try clear hb)
    (try clear hb2)
    (try clear hk)
    (try clear hi)
    refine hK.out _ _ ⟨(zE BK259.out 0).trans rfl, (zE BK259.out 1).trans rfl⟩ (fun hHeld => ?_)
    clear hK K; refine norm_ (a' := ?_) ?_ ?_
    rotate_left
    ·show Act.put _ (some 126) _ = _
     simp only [Act.put, sA_, sB_, sC_, i64_w, i32_w]; rfl
    refine one_ (i := 3) (N := some 128) #[true, true, true, true, false, false] rfl rfl (by kernel_rfl) (by decide) (fun K hK => ?_)
    refine goes_ Try.func29 (by kernel_rfl) rfl #[.agg #[.slice (some ⟨go81, oo81, none⟩) y273.length co24, .slice Ao27 t256.length co27]] (by rfl) rfl rfl (by (try simp only [List.map_toArray, List.map_cons, List.map_nil]); first | done | (rw [show y273.length = t253.length from (Kd.Q_reads' HO_260000.out).1.symm] <;> rfl) | rfl | (simp only [List.length_drop, List.length_take]; rfl)) ?_
    with_reducible refine (r0_Check.calls kj15 _ _ y273 _ _ t256 t275 _ ?side1 ?side2 ?side3 ?side4 A83.out).mono ?_
    (case side1 => repeat (first | exact (Kd.Q_reads' HO_260000.out).2.2 | (with_reducible refine Kd.zI ?_ _) | (with_reducible refine Kd.zJ ?_ _) | (with_reducible refine Kd.zK ?_)))
    (case side2 => rw [show y273.length = t253.length from (Kd.Q_reads' HO_260000.out).1.symm]; exact (Kd.Q_reads' HO_260000.out).2.1)
    (case side3 => exact aF HO_260001)
    (case side4 => exact (Kd.zM HO_260001.out).2.1)
    rintro e w90 ⟨rfl, hb⟩
    refine ⟨_, rfl, ?_⟩
    have n0_ := zA.mk (Kd.zN (aR HO_253001) hb); have n1_ := zA.mk (Kd.Q_below (aQ HO_260000) hb); have n2_ := zA.mk (Kd.zN (aR HO_260001) hb); have n3_ := zA.mk (blk_below (g := gb252) (o := .cells #[.slice A0 l0.length c0, .slice Ao18 t249.length co18] 60 (0, 0)) (aB BK252) hb); have n4_ := zA.mk (blk_below (g := gb259) (o := .cells #[.slice (some ⟨go81, oo81, none⟩) t253.length co24, .slice Ao27 t256.length co27] 60 (0, 0)) (aB BK259) hb); have n5_ := zA.mk (below_step (aL HB) hb); clear HO_253001; clear HO_260000; clear HO_260001; clear BK252; clear BK259; clear HB; have HO_253001 := n0_; have HO_260000 := n1_; have HO_260001 := n2_; have BK252 := n3_; have BK259 := n4_; have HB := n5_; clear n0_ n1_ n2_ n3_ n4_ n5_; (try clear hb)
    (try clear hb2)
    (try clear hk)
    (try clear hi)
    refine hK.out _ _ ⟨(zE BK259.out 0).trans rfl, (zE BK259.out 1).trans rfl⟩ (fun hHeld => ?_)
    clear hK K; refine norm_ (a' := ?_) ?_ ?_
    rotate_left
    ·show Act.put _ (some 128) _ = _
     simp only [Act.put, sA_, sB_, sC_, i64_w, i32_w]; rfl
    refine pure_ (i := 4) (N := some 129) (v := ?_) (a' := ?_) (tf_ 5 6) rfl rfl (by kernel_rfl) (fun _ _ _ h => h) (Or.inl ⟨by rfl, ?_⟩) ?_ ?_
    rotate_left
    ·intro w'
     go_simp
     with_reducible rfl
    rotate_left
    ·simp only [Act.put, sA_, sB_, sC_, i64_w, i32_w]
     rfl
    refine pure_ (i := 5) (N := some 12) (v := ?_) (a' := ?_) #[true, true, true, true, true, true] rfl rfl (by kernel_rfl) (fun _ _ _ h => h) (Or.inl ⟨by rfl, ?_⟩) ?_ ?_
    rotate_left
    ·intro w'
     go_simp
     with_reducible rfl
    rotate_left
    ·simp only [Act.put, sA_, sB_, sC_, i64_w, i32_w]
     rfl
    refine done_ (by kernel_rfl) ?_
    try go_wp2
    go_ret
    exact ⟨by first | rfl | (simp [errW_none, errW_some] <;> rfl) | (simp only [← hji44]; first | rfl | (simp [errW_none, errW_some] <;> rfl)) | (simp [*, errW_none, errW_some] <;> rfl), aL HB⟩
   rw [if_neg c80] at H; have c80b0 : ((Int.tmod (IntKind.u64.wrap (a4)) 8) == 3) = false := beq_eq_false_iff_ne.mpr c80
   have c80b1 : ((Int.tmod (IntKind.u64.wrap (a4)) 8) != 3) = true := bne_iff_ne.mpr c80
   by_cases c91 : (Int.tmod (IntKind.u64.wrap (a4)) 8) = 4
   ·rw [if_pos c91] at H
    have c91b0 : ((Int.tmod (IntKind.u64.wrap (a4)) 8) == 4) = true := beq_iff_eq.mpr c91
    have c91b1 : ((Int.tmod (IntKind.u64.wrap (a4)) 8) != 4) = false := bne_eq_false_iff_eq.mpr c91
    clear c91; by_cases c92 : (ji44) < (t256.length : Int)
    rotate_left
    ·rw [if_neg c92] at H
     exact absurd H (by simp)
    rw [if_pos c92] at H; have c92b0 : decide ((ji44) < (t256.length : Int)) = true := decide_eq_true c92
    clear c92; obtain ⟨y276, hy276⟩ : ∃ y_ : List Int, y_ = (t256.set ((ji44) : Int).toNat ((a5) % 256)) := ⟨_, rfl⟩; replace H : ((items_Check.f kj15 t253 y276).bind fun t277 => ((r0_Check.f kj15 t253 y276).bind fun t278 => (some (t277 == t278)))) = some r := by first | (rw [hy276]; with_reducible exact H) | (have H2_ := (Option.bind_some _ _).symm.trans H; rw [hy276]; with_reducible exact H2_) | (have H2_ := (Option.bind_some _ _).symm.trans H; with_reducible exact H2_) | with_reducible exact H | (rw [hy276]; exact H) | exact H
    have Ny276 := zA.mk hy276; clear hy276; replace H := Option.bind_eq_some_iff.mp H; obtain ⟨t277, A940, H⟩ := H; replace H : ((r0_Check.f kj15 t253 y276).bind fun t278 => (some (t277 == t278))) = some r := H
    have A94 := zA.mk A940; clear A940; replace H := Option.bind_eq_some_iff.mp H; obtain ⟨t278, A950, H⟩ := H; replace H : (some (t277 == t278)) = some r := H; have A95 := zA.mk A950; clear A950; obtain rfl := Option.some.inj H
    have hnb96 := NB259_252.out; have hnc96 := NB252_259.out; obtain ⟨hcz97_0, hcz97_1, hfz97_0, hfz97_1⟩ := aC2 BK259; have p263 : 0 ≤ ((ji44) : Int) := aD
    have q263 : (ji44) < (t253.length : Int) := aD
    obtain ⟨ad263, e263, hx263_0, hx263_1, hx263_2, hx263_3⟩ := at_T48 (Kd.Q_reads' HO_260000.out).2.2 (ji44) p263 q263; cases e263
    replace p263 := eq_true p263; replace q263 := eq_true q263; have p93 : 0 ≤ ((ji44) : Int) := aD
    have q93 : ((ji44) : Int) < ((t256.length : Int) : Int) := aD
    obtain ⟨go93, co93, eo93, gb93, gl93, cl93, HG93⟩ := Kd.R_form HO_260001.out (by omega)
    (first | cases eo93 | (injection eo93 with ea_ en_ ec_; (first | subst ea_ | (injection ea_ with ea_; subst ea_)); subst ec_; clear en_))
    have GB93 := zA.mk gb93; have GG93 := zA.mk HG93; clear gb93 gl93 HG93; obtain ⟨hx93_0, hf93_0⟩ := Kd.R_celln 0 HO_260001.out ((ji44) : Int) p93 q93; replace p93 := eq_true p93; replace q93 := eq_true q93; have HP98 := Kd.R_putg HO_260001.out ((ji44) : Int) ((a5) % 256); try go_wp2_with (first | ((with_reducible refine gate_store (t := 53) (p := 103) rfl ?_); refine store_event (t := 53) (p := 103) (v := ?vo_w99) (w1 := (wc.setCell ⟨go93, ((ji44) : Int).toNat, none⟩ (.int .u8 ((a5) % 256)))) ?hg ?ho ?hn ?hr ?_; (case ho => rfl); (case hg => rfl); (case hn => rfl); (case hr => first | (go_simp; done) | (go_simp; rfl)); intro w99 hw; have hg : wc.grownBy w99 (some go93) := (by rw [hw]; exact HP98.2); have hp_ : Kd.R (Kd.int .u8) 53 w99 w.heap.size (fun k_ => some k_ ≠ (.slice Ao18 t249.length co18 : Value).ownBlock) (.slice (some ⟨go93, 0, none⟩) t256.length co27) y276 := (by rw [hw, Ny276.out]; exact HP98.1); clear HP98; have n0_ := zA.mk (Kd.R_after (v := (.slice (some ⟨go93, 0, none⟩) t256.length co27)) (v1 := (.slice (some ⟨go93, 0, none⟩) t256.length co27)) (ok := (fun _ => True)) (by (with_reducible repeat (first | apply Kd.zF | apply Kd.zG | apply Kd.zH)); exact Kd.zR HO_253001.out (fun _ hk => ⟨trivial, hk⟩)) hg (.inl rfl)); have n1_ := zA.mk (Kd.Q_over' (v := (.slice (some ⟨go93, 0, none⟩) t256.length co27)) (aQ HO_260000) (Kd.R_typed HO_260001.out) (by decide) hg); have n2_ := zA.mk (hp_); have n3_ := zA.mk (blk_grown (g := gb252) (o := .cells #[.slice A0 l0.length c0, .slice Ao18 t249.length co18] 60 (0, 0)) (aB BK252) hg (Kd.R_ne HO_260001.out BK252.out (by decide))); have n4_ := zA.mk (blk_grown (g := gb259) (o := .cells #[.slice (some ad263) t253.length co24, .slice (some ⟨go93, 0, none⟩) t256.length co27] 60 (0, 0)) (aB BK259) hg (Kd.R_ne HO_260001.out BK259.out (by decide))); have n5_ := zA.mk ((by rw [hw]; exact below_set (HB.out) GB93.out : Below w.heap.size w w99)); clear HO_253001; clear HO_260000; clear HO_260001; clear BK252; clear BK259; clear HB; have HO_253001 := n0_; have HO_260000 := n1_; have HO_260001 := n2_; have BK252 := n3_; have BK259 := n4_; have HB := n5_; clear n0_ n1_ n2_ n3_ n4_ n5_; clear hg hw hp_))
    have n0_ := zA.mk (Kd.zH HO_253001.out); have n1_ := zA.mk (Kd.Q_drew HO_260000.out); have n2_ := zA.mk (Kd.zH HO_260001.out); have n3_ := zA.mk (zC BK252.out); have n4_ := zA.mk (zC BK259.out); have n5_ := zA.mk (below_drew1 HB.out); clear HO_253001; clear HO_260000; clear HO_260001; clear BK252; clear BK259; clear HB; have HO_253001 := n0_; have HO_260000 := n1_; have HO_260001 := n2_; have BK252 := n3_; have BK259 := n4_; have HB := n5_; clear n0_ n1_ n2_ n3_ n4_ n5_; refine start_ (n := 6) (S := fun w' => w'.cell? ⟨gb259, 0, none⟩ = some (.slice (some ad263) t253.length co24) ∧ w'.cell? ⟨gb259, 1, none⟩ = some (.slice (some ⟨go93, 0, none⟩) t256.length co27)) (ds := []) #[false, false, false, false, false, false] (by kernel_rfl) rfl rfl ⟨(zE BK259.out 0).trans rfl, (zE BK259.out 1).trans rfl⟩ (fun hHeld => ?_)
    generalize w99.drew = w100 at HO_253001 HO_260000 HO_260001 BK252 BK259 HB hHeld ⊢
    refine take_ (i := 0) (N := some 125) (v := ?_) (a' := ?_) (tf_ 1 6) rfl rfl (by kernel_rfl) (fun _ _ _ h => h) (Or.inl ⟨by rfl, ?_⟩) hHeld ?_ ?_
    rotate_left
    ·rintro w' ⟨s0, s1⟩
     go_simp
     with_reducible rfl
    rotate_left
    ·simp only [Act.put, sA_, sB_, sC_, i64_w, i32_w]
     rfl
    refine take_ (i := 2) (N := some 127) (v := ?_) (a' := ?_) #[true, false, true, false, false, false] rfl rfl (by kernel_rfl) (fun _ _ _ h => h) (Or.inl ⟨by rfl, ?_⟩) hHeld ?_ ?_
    rotate_left
    ·rintro w' ⟨s0, s1⟩
     go_simp
     with_reducible rfl
    rotate_left
    ·simp only [Act.put, sA_, sB_, sC_, i64_w, i32_w]
     rfl
    refine one_ (i := 1) (N := some 126) #[true, true, true, false, false, false] rfl rfl (by kernel_rfl) (by decide) (fun K hK => ?_)
    refine goes_ Try.func28 (by kernel_rfl) rfl #[.agg #[.slice (some ad263) t253.length co24, .slice (some ⟨go93, 0, none⟩) y276.length co27]] (by rfl) rfl rfl (by (try simp only [List.map_toArray, List.map_cons, List.map_nil]); first | done | (rw [show y276.length = t256.length from (Kd.zM HO_260001.out).1.symm] <;> rfl) | rfl | (simp only [List.length_drop, List.length_take]; rfl)) ?_
    with_reducible refine (items_Check.calls kj15 _ _ t253 _ _ y276 t277 _ ?side1 ?side2 ?side3 ?side4 A94.out).mono ?_
    (case side1 => repeat (first | exact (Kd.Q_reads' HO_260000.out).2.2 | (with_reducible refine Kd.zI ?_ _) | (with_reducible refine Kd.zJ ?_ _) | (with_reducible refine Kd.zK ?_)))
    (case side2 => exact (Kd.Q_reads' HO_260000.out).2.1)
    (case side3 => exact aF HO_260001)
    (case side4 => rw [show y276.length = t256.length from (Kd.zM HO_260001.out).1.symm]; exact (Kd.zM HO_260001.out).2.1)
    rintro e w101 ⟨rfl, hb⟩
    refine ⟨_, rfl, ?_⟩
    have n0_ := zA.mk (Kd.zN (aR HO_253001) hb); have n1_ := zA.mk (Kd.Q_below (aQ HO_260000) hb); have n2_ := zA.mk (Kd.zN (aR HO_260001) hb); have n3_ := zA.mk (blk_below (g := gb252) (o := .cells #[.slice A0 l0.length c0, .slice Ao18 t249.length co18] 60 (0, 0)) (aB BK252) hb); have n4_ := zA.mk (blk_below (g := gb259) (o := .cells #[.slice (some ad263) t253.length co24, .slice (some ⟨go93, 0, none⟩) t256.length co27] 60 (0, 0)) (aB BK259) hb); have n5_ := zA.mk (below_step (aL HB) hb); clear HO_253001; clear HO_260000; clear HO_260001; clear BK252; clear BK259; clear HB; have HO_253001 := n0_; have HO_260000 := n1_; have HO_260001 := n2_; have BK252 := n3_; have BK259 := n4_; have HB := n5_; clear n0_ n1_ n2_ n3_ n4_ n5_; (try clear hb)
    (try clear hb2)
    (try clear hk)
    (try clear hi)
    refine hK.out _ _ ⟨(zE BK259.out 0).trans rfl, (zE BK259.out 1).trans rfl⟩ (fun hHeld => ?_)
    clear hK K; refine norm_ (a' := ?_) ?_ ?_
    rotate_left
    ·show Act.put _ (some 126) _ = _
     simp only [Act.put, sA_, sB_, sC_, i64_w, i32_w]; rfl
    refine one_ (i := 3) (N := some 128) #[true, true, true, true, false, false] rfl rfl (by kernel_rfl) (by decide) (fun K hK => ?_)
    refine goes_ Try.func29 (by kernel_rfl) rfl #[.agg #[.slice (some ad263) t253.length co24, .slice (some ⟨go93, 0, none⟩) y276.length co27]] (by rfl) rfl rfl (by (try simp only [List.map_toArray, List.map_cons, List.map_nil]); first | done | (rw [show y276.length = t256.length from (Kd.zM HO_260001.out).1.symm] <;> rfl) | rfl | (simp only [List.length_drop, List.length_take]; rfl)) ?_
    with_reducible refine (r0_Check.calls kj15 _ _ t253 _ _ y276 t278 _ ?side1 ?side2 ?side3 ?side4 A95.out).mono ?_
    (case side1 => repeat (first | exact (Kd.Q_reads' HO_260000.out).2.2 | (with_reducible refine Kd.zI ?_ _) | (with_reducible refine Kd.zJ ?_ _) | (with_reducible refine Kd.zK ?_)))
    (case side2 => exact (Kd.Q_reads' HO_260000.out).2.1)
    (case side3 => exact aF HO_260001)
    (case side4 => rw [show y276.length = t256.length from (Kd.zM HO_260001.out).1.symm]; exact (Kd.zM HO_260001.out).2.1)
    rintro e w102 ⟨rfl, hb⟩
    refine ⟨_, rfl, ?_⟩
    have n0_ := zA.mk (Kd.zN (aR HO_253001) hb); have n1_ := zA.mk (Kd.Q_below (aQ HO_260000) hb); have n2_ := zA.mk (Kd.zN (aR HO_260001) hb); have n3_ := zA.mk (blk_below (g := gb252) (o := .cells #[.slice A0 l0.length c0, .slice Ao18 t249.length co18] 60 (0, 0)) (aB BK252) hb); have n4_ := zA.mk (blk_below (g := gb259) (o := .cells #[.slice (some ad263) t253.length co24, .slice (some ⟨go93, 0, none⟩) t256.length co27] 60 (0, 0)) (aB BK259) hb); have n5_ := zA.mk (below_step (aL HB) hb); clear HO_253001; clear HO_260000; clear HO_260001; clear BK252; clear BK259; clear HB; have HO_253001 := n0_; have HO_260000 := n1_; have HO_260001 := n2_; have BK252 := n3_; have BK259 := n4_; have HB := n5_; clear n0_ n1_ n2_ n3_ n4_ n5_; (try clear hb)
    (try clear hb2)
    (try clear hk)
    (try clear hi)
    refine hK.out _ _ ⟨(zE BK259.out 0).trans rfl, (zE BK259.out 1).trans rfl⟩ (fun hHeld => ?_)
    clear hK K; refine norm_ (a' := ?_) ?_ ?_
    rotate_left
    ·show Act.put _ (some 128) _ = _
     simp only [Act.put, sA_, sB_, sC_, i64_w, i32_w]; rfl
    refine pure_ (i := 4) (N := some 129) (v := ?_) (a' := ?_) (tf_ 5 6) rfl rfl (by kernel_rfl) (fun _ _ _ h => h) (Or.inl ⟨by rfl, ?_⟩) ?_ ?_
    rotate_left
    ·intro w'
     go_simp
     with_reducible rfl
    rotate_left
    ·simp only [Act.put, sA_, sB_, sC_, i64_w, i32_w]
     rfl
    refine pure_ (i := 5) (N := some 12) (v := ?_) (a' := ?_) #[true, true, true, true, true, true] rfl rfl (by kernel_rfl) (fun _ _ _ h => h) (Or.inl ⟨by rfl, ?_⟩) ?_ ?_
    rotate_left
    ·intro w'
     go_simp
     with_reducible rfl
    rotate_left
    ·simp only [Act.put, sA_, sB_, sC_, i64_w, i32_w]
     rfl
    refine done_ (by kernel_rfl) ?_
    try go_wp2
    go_ret
    exact ⟨by first | rfl | (simp [errW_none, errW_some] <;> rfl) | (simp only [← hji44]; first | rfl | (simp [errW_none, errW_some] <;> rfl)) | (simp [*, errW_none, errW_some] <;> rfl), aL HB⟩
   rw [if_neg c91] at H; have c91b0 : ((Int.tmod (IntKind.u64.wrap (a4)) 8) == 4) = false := beq_eq_false_iff_ne.mpr c91
   have c91b1 : ((Int.tmod (IntKind.u64.wrap (a4)) 8) != 4) = true := bne_iff_ne.mpr c91
   by_cases c103 : (Int.tmod (IntKind.u64.wrap (a4)) 8) = 5
   ·rw [if_pos c103] at H
    have c103b0 : ((Int.tmod (IntKind.u64.wrap (a4)) 8) == 5) = true := beq_iff_eq.mpr c103
    have c103b1 : ((Int.tmod (IntKind.u64.wrap (a4)) 8) != 5) = false := bne_eq_false_iff_eq.mpr c103
    clear c103; obtain ⟨ji104, hji104⟩ : ∃ j_ : Int, (wrap64 ((t256.length : Int) - 1)) = j_ := ⟨_, rfl⟩; replace H : (if 0 ≤ (ji104) then (if (ji104) < (t256.length : Int) then ((some (t256.set ((ji104) : Int).toNat ((a5) % 256) : List Int)).bind fun y279 => ((items_Check.f kj15 t253 y279).bind fun t280 => ((r0_Check.f kj15 t253 y279).bind fun t281 => (some (t280 == t281))))) else (none)) else (none)) = some r := by first | (rw [hji104] at H; exact H) | (simp only [hji104] at H ⊢; exact H)
    have hji104w : (IntKind.i64.wrap ((t256.length : Int) - 1)) = ji104 := (i64_w _).trans hji104
    by_cases c105 : 0 ≤ (ji104)
    rotate_left
    ·rw [if_neg c105] at H
     exact absurd H (by simp)
    rw [if_pos c105] at H; have c105b0 : decide (0 ≤ (ji104)) = true := decide_eq_true c105
    clear c105; by_cases c106 : (ji104) < (t256.length : Int)
    rotate_left
    ·rw [if_neg c106] at H
     exact absurd H (by simp)
    rw [if_pos c106] at H; have c106b0 : decide ((ji104) < (t256.length : Int)) = true := decide_eq_true c106
    clear c106; obtain ⟨y279, hy279⟩ : ∃ y_ : List Int, y_ = (t256.set ((ji104) : Int).toNat ((a5) % 256)) := ⟨_, rfl⟩; replace H : ((items_Check.f kj15 t253 y279).bind fun t280 => ((r0_Check.f kj15 t253 y279).bind fun t281 => (some (t280 == t281)))) = some r := by first | (rw [hy279]; with_reducible exact H) | (have H2_ := (Option.bind_some _ _).symm.trans H; rw [hy279]; with_reducible exact H2_) | (have H2_ := (Option.bind_some _ _).symm.trans H; with_reducible exact H2_) | with_reducible exact H | (rw [hy279]; exact H) | exact H
    have Ny279 := zA.mk hy279; clear hy279; replace H := Option.bind_eq_some_iff.mp H; obtain ⟨t280, A1080, H⟩ := H; replace H : ((r0_Check.f kj15 t253 y279).bind fun t281 => (some (t280 == t281))) = some r := H
    have A108 := zA.mk A1080; clear A1080; replace H := Option.bind_eq_some_iff.mp H; obtain ⟨t281, A1090, H⟩ := H; replace H : (some (t280 == t281)) = some r := H; have A109 := zA.mk A1090; clear A1090; obtain rfl := Option.some.inj H
    have hnb110 := NB259_252.out; have hnc110 := NB252_259.out; obtain ⟨hcz111_0, hcz111_1, hfz111_0, hfz111_1⟩ := aC2 BK259; have p263 : 0 ≤ ((ji44) : Int) := aD
    have q263 : (ji44) < (t253.length : Int) := aD
    obtain ⟨ad263, e263, hx263_0, hx263_1, hx263_2, hx263_3⟩ := at_T48 (Kd.Q_reads' HO_260000.out).2.2 (ji44) p263 q263; cases e263
    replace p263 := eq_true p263; replace q263 := eq_true q263; have p107 : 0 ≤ ((ji104) : Int) := aD
    have q107 : ((ji104) : Int) < ((t256.length : Int) : Int) := aD
    obtain ⟨go107, co107, eo107, gb107, gl107, cl107, HG107⟩ := Kd.R_form HO_260001.out (by omega)
    (first | cases eo107 | (injection eo107 with ea_ en_ ec_; (first | subst ea_ | (injection ea_ with ea_; subst ea_)); subst ec_; clear en_))
    have GB107 := zA.mk gb107; have GG107 := zA.mk HG107; clear gb107 gl107 HG107; obtain ⟨hx107_0, hf107_0⟩ := Kd.R_celln 0 HO_260001.out ((ji104) : Int) p107 q107; replace p107 := eq_true p107; replace q107 := eq_true q107; have HP112 := Kd.R_putg HO_260001.out ((ji104) : Int) ((a5) % 256); try go_wp2_with (first | ((with_reducible refine gate_store (t := 53) (p := 114) rfl ?_); refine store_event (t := 53) (p := 114) (v := ?vo_w113) (w1 := (wc.setCell ⟨go107, ((ji104) : Int).toNat, none⟩ (.int .u8 ((a5) % 256)))) ?hg ?ho ?hn ?hr ?_; (case ho => rfl); (case hg => rfl); (case hn => rfl); (case hr => first | (go_simp; done) | (go_simp; rfl)); intro w113 hw; have hg : wc.grownBy w113 (some go107) := (by rw [hw]; exact HP112.2); have hp_ : Kd.R (Kd.int .u8) 53 w113 w.heap.size (fun k_ => some k_ ≠ (.slice Ao18 t249.length co18 : Value).ownBlock) (.slice (some ⟨go107, 0, none⟩) t256.length co27) y279 := (by rw [hw, Ny279.out]; exact HP112.1); clear HP112; have n0_ := zA.mk (Kd.R_after (v := (.slice (some ⟨go107, 0, none⟩) t256.length co27)) (v1 := (.slice (some ⟨go107, 0, none⟩) t256.length co27)) (ok := (fun _ => True)) (by (with_reducible repeat (first | apply Kd.zF | apply Kd.zG | apply Kd.zH)); exact Kd.zR HO_253001.out (fun _ hk => ⟨trivial, hk⟩)) hg (.inl rfl)); have n1_ := zA.mk (Kd.Q_over' (v := (.slice (some ⟨go107, 0, none⟩) t256.length co27)) (aQ HO_260000) (Kd.R_typed HO_260001.out) (by decide) hg); have n2_ := zA.mk (hp_); have n3_ := zA.mk (blk_grown (g := gb252) (o := .cells #[.slice A0 l0.length c0, .slice Ao18 t249.length co18] 60 (0, 0)) (aB BK252) hg (Kd.R_ne HO_260001.out BK252.out (by decide))); have n4_ := zA.mk (blk_grown (g := gb259) (o := .cells #[.slice (some ad263) t253.length co24, .slice (some ⟨go107, 0, none⟩) t256.length co27] 60 (0, 0)) (aB BK259) hg (Kd.R_ne HO_260001.out BK259.out (by decide))); have n5_ := zA.mk ((by rw [hw]; exact below_set (HB.out) GB107.out : Below w.heap.size w w113)); clear HO_253001; clear HO_260000; clear HO_260001; clear BK252; clear BK259; clear HB; have HO_253001 := n0_; have HO_260000 := n1_; have HO_260001 := n2_; have BK252 := n3_; have BK259 := n4_; have HB := n5_; clear n0_ n1_ n2_ n3_ n4_ n5_; clear hg hw hp_))
    have n0_ := zA.mk (Kd.zH HO_253001.out); have n1_ := zA.mk (Kd.Q_drew HO_260000.out); have n2_ := zA.mk (Kd.zH HO_260001.out); have n3_ := zA.mk (zC BK252.out); have n4_ := zA.mk (zC BK259.out); have n5_ := zA.mk (below_drew1 HB.out); clear HO_253001; clear HO_260000; clear HO_260001; clear BK252; clear BK259; clear HB; have HO_253001 := n0_; have HO_260000 := n1_; have HO_260001 := n2_; have BK252 := n3_; have BK259 := n4_; have HB := n5_; clear n0_ n1_ n2_ n3_ n4_ n5_; refine start_ (n := 6) (S := fun w' => w'.cell? ⟨gb259, 0, none⟩ = some (.slice (some ad263) t253.length co24) ∧ w'.cell? ⟨gb259, 1, none⟩ = some (.slice (some ⟨go107, 0, none⟩) t256.length co27)) (ds := []) #[false, false, false, false, false, false] (by kernel_rfl) rfl rfl ⟨(zE BK259.out 0).trans rfl, (zE BK259.out 1).trans rfl⟩ (fun hHeld => ?_)
    generalize w113.drew = w114 at HO_253001 HO_260000 HO_260001 BK252 BK259 HB hHeld ⊢
    refine take_ (i := 0) (N := some 125) (v := ?_) (a' := ?_) (tf_ 1 6) rfl rfl (by kernel_rfl) (fun _ _ _ h => h) (Or.inl ⟨by rfl, ?_⟩) hHeld ?_ ?_
    rotate_left
    ·rintro w' ⟨s0, s1⟩
     go_simp
     with_reducible rfl
    rotate_left
    ·simp only [Act.put, sA_, sB_, sC_, i64_w, i32_w]
     rfl
    refine take_ (i := 2) (N := some 127) (v := ?_) (a' := ?_) #[true, false, true, false, false, false] rfl rfl (by kernel_rfl) (fun _ _ _ h => h) (Or.inl ⟨by rfl, ?_⟩) hHeld ?_ ?_
    rotate_left
    ·rintro w' ⟨s0, s1⟩
     go_simp
     with_reducible rfl
    rotate_left
    ·simp only [Act.put, sA_, sB_, sC_, i64_w, i32_w]
     rfl
    refine one_ (i := 1) (N := some 126) #[true, true, true, false, false, false] rfl rfl (by kernel_rfl) (by decide) (fun K hK => ?_)
    refine goes_ Try.func28 (by kernel_rfl) rfl #[.agg #[.slice (some ad263) t253.length co24, .slice (some ⟨go107, 0, none⟩) y279.length co27]] (by rfl) rfl rfl (by (try simp only [List.map_toArray, List.map_cons, List.map_nil]); first | done | (rw [show y279.length = t256.length from (Kd.zM HO_260001.out).1.symm] <;> rfl) | rfl | (simp only [List.length_drop, List.length_take]; rfl)) ?_
    with_reducible refine (items_Check.calls kj15 _ _ t253 _ _ y279 t280 _ ?side1 ?side2 ?side3 ?side4 A108.out).mono ?_
    (case side1 => repeat (first | exact (Kd.Q_reads' HO_260000.out).2.2 | (with_reducible refine Kd.zI ?_ _) | (with_reducible refine Kd.zJ ?_ _) | (with_reducible refine Kd.zK ?_)))
    (case side2 => exact (Kd.Q_reads' HO_260000.out).2.1)
    (case side3 => exact aF HO_260001)
    (case side4 => rw [show y279.length = t256.length from (Kd.zM HO_260001.out).1.symm]; exact (Kd.zM HO_260001.out).2.1)
    rintro e w115 ⟨rfl, hb⟩
    refine ⟨_, rfl, ?_⟩
    have n0_ := zA.mk (Kd.zN (aR HO_253001) hb); have n1_ := zA.mk (Kd.Q_below (aQ HO_260000) hb); have n2_ := zA.mk (Kd.zN (aR HO_260001) hb); have n3_ := zA.mk (blk_below (g := gb252) (o := .cells #[.slice A0 l0.length c0, .slice Ao18 t249.length co18] 60 (0, 0)) (aB BK252) hb); have n4_ := zA.mk (blk_below (g := gb259) (o := .cells #[.slice (some ad263) t253.length co24, .slice (some ⟨go107, 0, none⟩) t256.length co27] 60 (0, 0)) (aB BK259) hb); have n5_ := zA.mk (below_step (aL HB) hb); clear HO_253001; clear HO_260000; clear HO_260001; clear BK252; clear BK259; clear HB; have HO_253001 := n0_; have HO_260000 := n1_; have HO_260001 := n2_; have BK252 := n3_; have BK259 := n4_; have HB := n5_; clear n0_ n1_ n2_ n3_ n4_ n5_; (try clear hb)
    (try clear hb2)
    (try clear hk)
    (try clear hi)
    refine hK.out _ _ ⟨(zE BK259.out 0).trans rfl, (zE BK259.out 1).trans rfl⟩ (fun hHeld => ?_)
    clear hK K; refine norm_ (a' := ?_) ?_ ?_
    rotate_left
    ·show Act.put _ (some 126) _ = _
     simp only [Act.put, sA_, sB_, sC_, i64_w, i32_w]; rfl
    refine one_ (i := 3) (N := some 128) #[true, true, true, true, false, false] rfl rfl (by kernel_rfl) (by decide) (fun K hK => ?_)
    refine goes_ Try.func29 (by kernel_rfl) rfl #[.agg #[.slice (some ad263) t253.length co24, .slice (some ⟨go107, 0, none⟩) y279.length co27]] (by rfl) rfl rfl (by (try simp only [List.map_toArray, List.map_cons, List.map_nil]); first | done | (rw [show y279.length = t256.length from (Kd.zM HO_260001.out).1.symm] <;> rfl) | rfl | (simp only [List.length_drop, List.length_take]; rfl)) ?_
    with_reducible refine (r0_Check.calls kj15 _ _ t253 _ _ y279 t281 _ ?side1 ?side2 ?side3 ?side4 A109.out).mono ?_
    (case side1 => repeat (first | exact (Kd.Q_reads' HO_260000.out).2.2 | (with_reducible refine Kd.zI ?_ _) | (with_reducible refine Kd.zJ ?_ _) | (with_reducible refine Kd.zK ?_)))
    (case side2 => exact (Kd.Q_reads' HO_260000.out).2.1)
    (case side3 => exact aF HO_260001)
    (case side4 => rw [show y279.length = t256.length from (Kd.zM HO_260001.out).1.symm]; exact (Kd.zM HO_260001.out).2.1)
    rintro e w116 ⟨rfl, hb⟩
    refine ⟨_, rfl, ?_⟩
    have n0_ := zA.mk (Kd.zN (aR HO_253001) hb); have n1_ := zA.mk (Kd.Q_below (aQ HO_260000) hb); have n2_ := zA.mk (Kd.zN (aR HO_260001) hb); have n3_ := zA.mk (blk_below (g := gb252) (o := .cells #[.slice A0 l0.length c0, .slice Ao18 t249.length co18] 60 (0, 0)) (aB BK252) hb); have n4_ := zA.mk (blk_below (g := gb259) (o := .cells #[.slice (some ad263) t253.length co24, .slice (some ⟨go107, 0, none⟩) t256.length co27] 60 (0, 0)) (aB BK259) hb); have n5_ := zA.mk (below_step (aL HB) hb); clear HO_253001; clear HO_260000; clear HO_260001; clear BK252; clear BK259; clear HB; have HO_253001 := n0_; have HO_260000 := n1_; have HO_260001 := n2_; have BK252 := n3_; have BK259 := n4_; have HB := n5_; clear n0_ n1_ n2_ n3_ n4_ n5_; (try clear hb)
    (try clear hb2)
    (try clear hk)
    (try clear hi)
    refine hK.out _ _ ⟨(zE BK259.out 0).trans rfl, (zE BK259.out 1).trans rfl⟩ (fun hHeld => ?_)
    clear hK K; refine norm_ (a' := ?_) ?_ ?_
    rotate_left
    ·show Act.put _ (some 128) _ = _
     simp only [Act.put, sA_, sB_, sC_, i64_w, i32_w]; rfl
    refine pure_ (i := 4) (N := some 129) (v := ?_) (a' := ?_) (tf_ 5 6) rfl rfl (by kernel_rfl) (fun _ _ _ h => h) (Or.inl ⟨by rfl, ?_⟩) ?_ ?_
    rotate_left
    ·intro w'
     go_simp
     with_reducible rfl
    rotate_left
    ·simp only [Act.put, sA_, sB_, sC_, i64_w, i32_w]
     rfl
    refine pure_ (i := 5) (N := some 12) (v := ?_) (a' := ?_) #[true, true, true, true, true, true] rfl rfl (by kernel_rfl) (fun _ _ _ h => h) (Or.inl ⟨by rfl, ?_⟩) ?_ ?_
    rotate_left
    ·intro w'
     go_simp
     with_reducible rfl
    rotate_left
    ·simp only [Act.put, sA_, sB_, sC_, i64_w, i32_w]
     rfl
    refine done_ (by kernel_rfl) ?_
    try go_wp2
    go_ret
    exact ⟨by first | rfl | (simp [errW_none, errW_some] <;> rfl) | (simp only [← hji44, ← hji104]; first | rfl | (simp [errW_none, errW_some] <;> rfl)) | (simp [*, errW_none, errW_some] <;> rfl), aL HB⟩
   rw [if_neg c103] at H; have c103b0 : ((Int.tmod (IntKind.u64.wrap (a4)) 8) == 5) = false := beq_eq_false_iff_ne.mpr c103
   have c103b1 : ((Int.tmod (IntKind.u64.wrap (a4)) 8) != 5) = true := bne_iff_ne.mpr c103
   by_cases c117 : (Int.tmod (IntKind.u64.wrap (a4)) 8) = 6
   rotate_left
   ·rw [if_neg c117] at H
    have c117b0 : ((Int.tmod (IntKind.u64.wrap (a4)) 8) == 6) = false := beq_eq_false_iff_ne.mpr c117
    have c117b1 : ((Int.tmod (IntKind.u64.wrap (a4)) 8) != 6) = true := bne_iff_ne.mpr c117
    by_cases c130 : 1 ≤ (t253.length : Int)
    rotate_left
    ·rw [if_neg c130] at H
     exact absurd H (by simp)
    rw [if_pos c130] at H; have c130b0 := eq_true c130; have c130b1 : decide (1 ≤ (t253.length : Int)) = true := decide_eq_true c130
    clear c130; obtain ⟨y287, hy287⟩ : ∃ y_ : List (S48), y_ = (t253.drop (1 : Int).toNat) := ⟨_, rfl⟩; replace H : ((items_Check.f kj15 y287 t256).bind fun t290 => ((r0_Check.f kj15 y287 t256).bind fun t291 => (some (t290 == t291)))) = some r := by first | (rw [hy287]; with_reducible exact H) | (have H2_ := (Option.bind_some _ _).symm.trans H; rw [hy287]; with_reducible exact H2_) | (have H2_ := (Option.bind_some _ _).symm.trans H; with_reducible exact H2_) | with_reducible exact H | (rw [hy287]; exact H) | exact H
    have Ny287 := zA.mk hy287; clear hy287; replace H := Option.bind_eq_some_iff.mp H; obtain ⟨t290, A1310, H⟩ := H; replace H : ((r0_Check.f kj15 y287 t256).bind fun t291 => (some (t290 == t291))) = some r := H
    have A131 := zA.mk A1310; clear A1310; replace H := Option.bind_eq_some_iff.mp H; obtain ⟨t291, A1320, H⟩ := H; replace H : (some (t290 == t291)) = some r := H; have A132 := zA.mk A1320; clear A1320; obtain rfl := Option.some.inj H
    have hnb133 := NB259_252.out; have hnc133 := NB252_259.out; obtain ⟨hcz134_0, hcz134_1, hfz134_0, hfz134_1⟩ := aC2 BK259; have p263 : 0 ≤ ((ji44) : Int) := aD
    have q263 : (ji44) < (t253.length : Int) := aD
    obtain ⟨ad263, e263, hx263_0, hx263_1, hx263_2, hx263_3⟩ := at_T48 (Kd.Q_reads' HO_260000.out).2.2 (ji44) p263 q263; cases e263
    replace p263 := eq_true p263; replace q263 := eq_true q263; have q135 : (1 : Int) ≤ ((t253.length : Int) : Int) := aD
    obtain ⟨i0135, hi0135, _, hsz135, _⟩ := info_parts info48; have hcut135 := cut_from (P := Try.prog) 34 48 .i64 Try.underlying34 hi0135 4 hsz135 (some ad263) t253.length co24 1 (by omega) q135
    have hr135 := Kd.Q_drop (k := (1 : Int).toNat) HO_260000.out (by omega)
    obtain ⟨A135, hA135⟩ : ∃ A1, A1 = (if co24 = (1 : Int).toNat then (some ad263) else ((some ad263) : Option Addr).map (·.add ((1 : Int).toNat * 4))) := ⟨_, rfl⟩
    obtain ⟨c135, hc135⟩ : ∃ c1, c1 = co24 - (1 : Int).toNat := ⟨_, rfl⟩; have hy135 : y287.length = t253.length - (1 : Int).toNat := (by rw [Ny287.out, List.length_drop])
    rw [← Ny287.out] at hr135; rw [← hy135, ← hA135, ← hc135] at hcut135; replace hr135 : Kd.Q k48 48 wc w.heap.size (fun _ => True) (.slice A135 y287.length c135) y287 := (by rw [hA135, hc135, hy135]; exact hr135)
    have HE135 : zA ((Value.slice A135 y287.length c135).ownBlock = (.slice (some ad263) t253.length co24 : Value).ownBlock) := ⟨by rw [hA135]; split <;> (cases ((some ad263) : Option Addr) <;> rfl)⟩
    clear hy135 hi0135 hsz135 HO_260000 hA135 hc135; have HO289 := zA.mk hr135; clear hr135; replace q135 := eq_true q135; try go_wp2
    have n0_ : zA (Kd.R (Kd.int .u8) 53 (wc.setCell ⟨gb259, 0, none⟩ (.slice A135 y287.length c135)) w.heap.size (fun k_ => some k_ ≠ (.slice Ao27 t256.length co27 : Value).ownBlock) (.slice Ao18 t249.length co18) t249) := ⟨by (with_reducible repeat (first | apply Kd.zF | apply Kd.zG | apply Kd.zH)); exact Kd.zR (Kd.zO (p := ⟨gb259, 0, none⟩) (Kd.zS HO_253001.out BK259.out (by decide)) (fun _ hk => hk.2) (.slice A135 y287.length c135)) (fun _ hk => hk.1)⟩
    have n1_ : zA (Kd.Q k48 48 (wc.setCell ⟨gb259, 0, none⟩ (.slice A135 y287.length c135)) w.heap.size (fun _ => True) (.slice A135 y287.length c135) y287) := ⟨by (with_reducible repeat (first | apply Kd.Q_alloc | apply Kd.Q_drewN | apply Kd.Q_drew)); exact Kd.Q_mono (Kd.Q_far (p := ⟨gb259, 0, none⟩) (Kd.Q_types HO289.out BK259.out (by decide)) (fun _ hk => hk.2) (.slice A135 y287.length c135)) (fun _ hk => trivial)⟩
    have n2_ : zA (Kd.R (Kd.int .u8) 53 (wc.setCell ⟨gb259, 0, none⟩ (.slice A135 y287.length c135)) w.heap.size (fun k_ => some k_ ≠ (.slice Ao18 t249.length co18 : Value).ownBlock) (.slice Ao27 t256.length co27) t256) := ⟨by (with_reducible repeat (first | apply Kd.zF | apply Kd.zG | apply Kd.zH)); exact Kd.zR (Kd.zO (p := ⟨gb259, 0, none⟩) (Kd.zS HO_260001.out BK259.out (by decide)) (fun _ hk => hk.2) (.slice A135 y287.length c135)) (fun _ hk => hk.1)⟩
    have n3_ : zA ((wc.setCell ⟨gb259, 0, none⟩ (.slice A135 y287.length c135)).heap[gb252]? = some (.cells #[.slice A0 l0.length c0, .slice Ao18 t249.length co18] 60 (0, 0))) := ⟨by (with_reducible repeat (first | refine zD ?_ _ | refine zC ?_ | refine zB ?_ _)); refine blk_far ?_ NB252_259.out _; (with_reducible repeat (first | refine zD ?_ _ | refine zC ?_ | refine zB ?_ _)); exact BK252.out⟩
    have n4_ : zA ((wc.setCell ⟨gb259, 0, none⟩ (.slice A135 y287.length c135)).heap[gb259]? = some (.cells #[.slice A135 y287.length c135, .slice Ao27 t256.length co27] 60 (0, 0))) := ⟨by (with_reducible repeat (first | refine zD ?_ _ | refine zC ?_ | refine zB ?_ _)); refine blk_put (cs := #[.slice (some ad263) t253.length co24, .slice Ao27 t256.length co27]) ?_ 0 _ rfl; (with_reducible repeat (first | refine zD ?_ _ | refine zC ?_ | refine zB ?_ _)); exact BK259.out⟩
    have n5_ : zA (Below w.heap.size w (wc.setCell ⟨gb259, 0, none⟩ (.slice A135 y287.length c135))) := ⟨aL HB⟩
    (try clear HO_253001)
    (try clear HO289)
    (try clear HO_260001)
    (try clear BK252)
    (try clear BK259)
    (try clear HB)
    generalize (wc.setCell ⟨gb259, 0, none⟩ (.slice A135 y287.length c135)) = w136 at n0_ n1_ n2_ n3_ n4_ n5_ ⊢
    have HO_253001 := n0_; have HO289 := n1_; have HO_260001 := n2_; have BK252 := n3_; have BK259 := n4_; have HB := n5_; clear n0_ n1_ n2_ n3_ n4_ n5_; have n0_ := zA.mk (Kd.zH HO_253001.out); have n1_ := zA.mk (Kd.Q_drew HO289.out); have n2_ := zA.mk (Kd.zH HO_260001.out); have n3_ := zA.mk (zC BK252.out); have n4_ := zA.mk (zC BK259.out); have n5_ := zA.mk (below_drew1 HB.out); clear HO_253001; clear HO289; clear HO_260001; clear BK252; clear BK259; clear HB; have HO_253001 := n0_; have HO289 := n1_; have HO_260001 := n2_; have BK252 := n3_; have BK259 := n4_; have HB := n5_; clear n0_ n1_ n2_ n3_ n4_ n5_; refine start_ (n := 6) (S := fun w' => w'.cell? ⟨gb259, 0, none⟩ = some (.slice A135 y287.length c135) ∧ w'.cell? ⟨gb259, 1, none⟩ = some (.slice Ao27 t256.length co27)) (ds := []) #[false, false, false, false, false, false] (by kernel_rfl) rfl rfl ⟨(zE BK259.out 0).trans rfl, (zE BK259.out 1).trans rfl⟩ (fun hHeld => ?_)
    generalize w136.drew = w137 at HO_253001 HO289 HO_260001 BK252 BK259 HB hHeld ⊢
    refine take_ (i := 0) (N := some 125) (v := ?_) (a' := ?_) (tf_ 1 6) rfl rfl (by kernel_rfl) (fun _ _ _ h => h) (Or.inl ⟨by rfl, ?_⟩) hHeld ?_ ?_
    rotate_left
    ·rintro w' ⟨s0, s1⟩
     go_simp
     with_reducible rfl
    rotate_left
    ·simp only [Act.put, sA_, sB_, sC_, i64_w, i32_w]
     rfl
    refine take_ (i := 2) (N := some 127) (v := ?_) (a' := ?_) #[true, false, true, false, false, false] rfl rfl (by kernel_rfl) (fun _ _ _ h => h) (Or.inl ⟨by rfl, ?_⟩) hHeld ?_ ?_
    rotate_left
    ·rintro w' ⟨s0, s1⟩
     go_simp
     with_reducible rfl
    rotate_left
    ·simp only [Act.put, sA_, sB_, sC_, i64_w, i32_w]
     rfl
    refine one_ (i := 1) (N := some 126) #[true, true, true, false, false, false] rfl rfl (by kernel_rfl) (by decide) (fun K hK => ?_)
    refine goes_ Try.func28 (by kernel_rfl) rfl #[.agg #[.slice A135 y287.length c135, .slice Ao27 t256.length co27]] (by rfl) rfl rfl aT ?_
    with_reducible refine (items_Check.calls kj15 _ _ y287 _ _ t256 t290 _ ?side1 ?side2 ?side3 ?side4 A131.out).mono ?_
    (case side1 => repeat (first | exact (Kd.Q_reads' HO289.out).2.2 | (with_reducible refine Kd.zI ?_ _) | (with_reducible refine Kd.zJ ?_ _) | (with_reducible refine Kd.zK ?_)))
    (case side2 => exact (Kd.Q_reads' HO289.out).2.1)
    (case side3 => exact aF HO_260001)
    (case side4 => exact (Kd.zM HO_260001.out).2.1)
    rintro e w138 ⟨rfl, hb⟩
    refine ⟨_, rfl, ?_⟩
    have n0_ := zA.mk (Kd.zN (aR HO_253001) hb); have n1_ := zA.mk (Kd.Q_below (aQ HO289) hb); have n2_ := zA.mk (Kd.zN (aR HO_260001) hb); have n3_ := zA.mk (blk_below (g := gb252) (o := .cells #[.slice A0 l0.length c0, .slice Ao18 t249.length co18] 60 (0, 0)) (aB BK252) hb); have n4_ := zA.mk (blk_below (g := gb259) (o := .cells #[.slice A135 y287.length c135, .slice Ao27 t256.length co27] 60 (0, 0)) (aB BK259) hb); have n5_ := zA.mk (below_step (aL HB) hb); clear HO_253001; clear HO289; clear HO_260001; clear BK252; clear BK259; clear HB; have HO_253001 := n0_; have HO289 := n1_; have HO_260001 := n2_; have BK252 := n3_; have BK259 := n4_; have HB := n5_; clear n0_ n1_ n2_ n3_ n4_ n5_; (try clear hb)
    (try clear hb2)
    (try clear hk)
    (try clear hi)
    refine hK.out _ _ ⟨(zE BK259.out 0).trans rfl, (zE BK259.out 1).trans rfl⟩ (fun hHeld => ?_)
    clear hK K; refine norm_ (a' := ?_) ?_ ?_
    rotate_left
    ·show Act.put _ (some 126) _ = _
     simp only [Act.put, sA_, sB_, sC_, i64_w, i32_w]; rfl
    refine one_ (i := 3) (N := some 128) #[true, true, true, true, false, false] rfl rfl (by kernel_rfl) (by decide) (fun K hK => ?_)
    refine goes_ Try.func29 (by kernel_rfl) rfl #[.agg #[.slice A135 y287.length c135, .slice Ao27 t256.length co27]] (by rfl) rfl rfl aT ?_
    with_reducible refine (r0_Check.calls kj15 _ _ y287 _ _ t256 t291 _ ?side1 ?side2 ?side3 ?side4 A132.out).mono ?_
    (case side1 => repeat (first | exact (Kd.Q_reads' HO289.out).2.2 | (with_reducible refine Kd.zI ?_ _) | (with_reducible refine Kd.zJ ?_ _) | (with_reducible refine Kd.zK ?_)))
    (case side2 => exact (Kd.Q_reads' HO289.out).2.1)
    (case side3 => exact aF HO_260001)
    (case side4 => exact (Kd.zM HO_260001.out).2.1)
    rintro e w139 ⟨rfl, hb⟩
    refine ⟨_, rfl, ?_⟩
    have n0_ := zA.mk (Kd.zN (aR HO_253001) hb); have n1_ := zA.mk (Kd.Q_below (aQ HO289) hb); have n2_ := zA.mk (Kd.zN (aR HO_260001) hb); have n3_ := zA.mk (blk_below (g := gb252) (o := .cells #[.slice A0 l0.length c0, .slice Ao18 t249.length co18] 60 (0, 0)) (aB BK252) hb); have n4_ := zA.mk (blk_below (g := gb259) (o := .cells #[.slice A135 y287.length c135, .slice Ao27 t256.length co27] 60 (0, 0)) (aB BK259) hb); have n5_ := zA.mk (below_step (aL HB) hb); clear HO_253001; clear HO289; clear HO_260001; clear BK252; clear BK259; clear HB; have HO_253001 := n0_; have HO289 := n1_; have HO_260001 := n2_; have BK252 := n3_; have BK259 := n4_; have HB := n5_; clear n0_ n1_ n2_ n3_ n4_ n5_; (try clear hb)
    (try clear hb2)
    (try clear hk)
    (try clear hi)
    refine hK.out _ _ ⟨(zE BK259.out 0).trans rfl, (zE BK259.out 1).trans rfl⟩ (fun hHeld => ?_)
    clear hK K; refine norm_ (a' := ?_) ?_ ?_
    rotate_left
    ·show Act.put _ (some 128) _ = _
     simp only [Act.put, sA_, sB_, sC_, i64_w, i32_w]; rfl
    refine pure_ (i := 4) (N := some 129) (v := ?_) (a' := ?_) (tf_ 5 6) rfl rfl (by kernel_rfl) (fun _ _ _ h => h) (Or.inl ⟨by rfl, ?_⟩) ?_ ?_
    rotate_left
    ·intro w'
     go_simp
     with_reducible rfl
    rotate_left
    ·simp only [Act.put, sA_, sB_, sC_, i64_w, i32_w]
     rfl
    refine pure_ (i := 5) (N := some 12) (v := ?_) (a' := ?_) #[true, true, true, true, true, true] rfl rfl (by kernel_rfl) (fun _ _ _ h => h) (Or.inl ⟨by rfl, ?_⟩) ?_ ?_
    rotate_left
    ·intro w'
     go_simp
     with_reducible rfl
    rotate_left
    ·simp only [Act.put, sA_, sB_, sC_, i64_w, i32_w]
     rfl
    refine done_ (by kernel_rfl) ?_
    try go_wp2
    go_ret
    exact ⟨by first | rfl | (simp [errW_none, errW_some] <;> rfl) | (simp only [← hji44]; first | rfl | (simp [errW_none, errW_some] <;> rfl)) | (simp [*, errW_none, errW_some] <;> rfl), aL HB⟩
   rw [if_pos c117] at H; have c117b0 : ((Int.tmod (IntKind.u64.wrap (a4)) 8) == 6) = true := beq_iff_eq.mpr c117
   have c117b1 : ((Int.tmod (IntKind.u64.wrap (a4)) 8) != 6) = false := bne_eq_false_iff_eq.mpr c117
   clear c117; obtain ⟨ji118, hji118⟩ : ∃ j_ : Int, (wrap64 ((t256.length : Int) - 1)) = j_ := ⟨_, rfl⟩; replace H : (if 0 ≤ (ji118) then (if (ji118) ≤ (t256.length : Int) then ((some (t256.take ((ji118) : Int).toNat : List Int)).bind fun y282 => ((items_Check.f kj15 t253 y282).bind fun t285 => ((r0_Check.f kj15 t253 y282).bind fun t286 => (some (t285 == t286))))) else (none)) else (none)) = some r := by first | (rw [hji118] at H; exact H) | (simp only [hji118] at H ⊢; exact H)
   have hji118w : (IntKind.i64.wrap ((t256.length : Int) - 1)) = ji118 := (i64_w _).trans hji118
   by_cases c119 : 0 ≤ (ji118)
   rotate_left
   ·rw [if_neg c119] at H
    exact absurd H (by simp)
   rw [if_pos c119] at H; have c119b0 := eq_true c119; have c119b1 : decide (0 ≤ (ji118)) = true := decide_eq_true c119
   clear c119; by_cases c120 : (ji118) ≤ (t256.length : Int)
   rotate_left
   ·rw [if_neg c120] at H
    exact absurd H (by simp)
   rw [if_pos c120] at H; have c120b0 := eq_true c120; have c120b1 : decide ((ji118) ≤ (t256.length : Int)) = true := decide_eq_true c120
   clear c120; obtain ⟨y282, hy282⟩ : ∃ y_ : List Int, y_ = (t256.take ((ji118) : Int).toNat) := ⟨_, rfl⟩; replace H : ((items_Check.f kj15 t253 y282).bind fun t285 => ((r0_Check.f kj15 t253 y282).bind fun t286 => (some (t285 == t286)))) = some r := by first | (rw [hy282]; with_reducible exact H) | (have H2_ := (Option.bind_some _ _).symm.trans H; rw [hy282]; with_reducible exact H2_) | (have H2_ := (Option.bind_some _ _).symm.trans H; with_reducible exact H2_) | with_reducible exact H | (rw [hy282]; exact H) | exact H
   have Ny282 := zA.mk hy282; clear hy282; replace H := Option.bind_eq_some_iff.mp H; obtain ⟨t285, A1210, H⟩ := H; replace H : ((r0_Check.f kj15 t253 y282).bind fun t286 => (some (t285 == t286))) = some r := H
   have A121 := zA.mk A1210; clear A1210; replace H := Option.bind_eq_some_iff.mp H; obtain ⟨t286, A1220, H⟩ := H; replace H : (some (t285 == t286)) = some r := H; have A122 := zA.mk A1220; clear A1220; obtain rfl := Option.some.inj H
   have hnb123 := NB259_252.out; have hnc123 := NB252_259.out; obtain ⟨hcz124_0, hcz124_1, hfz124_0, hfz124_1⟩ := aC2 BK259; have p263 : 0 ≤ ((ji44) : Int) := aD
   have q263 : (ji44) < (t253.length : Int) := aD
   obtain ⟨ad263, e263, hx263_0, hx263_1, hx263_2, hx263_3⟩ := at_T48 (Kd.Q_reads' HO_260000.out).2.2 (ji44) p263 q263; cases e263
   replace p263 := eq_true p263; replace q263 := eq_true q263; have q125 : ((ji118) : Int) ≤ ((t256.length : Int) : Int) := aD
   obtain ⟨i0125, hi0125, _, hsz125, _⟩ := info_parts info53; have hcut125 := cut_to (P := Try.prog) 38 53 .i64 Try.underlying38 hi0125 Ao27 t256.length co27 (ji118) (aD) q125 (Kd.zM HO_260001.out).2.1; have hr125 := Kd.R_take (m := ((ji118) : Int).toNat) HO_260001.out (by omega)
   have hy125 : y282.length = ((ji118) : Int).toNat := (by rw [Ny282.out, List.length_take]; omega)
   rw [← Ny282.out] at hr125; rw [← hy125] at hr125 hcut125; clear hy125 hi0125 hsz125 HO_260001; have HO284 := zA.mk hr125; clear hr125; replace q125 := eq_true q125; try go_wp2
   have n0_ : zA (Kd.R (Kd.int .u8) 53 (wc.setCell ⟨gb259, 1, none⟩ (.slice Ao27 y282.length co27)) w.heap.size (fun k_ => some k_ ≠ (.slice Ao27 y282.length co27 : Value).ownBlock) (.slice Ao18 t249.length co18) t249) := ⟨by (with_reducible repeat (first | apply Kd.zF | apply Kd.zG | apply Kd.zH)); exact Kd.zR (Kd.zO (p := ⟨gb259, 1, none⟩) (Kd.zS HO_253001.out BK259.out (by decide)) (fun _ hk => hk.2) (.slice Ao27 y282.length co27)) (fun _ hk => by first | exact hk.1 | (have h_ := hk.1; generalize Ao27 = A_ at h_ ⊢; cases A_ <;> exact h_))⟩
   have n1_ : zA (Kd.Q k48 48 (wc.setCell ⟨gb259, 1, none⟩ (.slice Ao27 y282.length co27)) w.heap.size (fun _ => True) (.slice (some ad263) t253.length co24) t253) := ⟨by (with_reducible repeat (first | apply Kd.Q_alloc | apply Kd.Q_drewN | apply Kd.Q_drew)); exact Kd.Q_mono (Kd.Q_far (p := ⟨gb259, 1, none⟩) (Kd.Q_types HO_260000.out BK259.out (by decide)) (fun _ hk => hk.2) (.slice Ao27 y282.length co27)) (fun _ hk => trivial)⟩
   have n2_ : zA (Kd.R (Kd.int .u8) 53 (wc.setCell ⟨gb259, 1, none⟩ (.slice Ao27 y282.length co27)) w.heap.size (fun k_ => some k_ ≠ (.slice Ao18 t249.length co18 : Value).ownBlock) (.slice Ao27 y282.length co27) y282) := ⟨by (with_reducible repeat (first | apply Kd.zF | apply Kd.zG | apply Kd.zH)); exact Kd.zR (Kd.zO (p := ⟨gb259, 1, none⟩) (Kd.zS HO284.out BK259.out (by decide)) (fun _ hk => hk.2) (.slice Ao27 y282.length co27)) (fun _ hk => hk.1)⟩
   have n3_ : zA ((wc.setCell ⟨gb259, 1, none⟩ (.slice Ao27 y282.length co27)).heap[gb252]? = some (.cells #[.slice A0 l0.length c0, .slice Ao18 t249.length co18] 60 (0, 0))) := ⟨by (with_reducible repeat (first | refine zD ?_ _ | refine zC ?_ | refine zB ?_ _)); refine blk_far ?_ NB252_259.out _; (with_reducible repeat (first | refine zD ?_ _ | refine zC ?_ | refine zB ?_ _)); exact BK252.out⟩
   have n4_ : zA ((wc.setCell ⟨gb259, 1, none⟩ (.slice Ao27 y282.length co27)).heap[gb259]? = some (.cells #[.slice (some ad263) t253.length co24, .slice Ao27 y282.length co27] 60 (0, 0))) := ⟨by (with_reducible repeat (first | refine zD ?_ _ | refine zC ?_ | refine zB ?_ _)); refine blk_put (cs := #[.slice (some ad263) t253.length co24, .slice Ao27 t256.length co27]) ?_ 1 _ rfl; (with_reducible repeat (first | refine zD ?_ _ | refine zC ?_ | refine zB ?_ _)); exact BK259.out⟩
   have n5_ : zA (Below w.heap.size w (wc.setCell ⟨gb259, 1, none⟩ (.slice Ao27 y282.length co27))) := ⟨aL HB⟩
   (try clear HO_253001)
   (try clear HO_260000)
   (try clear HO284)
   (try clear BK252)
   (try clear BK259)
   (try clear HB)
   generalize (wc.setCell ⟨gb259, 1, none⟩ (.slice Ao27 y282.length co27)) = w126 at n0_ n1_ n2_ n3_ n4_ n5_ ⊢
   have HO_253001 := n0_; have HO_260000 := n1_; have HO284 := n2_; have BK252 := n3_; have BK259 := n4_; have HB := n5_; clear n0_ n1_ n2_ n3_ n4_ n5_; have n0_ := zA.mk (Kd.zH HO_253001.out); have n1_ := zA.mk (Kd.Q_drew HO_260000.out); have n2_ := zA.mk (Kd.zH HO284.out); have n3_ := zA.mk (zC BK252.out); have n4_ := zA.mk (zC BK259.out); have n5_ := zA.mk (below_drew1 HB.out); clear HO_253001; clear HO_260000; clear HO284; clear BK252; clear BK259; clear HB; have HO_253001 := n0_; have HO_260000 := n1_; have HO284 := n2_; have BK252 := n3_; have BK259 := n4_; have HB := n5_; clear n0_ n1_ n2_ n3_ n4_ n5_; refine start_ (n := 6) (S := fun w' => w'.cell? ⟨gb259, 0, none⟩ = some (.slice (some ad263) t253.length co24) ∧ w'.cell? ⟨gb259, 1, none⟩ = some (.slice Ao27 y282.length co27)) (ds := []) #[false, false, false, false, false, false] (by kernel_rfl) rfl rfl ⟨(zE BK259.out 0).trans rfl, (zE BK259.out 1).trans rfl⟩ (fun hHeld => ?_)
   generalize w126.drew = w127 at HO_253001 HO_260000 HO284 BK252 BK259 HB hHeld ⊢
   refine take_ (i := 0) (N := some 125) (v := ?_) (a' := ?_) (tf_ 1 6) rfl rfl (by kernel_rfl) (fun _ _ _ h => h) (Or.inl ⟨by rfl, ?_⟩) hHeld ?_ ?_
   rotate_left
   ·rintro w' ⟨s0, s1⟩
    go_simp
    with_reducible rfl
   rotate_left
   ·simp only [Act.put, sA_, sB_, sC_, i64_w, i32_w]
    rfl
   refine take_ (i := 2) (N := some 127) (v := ?_) (a' := ?_) #[true, false, true, false, false, false] rfl rfl (by kernel_rfl) (fun _ _ _ h => h) (Or.inl ⟨by rfl, ?_⟩) hHeld ?_ ?_
   rotate_left
   ·rintro w' ⟨s0, s1⟩
    go_simp
    with_reducible rfl
   rotate_left
   ·simp only [Act.put, sA_, sB_, sC_, i64_w, i32_w]
    rfl
   refine one_ (i := 1) (N := some 126) #[true, true, true, false, false, false] rfl rfl (by kernel_rfl) (by decide) (fun K hK => ?_)
   refine goes_ Try.func28 (by kernel_rfl) rfl #[.agg #[.slice (some ad263) t253.length co24, .slice Ao27 y282.length co27]] (by rfl) rfl rfl aT ?_
   with_reducible refine (items_Check.calls kj15 _ _ t253 _ _ y282 t285 _ ?side1 ?side2 ?side3 ?side4 A121.out).mono ?_
   (case side1 => repeat (first | exact (Kd.Q_reads' HO_260000.out).2.2 | (with_reducible refine Kd.zI ?_ _) | (with_reducible refine Kd.zJ ?_ _) | (with_reducible refine Kd.zK ?_)))
   (case side2 => exact (Kd.Q_reads' HO_260000.out).2.1)
   (case side3 => exact aF HO284)
   (case side4 => exact (Kd.zM HO284.out).2.1)
   rintro e w128 ⟨rfl, hb⟩
   refine ⟨_, rfl, ?_⟩
   have n0_ := zA.mk (Kd.zN (aR HO_253001) hb); have n1_ := zA.mk (Kd.Q_below (aQ HO_260000) hb); have n2_ := zA.mk (Kd.zN (aR HO284) hb); have n3_ := zA.mk (blk_below (g := gb252) (o := .cells #[.slice A0 l0.length c0, .slice Ao18 t249.length co18] 60 (0, 0)) (aB BK252) hb); have n4_ := zA.mk (blk_below (g := gb259) (o := .cells #[.slice (some ad263) t253.length co24, .slice Ao27 y282.length co27] 60 (0, 0)) (aB BK259) hb); have n5_ := zA.mk (below_step (aL HB) hb); clear HO_253001; clear HO_260000; clear HO284; clear BK252; clear BK259; clear HB; have HO_253001 := n0_; have HO_260000 := n1_; have HO284 := n2_; have BK252 := n3_; have BK259 := n4_; have HB := n5_; clear n0_ n1_ n2_ n3_ n4_ n5_; (try clear hb)
   (try clear hb2)
   (try clear hk)
   (try clear hi)
   refine hK.out _ _ ⟨(zE BK259.out 0).trans rfl, (zE BK259.out 1).trans rfl⟩ (fun hHeld => ?_)
   clear hK K; refine norm_ (a' := ?_) ?_ ?_
   rotate_left
   ·show Act.put _ (some 126) _ = _
    simp only [Act.put, sA_, sB_, sC_, i64_w, i32_w]; rfl
   refine one_ (i := 3) (N := some 128) #[true, true, true, true, false, false] rfl rfl (by kernel_rfl) (by decide) (fun K hK => ?_)
   refine goes_ Try.func29 (by kernel_rfl) rfl #[.agg #[.slice (some ad263) t253.length co24, .slice Ao27 y282.length co27]] (by rfl) rfl rfl aT ?_
   with_reducible refine (r0_Check.calls kj15 _ _ t253 _ _ y282 t286 _ ?side1 ?side2 ?side3 ?side4 A122.out).mono ?_
   (case side1 => repeat (first | exact (Kd.Q_reads' HO_260000.out).2.2 | (with_reducible refine Kd.zI ?_ _) | (with_reducible refine Kd.zJ ?_ _) | (with_reducible refine Kd.zK ?_)))
   (case side2 => exact (Kd.Q_reads' HO_260000.out).2.1)
   (case side3 => exact aF HO284)
   (case side4 => exact (Kd.zM HO284.out).2.1)
   rintro e w129 ⟨rfl, hb⟩
   refine ⟨_, rfl, ?_⟩
   have n0_ := zA.mk (Kd.zN (aR HO_253001) hb); have n1_ := zA.mk (Kd.Q_below (aQ HO_260000) hb); have n2_ := zA.mk (Kd.zN (aR HO284) hb); have n3_ := zA.mk (blk_below (g := gb252) (o := .cells #[.slice A0 l0.length c0, .slice Ao18 t249.length co18] 60 (0, 0)) (aB BK252) hb); have n4_ := zA.mk (blk_below (g := gb259) (o := .cells #[.slice (some ad263) t253.length co24, .slice Ao27 y282.length co27] 60 (0, 0)) (aB BK259) hb); have n5_ := zA.mk (below_step (aL HB) hb); clear HO_253001; clear HO_260000; clear HO284; clear BK252; clear BK259; clear HB; have HO_253001 := n0_; have HO_260000 := n1_; have HO284 := n2_; have BK252 := n3_; have BK259 := n4_; have HB := n5_; clear n0_ n1_ n2_ n3_ n4_ n5_; (try clear hb)
   (try clear hb2)
   (try clear hk)
   (try clear hi)
   refine hK.out _ _ ⟨(zE BK259.out 0).trans rfl, (zE BK259.out 1).trans rfl⟩ (fun hHeld => ?_)
   clear hK K; refine norm_ (a' := ?_) ?_ ?_
   rotate_left
   ·show Act.put _ (some 128) _ = _
    simp only [Act.put, sA_, sB_, sC_, i64_w, i32_w]; rfl
   refine pure_ (i := 4) (N := some 129) (v := ?_) (a' := ?_) (tf_ 5 6) rfl rfl (by kernel_rfl) (fun _ _ _ h => h) (Or.inl ⟨by rfl, ?_⟩) ?_ ?_
   rotate_left
   ·intro w'
    go_simp
    with_reducible rfl
   rotate_left
   ·simp only [Act.put, sA_, sB_, sC_, i64_w, i32_w]
    rfl
   refine pure_ (i := 5) (N := some 12) (v := ?_) (a' := ?_) #[true, true, true, true, true, true] rfl rfl (by kernel_rfl) (fun _ _ _ h => h) (Or.inl ⟨by rfl, ?_⟩) ?_ ?_
   rotate_left
   ·intro w'
    go_simp
    with_reducible rfl
   rotate_left
   ·simp only [Act.put, sA_, sB_, sC_, i64_w, i32_w]
    rfl
   refine done_ (by kernel_rfl) ?_
   try go_wp2
   go_ret
   exact ⟨by first | rfl | (simp [errW_none, errW_some] <;> rfl) | (simp only [← hji44, ← hji118]; first | rfl | (simp [errW_none, errW_some] <;> rfl)) | (simp [*, errW_none, errW_some] <;> rfl), aL HB⟩
def stanzalaw11_ItemsChecks.Pure : Prop := ∀ (l0 : List (S48)) (l1 : List Int) (l2 : List (S90)) (a3 : Int) (a4 : Int) (a5 : Int), (l0.length * 32 ≤ 140737488351232 ∧ ∀ y0 ∈ l0, ((Lit.int .i64 y0.f0).wf = true ∧ ((Lit.int .i64 y0.f1).wf = true ∧ ((Lit.int .i64 y0.f2).wf = true ∧ (Lit.int .u8 y0.f3).wf = true)))) → (l1.length * 1 ≤ 140737488351232 ∧ ∀ y0 ∈ l1, (Lit.int .u8 y0).wf = true) → (l2.length * 4 ≤ 140737488351232 ∧ ∀ y0 ∈ l2, ((Lit.int .u8 y0.f0).wf = true ∧ ((Lit.int .u8 y0.f1).wf = true ∧ ((Lit.int .u8 y0.f2).wf = true ∧ (Lit.int .u8 y0.f3).wf = true)))) → (Lit.int .i64 a3).wf = true → (Lit.int .i64 a4).wf = true → (Lit.int .i64 a5).wf = true → ∃ k, stanzalaw11_ItemsChecks.f k l0 l1 l2 a3 a4 a5 = some true
end Go.Proofs.Ytigajcipjklknaa.F
end
