/- Printed by a program: Lean functions that answer as the Go functions do, and the proofs of it. -/
import Derived.Test.YtlgclhhkgohanaaVBestLeast0
import Derived.Test.YtlgclhhkgohanaaVBestLeast1
section
namespace Go.Proofs.Ytlgclhhkgohanaa.F
open Go.RowKit Go.Proofs.YtlgclhhkgohanaaW.PrintWords Go.Proofs.YtlgclhhkgohanaaW.PrintLast Go.Proofs.YtlgclhhkgohanaaW.PrintMore
attribute [local go_sem] max2_int min2_int max_two min_two max_three min_three max_four min_four   -- for this text's walks alone
set_option linter.unusedVariables false
set_option linter.unusedSimpArgs false
def l5_all.l0 : Nat → List Int → Int → Int → List Int → Int → Int → List (S62) → List Int → Int → Int → Int → Int → Int → Nat → Option (Int × Bool)
  | 0, _, _, _, _, _, _, _, _, _, _, _, _, _, _ => none
  | k + 1, x1, x8, x9, x14, x15, x16, x503000, x503001, x504000, x504001, x504002, x504003, x504004, x504005 => if x16 < x15 then (if 0 ≤ x16 then (if x16 < (x14.length : Int) then ((best_Cost.f k x503000 x503001 x9 (rd x14 x16) (x16 == (wrap64 ((x1.length : Int) - 1))) x504000 x504001 x504002 x504003 x504004 x504005).bind fun bt505 => (if bt505.2 = true then (l5_all.l0 k x1 (wrap64 (x8 + bt505.1)) (rd x14 x16) x14 x15 (wrap64 (x16 + 1)) x503000 x503001 x504000 x504001 x504002 x504003 x504004 x504005) else (some (0, false)))) else (none)) else (none)) else (some (x8, true))
def l5_all.f (k : Nat) (l0_0 : List (S62)) (l0_1 : List Int) (l1 : List Int) (a2_0 : Int) (a2_1 : Int) (a2_2 : Int) (a2_3 : Int) (a2_4 : Int) (a2_5 : Nat) : Option (Int × Bool) := l5_all.l0 k l1 0 0 l1 (l1.length : Int) 0 l0_0 l0_1 a2_0 a2_1 a2_2 a2_3 a2_4 a2_5
theorem l5_all.mono_l : ∀ k, (∀ y0 y1 y2 y3 y4 y5 y6 y7 y8 y9 y10 y11 y12 y13, LeO (l5_all.l0 k y0 y1 y2 y3 y4 y5 y6 y7 y8 y9 y10 y11 y12 y13) (l5_all.l0 (k + 1) y0 y1 y2 y3 y4 y5 y6 y7 y8 y9 y10 y11 y12 y13))
  | 0 => fun _ _ _ _ _ _ _ _ _ _ _ _ _ _ r h => by simp [l5_all.l0] at h
  | k + 1 => by
    have ih0 := l5_all.mono_l k
    · intro y0 y1 y2 y3 y4 y5 y6 y7 y8 y9 y10 y11 y12 y13
      unfold l5_all.l0
      repeat' (with_reducible first | exact ih0 _ _ _ _ _ _ _ _ _ _ _ _ _ _ | exact best_Cost.mono _ _ _ _ _ _ _ _ _ _ _ _ | exact LeO.refl _ | exact LeO.none _ | refine LeO.ite ?_ ?_ | refine LeO.bind ?_ (fun _ => ?_))
theorem l5_all.mono : ∀ a0 a1 a2 a3 a4 a5 a6 a7 a8 k, LeO (l5_all.f k a0 a1 a2 a3 a4 a5 a6 a7 a8) (l5_all.f (k + 1) a0 a1 a2 a3 a4 a5 a6 a7 a8) := by
  intro a0 a1 a2 a3 a4 a5 a6 a7 a8 k
  have ih0 := l5_all.mono_l k; unfold l5_all.f
  repeat' (with_reducible first | exact ih0 _ _ _ _ _ _ _ _ _ _ _ _ _ _ | exact best_Cost.mono _ _ _ _ _ _ _ _ _ _ _ _ | exact LeO.refl _ | exact LeO.none _ | refine LeO.ite ?_ ?_ | refine LeO.bind ?_ (fun _ => ?_))
set_option maxHeartbeats 8000000 in
set_option maxRecDepth 100000 in
theorem l5_all.calls (k : Nat) (A0_0 : Option Addr) (c0_0 : Nat) (l0_0 : List (S62)) (A0_1 : Option Addr) (c0_1 : Nat) (l0_1 : List Int) (A1 : Option Addr) (c1 : Nat) (l1 : List Int) (a2_0 : Int) (a2_1 : Int) (a2_2 : Int) (a2_3 : Int) (a2_4 : Int) (a2_5 : Nat) (r1 : Int) (r2 : Bool) (w : World) (hr0_0 : Kd.C k62 w A0_0 l0_0.length l0_0) (hc0_0 : l0_0.length ≤ c0_0) (hr0_1 : Kd.C (Kd.int .u8) w A0_1 l0_1.length l0_1) (hc0_1 : l0_1.length ≤ c0_1) (hr1 : Kd.C (Kd.int .i64) w A1 l1.length l1) (hc1 : l1.length ≤ c1) (h : l5_all.f k l0_0 l0_1 l1 a2_0 a2_1 a2_2 a2_3 a2_4 a2_5 = some (r1, r2)) :
    Calls Try.prog 21 #[.agg #[.slice A0_0 l0_0.length c0_0, .slice A0_1 l0_1.length c0_1], .slice A1 l1.length c1, .agg #[.int .i64 a2_0, .int .i64 a2_1, .int .u8 a2_2, .int .i64 a2_3, .int .i64 a2_4, .float .f64 a2_5]] w fun e w' => e = .returned (.tuple #[.int .i64 r1, .bool r2]) ∧ Below w.heap.size w w' := by
  have hu31 := Try.underlying31; have hu35 := Try.underlying35; have HR0_0 := zA.mk hr0_0; have HC0_0 := zA.mk hc0_0; clear hr0_0 hc0_0; have HR0_1 := zA.mk hr0_1; have HC0_1 := zA.mk hc0_1; clear hr0_1 hc0_1; have HR1 := zA.mk hr1; have HC1 := zA.mk hc1; clear hr1 hc1; have HB := zA.mk (Below.refl w.heap.size w); have H : (l5_all.l0 k l1 0 0 l1 (l1.length : Int) 0 l0_0 l0_1 a2_0 a2_1 a2_2 a2_3 a2_4 a2_5) = some (r1, r2) := h
  clear h; have H' := zA.mk H
  clear H; go_enter Try.func21, Try.ntmps21
  go_wp2_with (first | ((with_reducible refine gate_dst (N := 3) rfl ?_); refine box_event ?hg (N := 3) ?hd (cs := #[.slice A0_0 l0_0.length c0_0, .slice A0_1 l0_1.length c0_1]) (t := 31) ?hr ?_; (case hd => rfl); (case hg => rfl); (case hr => first | (go_simp; done) | (go_simp; rfl)); intro gb502 hg w4 hbox hb; have n0_ := zA.mk (below_step (by repeat (first | (with_reducible first | exact HB.out | apply zJ | apply zF | apply zI) | exact HB.out)) hb); have n1_ := zA.mk (hbox); have n2_ := zA.mk ((by rw [hg]; exact (below_size (by repeat (first | (with_reducible first | exact HB.out | apply zJ | apply zF | apply zI) | exact HB.out))) : w.heap.size ≤ gb502)); have n3_ := n2_; clear HB; have HB := n0_; have BK502 := n1_; have GW502 := n2_; have GE502 := n3_; clear n0_ n1_ n2_ n3_; clear hb hbox hg) | ((with_reducible refine gate_dst (N := 5) rfl ?_); refine box_event ?hg (N := 5) ?hd (cs := #[.int .i64 a2_0, .int .i64 a2_1, .int .u8 a2_2, .int .i64 a2_3, .int .i64 a2_4, .float .f64 a2_5]) (t := 35) ?hr ?_; (case hd => rfl); (case hg => rfl); (case hr => first | (go_simp; done) | (go_simp; rfl)); intro gb503 hg w5 hbox hb; have n0_ := zA.mk (zK (by (with_reducible repeat (first | refine zC ?_ _ | refine zD ?_ | refine zB ?_ _)); exact BK502.out) hb); have n1_ := zA.mk (below_step (by repeat (first | (with_reducible first | exact HB.out | apply zJ | apply zF | apply zI | refine zE ?_ GE502.out) | exact HB.out)) hb); have n2_ := zA.mk (hbox); have n3_ := zA.mk ((by rw [hg]; exact (below_size (by repeat (first | (with_reducible first | exact HB.out | apply zJ | apply zF | apply zI | refine zE ?_ GE502.out) | exact HB.out))) : w.heap.size ≤ gb503)); have n4_ := n3_; have n5_ := zA.mk ((by rw [hg]; exact Nat.ne_of_lt (blk_lt (by (with_reducible repeat (first | refine zC ?_ _ | refine zD ?_ | refine zB ?_ _)); exact BK502.out)) : gb502 ≠ gb503)); have n6_ := zA.mk n5_.out.symm; clear BK502; clear HB; have BK502 := n0_; have HB := n1_; have BK503 := n2_; have GW503 := n3_; have GE503 := n4_; have NB502_503 := n5_; have NB503_502 := n6_; clear n0_ n1_ n2_ n3_ n4_ n5_ n6_; clear hb hbox hg))
  go_loopg [8, 9, 16] k (fun kq v8 v9 v16 w' => ∃ (x8_1 : Int) (x9_1 : Int) (x16_1 : Int), v8 = .int .i64 x8_1 ∧ v9 = .int .i64 x9_1 ∧ v16 = .int .i64 x16_1 ∧ zA (l5_all.l0 kq l1 x8_1 x9_1 l1 (l1.length : Int) x16_1 l0_0 l0_1 a2_0 a2_1 a2_2 a2_3 a2_4 a2_5 = some (r1, r2)) ∧ zA (kq ≤ k) ∧ zA (w'.heap[gb502]? = some (.cells #[(.slice A0_0 l0_0.length c0_0), (.slice A0_1 l0_1.length c0_1)] 31 (0, 0))) ∧ zA (w'.heap[gb503]? = some (.cells #[.int .i64 a2_0, .int .i64 a2_1, .int .u8 a2_2, .int .i64 a2_3, .int .i64 a2_4, .float .f64 a2_5] 35 (0, 0))) ∧ zA (Below w.heap.size w w'))
  case atStart => exact ⟨(0), (0), (0), (by first | rfl | (simp; done) | (simp [*]; done)), (by first | rfl | (simp; done) | (simp [*]; done)), (by first | rfl | (simp; done) | (simp [*]; done)), H', ⟨Nat.le_refl _⟩, ⟨by (with_reducible repeat (first | refine zC ?_ _ | refine zD ?_ | refine zB ?_ _)); exact BK502.out⟩, ⟨by (with_reducible repeat (first | refine zC ?_ _ | refine zD ?_ | refine zB ?_ _)); exact BK503.out⟩, ⟨by repeat (first | (with_reducible first | exact HB.out | apply zJ | apply zF | apply zI | refine zE ?_ GE502.out | refine zE ?_ GE503.out) | exact HB.out)⟩⟩
  clear H'; obtain ⟨x8_1, x9_1, x16_1, rfl, rfl, rfl, HA, HK1, BK502, BK503, HB⟩ := hrel; cases gk with
  | zero => exact absurd HA.out (by simp [l5_all.l0])
  | succ k1 =>
    have H := HA.out; clear HA; simp only [l5_all.l0] at H; by_cases c6 : x16_1 < (l1.length : Int)
    rotate_left
    · rw [if_neg c6] at H
      have c6b0 : decide (x16_1 < (l1.length : Int)) = false := decide_eq_false c6
      clear c6; simp only [Option.some.injEq, Prod.mk.injEq] at H; obtain ⟨rfl, rfl⟩ := H; go_wp2
      go_ret2
      exact ⟨by first | rfl | (simp [errW_none, errW_some] <;> rfl) | (simp [*, errW_none, errW_some] <;> rfl), by repeat (first | (with_reducible first | exact HB.out | apply zJ | apply zF | apply zI | refine zE ?_ GE502.out | refine zE ?_ GE503.out) | exact HB.out)⟩
    rw [if_pos c6] at H; have c6b0 : decide (x16_1 < (l1.length : Int)) = true := decide_eq_true c6
    clear c6; by_cases c7 : 0 ≤ x16_1
    rotate_left
    · rw [if_neg c7] at H
      exact absurd H (by simp)
    rw [if_pos c7] at H; have c7b0 : decide (0 ≤ x16_1) = true := decide_eq_true c7
    clear c7; by_cases c8 : x16_1 < (l1.length : Int)
    rotate_left
    · rw [if_neg c8] at H
      exact absurd H (by simp)
    rw [if_pos c8] at H; have c8b0 : decide (x16_1 < (l1.length : Int)) = true := decide_eq_true c8
    clear c8; replace H := Option.bind_eq_some_iff.mp H; obtain ⟨⟨t505, t506⟩, A90, H⟩ := H; replace H : (if t506 = true then (l5_all.l0 k1 l1 (wrap64 (x8_1 + t505)) (rd l1 x16_1) l1 (l1.length : Int) (wrap64 (x16_1 + 1)) l0_0 l0_1 a2_0 a2_1 a2_2 a2_3 a2_4 a2_5) else (some (0, false))) = some (r1, r2) := H; have A9 := zA.mk A90; clear A90; by_cases c10 : t506 = true
    rotate_left
    · replace c10 := Bool.eq_false_iff.mpr c10
      subst c10; have H1 : (some (0, false)) = some (r1, r2) := by rw [if_neg (show ¬ (false = true) by decide)] at H; exact H
      clear H; have H := H1; clear H1; simp only [Option.some.injEq, Prod.mk.injEq] at H; obtain ⟨rfl, rfl⟩ := H; have p504 : 0 ≤ (x16_1 : Int) := of_decide_eq_true (by first | (with_reducible assumption) | assumption)
      have q504 : x16_1 < (l1.length : Int) := of_decide_eq_true (by first | (with_reducible assumption) | assumption)
      obtain ⟨ad504, e504, hx504_0⟩ := Kd.at_int HR1.out x16_1 p504 q504; cases e504
      replace hx504_0 := (HB.out.cell (World.block_lt_of_cell? w _ hx504_0)).trans hx504_0; replace p504 := eq_true p504; replace q504 := eq_true q504; have hnb15 := NB502_503.out; have hnc15 := NB503_502.out; have hcz16_0 : wr.cell? ⟨gb502, 0, none⟩ = some (.slice A0_0 l0_0.length c0_0) := (zG BK502.out 0).trans rfl
      have hcz16_1 : wr.cell? ⟨gb502, 1, none⟩ = some (.slice A0_1 l0_1.length c0_1) := (zG BK502.out 1).trans rfl
      have hfz16_0 := zH BK502.out 0; have hfz16_1 := zH BK502.out 1; have hcz17_0 : wr.cell? ⟨gb503, 0, none⟩ = some (.int .i64 a2_0) := (zG BK503.out 0).trans rfl
      have hcz17_1 : wr.cell? ⟨gb503, 1, none⟩ = some (.int .i64 a2_1) := (zG BK503.out 1).trans rfl
      have hcz17_2 : wr.cell? ⟨gb503, 2, none⟩ = some (.int .u8 a2_2) := (zG BK503.out 2).trans rfl
      have hcz17_3 : wr.cell? ⟨gb503, 3, none⟩ = some (.int .i64 a2_3) := (zG BK503.out 3).trans rfl
      have hcz17_4 : wr.cell? ⟨gb503, 4, none⟩ = some (.int .i64 a2_4) := (zG BK503.out 4).trans rfl
      have hcz17_5 : wr.cell? ⟨gb503, 5, none⟩ = some (.float .f64 a2_5) := (zG BK503.out 5).trans rfl
      have hfz17_0 := zH BK503.out 0; have hfz17_1 := zH BK503.out 1; have hfz17_2 := zH BK503.out 2; have hfz17_3 := zH BK503.out 3; have hfz17_4 := zH BK503.out 4; have hfz17_5 := zH BK503.out 5; go_wp2_with (first | ((with_reducible refine gate_callee (f := 19) rfl ?_); refine goesL_ (some 31) rfl rfl Try.func19 (by kernel_rfl) rfl #[.agg #[.slice A0_0 l0_0.length c0_0, .slice A0_1 l0_1.length c0_1], .int .i64 x9_1, .int .i64 (rd l1 x16_1), .bool (x16_1 == (wrap64 ((l1.length : Int) - 1))), .agg #[.int .i64 a2_0, .int .i64 a2_1, .int .u8 a2_2, .int .i64 a2_3, .int .i64 a2_4, .float .f64 a2_5]] rfl (by (try simp only [List.map_toArray, List.map_cons, List.map_nil]); first | done | rfl | (simp only [List.length_drop, List.length_take]; rfl)) ?_; (with_reducible refine (best_Cost.calls k1 _ _ l0_0 _ _ l0_1 x9_1 (rd l1 x16_1) (x16_1 == (wrap64 ((l1.length : Int) - 1))) a2_0 a2_1 a2_2 a2_3 a2_4 a2_5 t505 false _ ?side1 ?side2 ?side3 ?side4 A9.out).mono ?_); (case side1 => repeat (first | exact (Kd.zR HR0_0.out HB.out) | (with_reducible refine Kd.zO ?_ _) | (with_reducible refine Kd.zP ?_ _) | (with_reducible refine Kd.zQ ?_))); (case side2 => exact HC0_0.out); (case side3 => repeat (first | exact (Kd.zR HR0_1.out HB.out) | (with_reducible refine Kd.zO ?_ _) | (with_reducible refine Kd.zP ?_ _) | (with_reducible refine Kd.zQ ?_))); (case side4 => exact HC0_1.out); rintro e w18 ⟨rfl, hb⟩; refine ⟨_, rfl, ?_⟩; replace BK502 := zA.mk (zK (by (with_reducible repeat (first | refine zC ?_ _ | refine zD ?_ | refine zB ?_ _)); exact BK502.out) hb); replace BK503 := zA.mk (zK (by (with_reducible repeat (first | refine zC ?_ _ | refine zD ?_ | refine zB ?_ _)); exact BK503.out) hb); replace HB := zA.mk (below_step (by repeat (first | (with_reducible first | exact HB.out | apply zJ | apply zF | apply zI | refine zE ?_ GE502.out | refine zE ?_ GE503.out) | exact HB.out)) hb); (try clear hb); (try clear hb2); (try clear hk); (try clear hi)))
      go_ret2
      exact ⟨by first | rfl | (simp [errW_none, errW_some] <;> rfl) | (simp [*, errW_none, errW_some] <;> rfl), by repeat (first | (with_reducible first | exact HB.out | apply zJ | apply zF | apply zI | refine zE ?_ GE502.out | refine zE ?_ GE503.out) | exact HB.out)⟩
    subst c10; have H1 : (l5_all.l0 k1 l1 (wrap64 (x8_1 + t505)) (rd l1 x16_1) l1 (l1.length : Int) (wrap64 (x16_1 + 1)) l0_0 l0_1 a2_0 a2_1 a2_2 a2_3 a2_4 a2_5) = some (r1, r2) := by rw [if_pos rfl] at H; exact H
    clear H; have H := H1; clear H1; have H' := zA.mk H
    clear H; have p504 : 0 ≤ (x16_1 : Int) := of_decide_eq_true (by first | (with_reducible assumption) | assumption)
    have q504 : x16_1 < (l1.length : Int) := of_decide_eq_true (by first | (with_reducible assumption) | assumption)
    obtain ⟨ad504, e504, hx504_0⟩ := Kd.at_int HR1.out x16_1 p504 q504; cases e504
    replace hx504_0 := (HB.out.cell (World.block_lt_of_cell? w _ hx504_0)).trans hx504_0; replace p504 := eq_true p504; replace q504 := eq_true q504; have hnb11 := NB502_503.out; have hnc11 := NB503_502.out; have hcz12_0 : wr.cell? ⟨gb502, 0, none⟩ = some (.slice A0_0 l0_0.length c0_0) := (zG BK502.out 0).trans rfl
    have hcz12_1 : wr.cell? ⟨gb502, 1, none⟩ = some (.slice A0_1 l0_1.length c0_1) := (zG BK502.out 1).trans rfl
    have hfz12_0 := zH BK502.out 0; have hfz12_1 := zH BK502.out 1; have hcz13_0 : wr.cell? ⟨gb503, 0, none⟩ = some (.int .i64 a2_0) := (zG BK503.out 0).trans rfl
    have hcz13_1 : wr.cell? ⟨gb503, 1, none⟩ = some (.int .i64 a2_1) := (zG BK503.out 1).trans rfl
    have hcz13_2 : wr.cell? ⟨gb503, 2, none⟩ = some (.int .u8 a2_2) := (zG BK503.out 2).trans rfl
    have hcz13_3 : wr.cell? ⟨gb503, 3, none⟩ = some (.int .i64 a2_3) := (zG BK503.out 3).trans rfl
    have hcz13_4 : wr.cell? ⟨gb503, 4, none⟩ = some (.int .i64 a2_4) := (zG BK503.out 4).trans rfl
    have hcz13_5 : wr.cell? ⟨gb503, 5, none⟩ = some (.float .f64 a2_5) := (zG BK503.out 5).trans rfl
    have hfz13_0 := zH BK503.out 0; have hfz13_1 := zH BK503.out 1; have hfz13_2 := zH BK503.out 2; have hfz13_3 := zH BK503.out 3; have hfz13_4 := zH BK503.out 4; have hfz13_5 := zH BK503.out 5; go_wp2_with (first | ((with_reducible refine gate_callee (f := 19) rfl ?_); refine goesL_ (some 31) rfl rfl Try.func19 (by kernel_rfl) rfl #[.agg #[.slice A0_0 l0_0.length c0_0, .slice A0_1 l0_1.length c0_1], .int .i64 x9_1, .int .i64 (rd l1 x16_1), .bool (x16_1 == (wrap64 ((l1.length : Int) - 1))), .agg #[.int .i64 a2_0, .int .i64 a2_1, .int .u8 a2_2, .int .i64 a2_3, .int .i64 a2_4, .float .f64 a2_5]] rfl (by (try simp only [List.map_toArray, List.map_cons, List.map_nil]); first | done | rfl | (simp only [List.length_drop, List.length_take]; rfl)) ?_; (with_reducible refine (best_Cost.calls k1 _ _ l0_0 _ _ l0_1 x9_1 (rd l1 x16_1) (x16_1 == (wrap64 ((l1.length : Int) - 1))) a2_0 a2_1 a2_2 a2_3 a2_4 a2_5 t505 true _ ?side1 ?side2 ?side3 ?side4 A9.out).mono ?_); (case side1 => repeat (first | exact (Kd.zR HR0_0.out HB.out) | (with_reducible refine Kd.zO ?_ _) | (with_reducible refine Kd.zP ?_ _) | (with_reducible refine Kd.zQ ?_))); (case side2 => exact HC0_0.out); (case side3 => repeat (first | exact (Kd.zR HR0_1.out HB.out) | (with_reducible refine Kd.zO ?_ _) | (with_reducible refine Kd.zP ?_ _) | (with_reducible refine Kd.zQ ?_))); (case side4 => exact HC0_1.out); rintro e w14 ⟨rfl, hb⟩; refine ⟨_, rfl, ?_⟩; replace BK502 := zA.mk (zK (by (with_reducible repeat (first | refine zC ?_ _ | refine zD ?_ | refine zB ?_ _)); exact BK502.out) hb); replace BK503 := zA.mk (zK (by (with_reducible repeat (first | refine zC ?_ _ | refine zD ?_ | refine zB ?_ _)); exact BK503.out) hb); replace HB := zA.mk (below_step (by repeat (first | (with_reducible first | exact HB.out | apply zJ | apply zF | apply zI | refine zE ?_ GE502.out | refine zE ?_ GE503.out) | exact HB.out)) hb); (try clear hb); (try clear hb2); (try clear hk); (try clear hi)))
    go_roundg k1
    case measure => have := HK1.out; omega
    case rel => exact ⟨(wrap64 (x8_1 + t505)), (rd l1 x16_1), (wrap64 (x16_1 + 1)), (by first | rfl | (simp; done) | (simp [*]; done)), (by first | rfl | (simp; done) | (simp [*]; done)), (by first | rfl | (simp; done) | (simp [*]; done)), H', ⟨by have := HK1.out; omega⟩, ⟨by (with_reducible repeat (first | refine zC ?_ _ | refine zD ?_ | refine zB ?_ _)); exact BK502.out⟩, ⟨by (with_reducible repeat (first | refine zC ?_ _ | refine zD ?_ | refine zB ?_ _)); exact BK503.out⟩, ⟨by repeat (first | (with_reducible first | exact HB.out | apply zJ | apply zF | apply zI | refine zE ?_ GE502.out | refine zE ?_ GE503.out) | exact HB.out)⟩⟩
mutual
def l5_sooner.l0 : Nat → List Int → List Int → Int → Option (Bool)
  | 0, _, _, _ => none
  | k + 1, x0, x1, x5 => if x5 < (x0.length : Int) then (l5_sooner.j1 k x0 x1 x5 (decide (x5 < (x1.length : Int)))) else (l5_sooner.j1 k x0 x1 x5 false)
def l5_sooner.j1 : Nat → List Int → List Int → Int → Bool → Option (Bool)
  | 0, _, _, _, _ => none
  | k + 1, x0, x1, x5, x15 => if x15 = true then (if 0 ≤ x5 then (if x5 < (x0.length : Int) then (if x5 < (x1.length : Int) then (if (rd x0 x5) = (rd x1 x5) then (l5_sooner.l0 k x0 x1 (wrap64 (x5 + 1))) else (some (decide ((rd x0 x5) < (rd x1 x5))))) else (none)) else (none)) else (none)) else (some (decide ((x0.length : Int) < (x1.length : Int))))
end
def l5_sooner.f (k : Nat) (l0 : List Int) (l1 : List Int) : Option (Bool) := l5_sooner.l0 k l0 l1 0
theorem l5_sooner.mono_l : ∀ k, (∀ y0 y1 y2, LeO (l5_sooner.l0 k y0 y1 y2) (l5_sooner.l0 (k + 1) y0 y1 y2)) ∧ (∀ y0 y1 y2 y3, LeO (l5_sooner.j1 k y0 y1 y2 y3) (l5_sooner.j1 (k + 1) y0 y1 y2 y3))
  | 0 => ⟨fun _ _ _ r h => by simp [l5_sooner.l0] at h, fun _ _ _ _ r h => by simp [l5_sooner.j1] at h⟩
  | k + 1 => by
    obtain ⟨ih0, ih1⟩ := l5_sooner.mono_l k; refine ⟨?_, ?_⟩
    · intro y0 y1 y2
      unfold l5_sooner.l0
      repeat' (with_reducible first | exact ih0 _ _ _ | exact ih1 _ _ _ _ | exact LeO.refl _ | exact LeO.none _ | refine LeO.ite ?_ ?_ | refine LeO.bind ?_ (fun _ => ?_))
    · intro y0 y1 y2 y3
      unfold l5_sooner.j1
      repeat' (with_reducible first | exact ih0 _ _ _ | exact ih1 _ _ _ _ | exact LeO.refl _ | exact LeO.none _ | refine LeO.ite ?_ ?_ | refine LeO.bind ?_ (fun _ => ?_))
theorem l5_sooner.mono : ∀ a0 a1 k, LeO (l5_sooner.f k a0 a1) (l5_sooner.f (k + 1) a0 a1) := by
  intro a0 a1 k
  obtain ⟨ih0, ih1⟩ := l5_sooner.mono_l k; unfold l5_sooner.f
  repeat' (with_reducible first | exact ih0 _ _ _ | exact ih1 _ _ _ _ | exact LeO.refl _ | exact LeO.none _ | refine LeO.ite ?_ ?_ | refine LeO.bind ?_ (fun _ => ?_))
set_option maxHeartbeats 8000000 in
set_option maxRecDepth 100000 in
theorem l5_sooner.calls (k : Nat) (A0 : Option Addr) (c0 : Nat) (l0 : List Int) (A1 : Option Addr) (c1 : Nat) (l1 : List Int) (r : Bool) (w : World) (hr0 : Kd.C (Kd.int .i64) w A0 l0.length l0) (hc0 : l0.length ≤ c0) (hr1 : Kd.C (Kd.int .i64) w A1 l1.length l1) (hc1 : l1.length ≤ c1) (h : l5_sooner.f k l0 l1 = some r) :
    Calls Try.prog 22 #[.slice A0 l0.length c0, .slice A1 l1.length c1] w fun e w' => e = .returned (.bool r) ∧ Drawn0 w w' := by
  have HR0 := zA.mk hr0; have HC0 := zA.mk hc0; clear hr0 hc0; have HR1 := zA.mk hr1; have HC1 := zA.mk hc1; clear hr1 hc1; have H : (l5_sooner.l0 k l0 l1 0) = some r := h
  clear h; have H' := zA.mk H
  clear H; go_enter Try.func22, Try.ntmps22
  go_wp2
  repeat (go_quiet (fail); try go_wp2)
  go_loopg [5] k (fun kq v5 w' => ∃ (x5_1 : Int), v5 = .int .i64 x5_1 ∧ zA (l5_sooner.l0 kq l0 l1 x5_1 = some r) ∧ zA (kq ≤ k) ∧ Drawn0 w w')
  case atStart => exact ⟨(0), (by first | rfl | (simp; done) | (simp [*]; done)), H', ⟨Nat.le_refl _⟩, by repeat (first | exact Drawn0.refl _ | apply Drawn0.step)⟩
  clear H'; obtain ⟨x5_1, rfl, HA, HK1, ⟨m1, rfl⟩⟩ := hrel; cases gk with
  | zero => exact absurd HA.out (by simp [l5_sooner.l0])
  | succ k1 =>
    have H := HA.out; clear HA; simp only [l5_sooner.l0] at H; have HC3 := zA.mk H; clear H; go_upto_region 2 with (fail)
    repeat (go_quiet (fail); go_upto_region 2 with (fail))
    go_cut [15] (fun v15 wc => ∃ (kq : Nat) (x15_2 : Bool), v15 = .bool x15_2 ∧ zA (l5_sooner.j1 kq l0 l1 x5_1 x15_2 = some r) ∧ zA (kq ≤ k1) ∧ Drawn0 w wc)
    case first =>
      have H := HC3.out; clear HC3; by_cases c4 : x5_1 < (l0.length : Int)
      · rw [if_pos c4] at H
        have c4b0 : decide (x5_1 < (l0.length : Int)) = true := decide_eq_true c4
        clear c4; (first | rw [c4b0] | (simp only [i64_w, i32_w]; rw [c4b0]) | skip)
        have H' := zA.mk H
        clear H; go_wp2
        repeat (go_quiet (fail); try go_wp2)
        go_meet
        case rel => exact ⟨_, (decide (x5_1 < (l1.length : Int))), (by first | rfl | (simp; done) | (simp [*]; done)), H', ⟨by have := HK1.out; first | omega | exact Nat.le_refl _⟩, by repeat (first | exact Drawn0.refl _ | apply Drawn0.step)⟩
      rw [if_neg c4] at H; have c4b0 : decide (x5_1 < (l0.length : Int)) = false := decide_eq_false c4
      clear c4; (first | rw [c4b0] | (simp only [i64_w, i32_w]; rw [c4b0]) | skip)
      have H' := zA.mk H
      clear H; go_wp2
      repeat (go_quiet (fail); try go_wp2)
      go_meet
      case rel => exact ⟨_, (false), (by first | rfl | (simp; done) | (simp [*]; done)), H', ⟨by have := HK1.out; first | omega | exact Nat.le_refl _⟩, by repeat (first | exact Drawn0.refl _ | apply Drawn0.step)⟩
    clear HC3; obtain ⟨kq, x15_2, rfl, HA, HJ2, ⟨mc2, rfl⟩⟩ := hcut; cases kq with
    | zero => exact absurd HA.out (by simp [l5_sooner.j1])
    | succ kj2 =>
      have H := HA.out; clear HA; simp only [l5_sooner.j1] at H; by_cases c5 : x15_2 = true
      rotate_left
      · replace c5 := Bool.eq_false_iff.mpr c5
        subst c5; have H1 : (some (decide ((l0.length : Int) < (l1.length : Int)))) = some r := by rw [if_neg (show ¬ (false = true) by decide)] at H; exact H
        clear H; have H := H1; clear H1; obtain rfl := Option.some.inj H
        go_wp2
        repeat (go_quiet (fail); try go_wp2)
        go_ret
        exact ⟨by first | rfl | (simp; done) | (simp [*]; done), by repeat (first | exact Drawn0.refl _ | apply Drawn0.step)⟩
      subst c5; have H1 : (if 0 ≤ x5_1 then (if x5_1 < (l0.length : Int) then (if x5_1 < (l1.length : Int) then (if (rd l0 x5_1) = (rd l1 x5_1) then (l5_sooner.l0 kj2 l0 l1 (wrap64 (x5_1 + 1))) else (some (decide ((rd l0 x5_1) < (rd l1 x5_1))))) else (none)) else (none)) else (none)) = some r := by rw [if_pos rfl] at H; exact H
      clear H; have H := H1; clear H1; by_cases c6 : 0 ≤ x5_1
      rotate_left
      · rw [if_neg c6] at H
        exact absurd H (by simp)
      rw [if_pos c6] at H; have c6b0 : decide (0 ≤ x5_1) = true := decide_eq_true c6
      clear c6; by_cases c7 : x5_1 < (l0.length : Int)
      rotate_left
      · rw [if_neg c7] at H
        exact absurd H (by simp)
      rw [if_pos c7] at H; have c7b0 : decide (x5_1 < (l0.length : Int)) = true := decide_eq_true c7
      clear c7; by_cases c8 : x5_1 < (l1.length : Int)
      rotate_left
      · rw [if_neg c8] at H
        exact absurd H (by simp)
      rw [if_pos c8] at H; have c8b0 : decide (x5_1 < (l1.length : Int)) = true := decide_eq_true c8
      clear c8; by_cases c9 : (rd l0 x5_1) = (rd l1 x5_1)
      · rw [if_pos c9] at H
        have c9b0 : ((rd l0 x5_1) == (rd l1 x5_1)) = true := beq_iff_eq.mpr c9
        have c9b1 : ((rd l0 x5_1) != (rd l1 x5_1)) = false := bne_eq_false_iff_eq.mpr c9
        clear c9; have H' := zA.mk H
        clear H; have p507 : 0 ≤ (x5_1 : Int) := of_decide_eq_true (by first | (with_reducible assumption) | assumption)
        have q507 : x5_1 < (l0.length : Int) := of_decide_eq_true (by first | (with_reducible assumption) | assumption)
        obtain ⟨ad507, e507, hx507_0⟩ := Kd.at_int HR0.out x5_1 p507 q507; cases e507
        replace p507 := eq_true p507; replace q507 := eq_true q507; have p508 : 0 ≤ (x5_1 : Int) := of_decide_eq_true (by first | (with_reducible assumption) | assumption)
        have q508 : x5_1 < (l1.length : Int) := of_decide_eq_true (by first | (with_reducible assumption) | assumption)
        obtain ⟨ad508, e508, hx508_0⟩ := Kd.at_int HR1.out x5_1 p508 q508; cases e508
        replace p508 := eq_true p508; replace q508 := eq_true q508; go_wp2
        repeat (go_quiet (fail); try go_wp2)
        go_roundg kj2
        case measure => have := HK1.out; have := HJ2.out; omega
        case rel => exact ⟨(wrap64 (x5_1 + 1)), (by first | rfl | (simp; done) | (simp [*]; done)), H', ⟨by have := HK1.out; have := HJ2.out; omega⟩, by repeat (first | exact Drawn0.refl _ | apply Drawn0.step)⟩
      rw [if_neg c9] at H; have c9b0 : ((rd l0 x5_1) == (rd l1 x5_1)) = false := beq_eq_false_iff_ne.mpr c9
      have c9b1 : ((rd l0 x5_1) != (rd l1 x5_1)) = true := bne_iff_ne.mpr c9
      obtain rfl := Option.some.inj H
      have p507 : 0 ≤ (x5_1 : Int) := of_decide_eq_true (by first | (with_reducible assumption) | assumption)
      have q507 : x5_1 < (l0.length : Int) := of_decide_eq_true (by first | (with_reducible assumption) | assumption)
      obtain ⟨ad507, e507, hx507_0⟩ := Kd.at_int HR0.out x5_1 p507 q507; cases e507
      replace p507 := eq_true p507; replace q507 := eq_true q507; have p508 : 0 ≤ (x5_1 : Int) := of_decide_eq_true (by first | (with_reducible assumption) | assumption)
      have q508 : x5_1 < (l1.length : Int) := of_decide_eq_true (by first | (with_reducible assumption) | assumption)
      obtain ⟨ad508, e508, hx508_0⟩ := Kd.at_int HR1.out x5_1 p508 q508; cases e508
      replace p508 := eq_true p508; replace q508 := eq_true q508; have p509 : 0 ≤ (x5_1 : Int) := of_decide_eq_true (by first | (with_reducible assumption) | assumption)
      have q509 : x5_1 < (l0.length : Int) := of_decide_eq_true (by first | (with_reducible assumption) | assumption)
      obtain ⟨ad509, e509, hx509_0⟩ := Kd.at_int HR0.out x5_1 p509 q509; obtain rfl : ad507 = ad509 := (by injection e509)
      replace p509 := eq_true p509; replace q509 := eq_true q509; have p510 : 0 ≤ (x5_1 : Int) := of_decide_eq_true (by first | (with_reducible assumption) | assumption)
      have q510 : x5_1 < (l1.length : Int) := of_decide_eq_true (by first | (with_reducible assumption) | assumption)
      obtain ⟨ad510, e510, hx510_0⟩ := Kd.at_int HR1.out x5_1 p510 q510; obtain rfl : ad508 = ad510 := (by injection e510)
      replace p510 := eq_true p510; replace q510 := eq_true q510; go_wp2
      repeat (go_quiet (fail); try go_wp2)
      go_ret
      exact ⟨by first | rfl | (simp; done) | (simp [*]; done), by repeat (first | exact Drawn0.refl _ | apply Drawn0.step)⟩
mutual
def l5_BestLeast.l0 : Nat → List (S45) → Int → Int → Int → Int → Int → Int → Int → Nat → Option (Bool)
  | 0, _, _, _, _, _, _, _, _, _ => none
  | k + 1, x0, x31, x32, x512000, x512001, x512002, x512003, x512004, x512005 => if x32 < x31 then (if 0 ≤ x32 then (if x32 < (x0.length : Int) then (if (Int.tmod ((rd_T45 x0 x32).f3) 4) = 2 then (some true) else (l5_BestLeast.l0 k x0 x31 (wrap64 (x32 + 1)) x512000 x512001 x512002 x512003 x512004 x512005)) else (none)) else (none)) else ((h3_Para.f k x0).bind fun bt518 => ((h3_Config.f x512000 x512001 x512002 x512003 x512004 x512005).bind fun bt524 => (if (bt518.1.length : Int) = 0 then (some true) else ((best_Break.f k bt518.1 bt518.2 0 (bt518.1.length : Int) bt524.1 bt524.2.1 bt524.2.2.1 bt524.2.2.2.1 bt524.2.2.2.2.1 bt524.2.2.2.2.2).bind fun bt532 => (l5_BestLeast.l1 k (bt518.1.length : Int) bt532.2 ([] : List Int) bt532.1 (bt532.1.length : Int) 0 bt518.1 bt518.2 bt524.1 bt524.2.1 bt524.2.2.1 bt524.2.2.2.1 bt524.2.2.2.2.1 bt524.2.2.2.2.2)))))
def l5_BestLeast.l1 : Nat → Int → Bool → List Int → List (S48) → Int → Int → List (S62) → List Int → Int → Int → Int → Int → Int → Nat → Option (Bool)
  | 0, _, _, _, _, _, _, _, _, _, _, _, _, _, _ => none
  | k + 1, x8, x10, x11, x59, x60, x61, x531000, x531001, x532000, x532001, x532002, x532003, x532004, x532005 => if x61 < x60 then (if 0 ≤ x61 then (if x61 < (x59.length : Int) then (if x11.length < 17592186044416 then (l5_BestLeast.l1 k x8 x10 (x11 ++ [(rd_T48 x59 x61).f1]) x59 x60 (wrap64 (x61 + 1)) x531000 x531001 x532000 x532001 x532002 x532003 x532004 x532005) else (none)) else (none)) else (none)) else (l5_BestLeast.l2 k x8 x10 x11 0 false ([] : List Int) 0 x531000 x531001 x532000 x532001 x532002 x532003 x532004 x532005)
def l5_BestLeast.l2 : Nat → Int → Bool → List Int → Int → Bool → List Int → Int → List (S62) → List Int → Int → Int → Int → Int → Int → Nat → Option (Bool)
  | 0, _, _, _, _, _, _, _, _, _, _, _, _, _, _, _ => none
  | k + 1, x8, x10, x11, x14, x15, x16, x17, x531000, x531001, x532000, x532001, x532002, x532003, x532004, x532005 => if 0 ≤ (wrap64 (x8 - 1)) then (if x17 < (shl .i64 1 (wrap64 (x8 - 1))) then (l5_BestLeast.l3 k x8 x10 x11 x14 x15 x16 x17 ([] : List Int) 1 x531000 x531001 x532000 x532001 x532002 x532003 x532004 x532005) else (if (x10 != x15) = true then (l5_BestLeast.j4 k x11 x16 true) else (l5_BestLeast.j4 k x11 x16 ((x11.length : Int) != (x16.length : Int))))) else (none)
def l5_BestLeast.l3 : Nat → Int → Bool → List Int → Int → Bool → List Int → Int → List Int → Int → List (S62) → List Int → Int → Int → Int → Int → Int → Nat → Option (Bool)
  | 0, _, _, _, _, _, _, _, _, _, _, _, _, _, _, _, _, _ => none
  | k + 1, x8, x10, x11, x14, x15, x16, x17, x18, x19, x531000, x531001, x532000, x532001, x532002, x532003, x532004, x532005 => if x19 < x8 then (if 0 ≤ (wrap64 (x19 - 1)) then (if (Go.bits .and .i64 (shr .i64 x17 (wrap64 (x19 - 1))) 1) = 1 then (if x18.length < 17592186044416 then (l5_BestLeast.l3 k x8 x10 x11 x14 x15 x16 x17 (x18 ++ [x19]) (wrap64 (x19 + 1)) x531000 x531001 x532000 x532001 x532002 x532003 x532004 x532005) else (none)) else (l5_BestLeast.l3 k x8 x10 x11 x14 x15 x16 x17 x18 (wrap64 (x19 + 1)) x531000 x531001 x532000 x532001 x532002 x532003 x532004 x532005)) else (none)) else (if x18.length < 17592186044416 then ((some (x18 ++ [x8] : List Int)).bind fun y544 => ((l5_all.f k x531000 x531001 y544 x532000 x532001 x532002 x532003 x532004 x532005).bind fun bt547 => (if bt547.2 = true then (if x15 = true then (if bt547.1 < x14 then (l5_BestLeast.l2 k x8 x10 x11 bt547.1 true y544 (wrap64 (x17 + 1)) x531000 x531001 x532000 x532001 x532002 x532003 x532004 x532005) else (if bt547.1 = x14 then ((l5_sooner.f k y544 x16).bind fun t549 => (if t549 = true then (l5_BestLeast.l2 k x8 x10 x11 bt547.1 true y544 (wrap64 (x17 + 1)) x531000 x531001 x532000 x532001 x532002 x532003 x532004 x532005) else (l5_BestLeast.l2 k x8 x10 x11 x14 x15 x16 (wrap64 (x17 + 1)) x531000 x531001 x532000 x532001 x532002 x532003 x532004 x532005))) else (l5_BestLeast.l2 k x8 x10 x11 x14 x15 x16 (wrap64 (x17 + 1)) x531000 x531001 x532000 x532001 x532002 x532003 x532004 x532005))) else (l5_BestLeast.l2 k x8 x10 x11 bt547.1 true y544 (wrap64 (x17 + 1)) x531000 x531001 x532000 x532001 x532002 x532003 x532004 x532005)) else (l5_BestLeast.l2 k x8 x10 x11 x14 x15 x16 (wrap64 (x17 + 1)) x531000 x531001 x532000 x532001 x532002 x532003 x532004 x532005)))) else (none))
def l5_BestLeast.j4 : Nat → List Int → List Int → Bool → Option (Bool)
  | 0, _, _, _ => none
  | k + 1, x11, x16, x135 => if x135 = true then (some false) else (l5_BestLeast.l4 k x11 x16 (x11.length : Int) 0)
def l5_BestLeast.l4 : Nat → List Int → List Int → Int → Int → Option (Bool)
  | 0, _, _, _, _ => none
  | k + 1, x11, x16, x137, x138 => if x138 < x137 then (if 0 ≤ x138 then (if x138 < (x11.length : Int) then (if x138 < (x16.length : Int) then (if (rd x11 x138) = (rd x16 x138) then (l5_BestLeast.l4 k x11 x16 x137 (wrap64 (x138 + 1))) else (some false)) else (none)) else (none)) else (none)) else (some true)
end
def l5_BestLeast.f (k : Nat) (l0 : List (S45)) (a1_0 : Int) (a1_1 : Int) (a1_2 : Int) (a1_3 : Int) (a1_4 : Int) (a1_5 : Nat) : Option (Bool) := (l5_Awake.f k).bind fun t512 => (if t512 = true then (if 0 ≤ (mn (l0.length : Int) 10) then (if (mn (l0.length : Int) 10) ≤ (l0.length : Int) then ((some (l0.take ((mn (l0.length : Int) 10) : Int).toNat : List (S45))).bind fun y513 => (l5_BestLeast.l0 k y513 (y513.length : Int) 0 a1_0 a1_1 a1_2 a1_3 a1_4 a1_5)) else (none)) else (none)) else (some false))
theorem l5_BestLeast.mono_l : ∀ k, (∀ y0 y1 y2 y3 y4 y5 y6 y7 y8, LeO (l5_BestLeast.l0 k y0 y1 y2 y3 y4 y5 y6 y7 y8) (l5_BestLeast.l0 (k + 1) y0 y1 y2 y3 y4 y5 y6 y7 y8)) ∧ (∀ y0 y1 y2 y3 y4 y5 y6 y7 y8 y9 y10 y11 y12 y13, LeO (l5_BestLeast.l1 k y0 y1 y2 y3 y4 y5 y6 y7 y8 y9 y10 y11 y12 y13) (l5_BestLeast.l1 (k + 1) y0 y1 y2 y3 y4 y5 y6 y7 y8 y9 y10 y11 y12 y13)) ∧ (∀ y0 y1 y2 y3 y4 y5 y6 y7 y8 y9 y10 y11 y12 y13 y14, LeO (l5_BestLeast.l2 k y0 y1 y2 y3 y4 y5 y6 y7 y8 y9 y10 y11 y12 y13 y14) (l5_BestLeast.l2 (k + 1) y0 y1 y2 y3 y4 y5 y6 y7 y8 y9 y10 y11 y12 y13 y14)) ∧ (∀ y0 y1 y2 y3 y4 y5 y6 y7 y8 y9 y10 y11 y12 y13 y14 y15 y16, LeO (l5_BestLeast.l3 k y0 y1 y2 y3 y4 y5 y6 y7 y8 y9 y10 y11 y12 y13 y14 y15 y16) (l5_BestLeast.l3 (k + 1) y0 y1 y2 y3 y4 y5 y6 y7 y8 y9 y10 y11 y12 y13 y14 y15 y16)) ∧ (∀ y0 y1 y2, LeO (l5_BestLeast.j4 k y0 y1 y2) (l5_BestLeast.j4 (k + 1) y0 y1 y2)) ∧ (∀ y0 y1 y2 y3, LeO (l5_BestLeast.l4 k y0 y1 y2 y3) (l5_BestLeast.l4 (k + 1) y0 y1 y2 y3))
  | 0 => ⟨fun _ _ _ _ _ _ _ _ _ r h => by simp [l5_BestLeast.l0] at h, fun _ _ _ _ _ _ _ _ _ _ _ _ _ _ r h => by simp [l5_BestLeast.l1] at h, fun _ _ _ _ _ _ _ _ _ _ _ _ _ _ _ r h => by simp [l5_BestLeast.l2] at h, fun _ _ _ _ _ _ _ _ _ _ _ _ _ _ _ _ _ r h => by simp [l5_BestLeast.l3] at h, fun _ _ _ r h => by simp [l5_BestLeast.j4] at h, fun _ _ _ _ r h => by simp [l5_BestLeast.l4] at h⟩
  | k + 1 => by
    obtain ⟨ih0, ih1, ih2, ih3, ih4, ih5⟩ := l5_BestLeast.mono_l k; refine ⟨?_, ?_, ?_, ?_, ?_, ?_⟩
    · intro y0 y1 y2 y3 y4 y5 y6 y7 y8
      unfold l5_BestLeast.l0
      repeat' (with_reducible first | exact ih0 _ _ _ _ _ _ _ _ _ | exact ih1 _ _ _ _ _ _ _ _ _ _ _ _ _ _ | exact ih2 _ _ _ _ _ _ _ _ _ _ _ _ _ _ _ | exact ih3 _ _ _ _ _ _ _ _ _ _ _ _ _ _ _ _ _ | exact ih4 _ _ _ | exact ih5 _ _ _ _ | exact best_Break.mono _ _ _ _ _ _ _ _ _ _ _ | exact h3_Para.mono _ _ | exact l5_Awake.mono _ | exact l5_all.mono _ _ _ _ _ _ _ _ _ _ | exact l5_sooner.mono _ _ _ | exact LeO.refl _ | exact LeO.none _ | refine LeO.ite ?_ ?_ | refine LeO.bind ?_ (fun _ => ?_))
    · intro y0 y1 y2 y3 y4 y5 y6 y7 y8 y9 y10 y11 y12 y13
      unfold l5_BestLeast.l1
      repeat' (with_reducible first | exact ih0 _ _ _ _ _ _ _ _ _ | exact ih1 _ _ _ _ _ _ _ _ _ _ _ _ _ _ | exact ih2 _ _ _ _ _ _ _ _ _ _ _ _ _ _ _ | exact ih3 _ _ _ _ _ _ _ _ _ _ _ _ _ _ _ _ _ | exact ih4 _ _ _ | exact ih5 _ _ _ _ | exact best_Break.mono _ _ _ _ _ _ _ _ _ _ _ | exact h3_Para.mono _ _ | exact l5_Awake.mono _ | exact l5_all.mono _ _ _ _ _ _ _ _ _ _ | exact l5_sooner.mono _ _ _ | exact LeO.refl _ | exact LeO.none _ | refine LeO.ite ?_ ?_ | refine LeO.bind ?_ (fun _ => ?_))
    · intro y0 y1 y2 y3 y4 y5 y6 y7 y8 y9 y10 y11 y12 y13 y14
      unfold l5_BestLeast.l2
      repeat' (with_reducible first | exact ih0 _ _ _ _ _ _ _ _ _ | exact ih1 _ _ _ _ _ _ _ _ _ _ _ _ _ _ | exact ih2 _ _ _ _ _ _ _ _ _ _ _ _ _ _ _ | exact ih3 _ _ _ _ _ _ _ _ _ _ _ _ _ _ _ _ _ | exact ih4 _ _ _ | exact ih5 _ _ _ _ | exact best_Break.mono _ _ _ _ _ _ _ _ _ _ _ | exact h3_Para.mono _ _ | exact l5_Awake.mono _ | exact l5_all.mono _ _ _ _ _ _ _ _ _ _ | exact l5_sooner.mono _ _ _ | exact LeO.refl _ | exact LeO.none _ | refine LeO.ite ?_ ?_ | refine LeO.bind ?_ (fun _ => ?_))
    · intro y0 y1 y2 y3 y4 y5 y6 y7 y8 y9 y10 y11 y12 y13 y14 y15 y16
      unfold l5_BestLeast.l3
      repeat' (with_reducible first | exact ih0 _ _ _ _ _ _ _ _ _ | exact ih1 _ _ _ _ _ _ _ _ _ _ _ _ _ _ | exact ih2 _ _ _ _ _ _ _ _ _ _ _ _ _ _ _ | exact ih3 _ _ _ _ _ _ _ _ _ _ _ _ _ _ _ _ _ | exact ih4 _ _ _ | exact ih5 _ _ _ _ | exact best_Break.mono _ _ _ _ _ _ _ _ _ _ _ | exact h3_Para.mono _ _ | exact l5_Awake.mono _ | exact l5_all.mono _ _ _ _ _ _ _ _ _ _ | exact l5_sooner.mono _ _ _ | exact LeO.refl _ | exact LeO.none _ | refine LeO.ite ?_ ?_ | refine LeO.bind ?_ (fun _ => ?_))
    · intro y0 y1 y2
      unfold l5_BestLeast.j4
      repeat' (with_reducible first | exact ih0 _ _ _ _ _ _ _ _ _ | exact ih1 _ _ _ _ _ _ _ _ _ _ _ _ _ _ | exact ih2 _ _ _ _ _ _ _ _ _ _ _ _ _ _ _ | exact ih3 _ _ _ _ _ _ _ _ _ _ _ _ _ _ _ _ _ | exact ih4 _ _ _ | exact ih5 _ _ _ _ | exact best_Break.mono _ _ _ _ _ _ _ _ _ _ _ | exact h3_Para.mono _ _ | exact l5_Awake.mono _ | exact l5_all.mono _ _ _ _ _ _ _ _ _ _ | exact l5_sooner.mono _ _ _ | exact LeO.refl _ | exact LeO.none _ | refine LeO.ite ?_ ?_ | refine LeO.bind ?_ (fun _ => ?_))
    · intro y0 y1 y2 y3
      unfold l5_BestLeast.l4
      repeat' (with_reducible first | exact ih0 _ _ _ _ _ _ _ _ _ | exact ih1 _ _ _ _ _ _ _ _ _ _ _ _ _ _ | exact ih2 _ _ _ _ _ _ _ _ _ _ _ _ _ _ _ | exact ih3 _ _ _ _ _ _ _ _ _ _ _ _ _ _ _ _ _ | exact ih4 _ _ _ | exact ih5 _ _ _ _ | exact best_Break.mono _ _ _ _ _ _ _ _ _ _ _ | exact h3_Para.mono _ _ | exact l5_Awake.mono _ | exact l5_all.mono _ _ _ _ _ _ _ _ _ _ | exact l5_sooner.mono _ _ _ | exact LeO.refl _ | exact LeO.none _ | refine LeO.ite ?_ ?_ | refine LeO.bind ?_ (fun _ => ?_))
theorem l5_BestLeast.mono : ∀ a0 a1 a2 a3 a4 a5 a6 k, LeO (l5_BestLeast.f k a0 a1 a2 a3 a4 a5 a6) (l5_BestLeast.f (k + 1) a0 a1 a2 a3 a4 a5 a6) := by
  intro a0 a1 a2 a3 a4 a5 a6 k
  obtain ⟨ih0, ih1, ih2, ih3, ih4, ih5⟩ := l5_BestLeast.mono_l k; unfold l5_BestLeast.f
  repeat' (with_reducible first | exact ih0 _ _ _ _ _ _ _ _ _ | exact ih1 _ _ _ _ _ _ _ _ _ _ _ _ _ _ | exact ih2 _ _ _ _ _ _ _ _ _ _ _ _ _ _ _ | exact ih3 _ _ _ _ _ _ _ _ _ _ _ _ _ _ _ _ _ | exact ih4 _ _ _ | exact ih5 _ _ _ _ | exact best_Break.mono _ _ _ _ _ _ _ _ _ _ _ | exact h3_Para.mono _ _ | exact l5_Awake.mono _ | exact l5_all.mono _ _ _ _ _ _ _ _ _ _ | exact l5_sooner.mono _ _ _ | exact LeO.refl _ | exact LeO.none _ | refine LeO.ite ?_ ?_ | refine LeO.bind ?_ (fun _ => ?_))
def l5_BestLeast.T10 : Bool × List (List Nat × List Nat) := (true, [([], []), ([0], [0]), ([], []), ([2, 1], [2]), ([], []), ([], []), ([4, 1, 3, 0, 1, 4, 5], [1, 4]), ([5, 3, 6, 0, 1, 2, 3, 4, 5, 6], [3, 5])])
def l5_BestLeast.B10 : List Nat := [0, 1, 0, 7, 0, 0, 63, 127]
theorem l5_BestLeast.tab10 : rtab .any (opsOf Try.f8 10) = l5_BestLeast.T10 := by kernel_rfl
theorem l5_BestLeast.bits10 : waitsOk l5_BestLeast.T10.2 l5_BestLeast.B10 = true := by kernel_rfl
def l5_BestLeast.T41 : Bool × List (List Nat × List Nat) := (true, [([], []), ([], []), ([0, 1], [0, 1]), ([2], [2]), ([], []), ([], []), ([4, 5], [4, 5]), ([6], [6]), ([3, 7], [3, 7])])
def l5_BestLeast.B41 : List Nat := [0, 0, 3, 7, 0, 0, 48, 112, 255]
theorem l5_BestLeast.tab41 : rtab .any (opsOf Try.f8 41) = l5_BestLeast.T41 := by kernel_rfl
theorem l5_BestLeast.bits41 : waitsOk l5_BestLeast.T41.2 l5_BestLeast.B41 = true := by kernel_rfl
set_option maxHeartbeats 8000000 in
set_option maxRecDepth 100000 in
theorem l5_BestLeast.calls (k : Nat) (A0 : Option Addr) (c0 : Nat) (l0 : List (S45)) (a1_0 : Int) (a1_1 : Int) (a1_2 : Int) (a1_3 : Int) (a1_4 : Int) (a1_5 : Nat) (r : Bool) (w : World) (hr0 : Kd.C k45 w A0 l0.length l0) (hc0 : l0.length ≤ c0) (h : l5_BestLeast.f k l0 a1_0 a1_1 a1_2 a1_3 a1_4 a1_5 = some r) (hrt_ : zA (r = true)) :
    Calls Try.prog 8 #[.slice A0 l0.length c0, .agg #[.int .u8 a1_0, .int .u8 a1_1, .int .u8 a1_2, .int .u16 a1_3, .int .u16 a1_4, .float .f64 a1_5]] w fun e w' => e = .returned (.bool r) ∧ Below w.heap.size w w' := by
  have hu26 := Try.underlying26; have hu31 := Try.underlying31; have hu35 := Try.underlying35; have hu48 := Try.underlying48; have HR0 := zA.mk hr0; have HC0 := zA.mk hc0; clear hr0 hc0; have HB := zA.mk (Below.refl w.heap.size w); have H : ((l5_Awake.f k).bind fun t512 => (if t512 = true then (if 0 ≤ (mn (l0.length : Int) 10) then (if (mn (l0.length : Int) 10) ≤ (l0.length : Int) then ((some (l0.take ((mn (l0.length : Int) 10) : Int).toNat : List (S45))).bind fun y513 => (l5_BestLeast.l0 k y513 (y513.length : Int) 0 a1_0 a1_1 a1_2 a1_3 a1_4 a1_5)) else (none)) else (none)) else (some false))) = some r := h
  clear h; replace H := Option.bind_eq_some_iff.mp H; obtain ⟨t512, A30, H⟩ := H; replace H : (if t512 = true then (if 0 ≤ (mn (l0.length : Int) 10) then (if (mn (l0.length : Int) 10) ≤ (l0.length : Int) then ((some (l0.take ((mn (l0.length : Int) 10) : Int).toNat : List (S45))).bind fun y513 => (l5_BestLeast.l0 k y513 (y513.length : Int) 0 a1_0 a1_1 a1_2 a1_3 a1_4 a1_5)) else (none)) else (none)) else (some false)) = some r := H
  have A3 := zA.mk A30; clear A30; by_cases c4 : t512 = true
  rotate_left
  · replace c4 := Bool.eq_false_iff.mpr c4
    subst c4; have H1 : (some false) = some r := by rw [if_neg (show ¬ (false = true) by decide)] at H; exact H
    clear H; have H := H1; clear H1; exact absurd ((Option.some.inj H).trans hrt_.out) (by decide)
  subst c4; have H1 : (if 0 ≤ (mn (l0.length : Int) 10) then (if (mn (l0.length : Int) 10) ≤ (l0.length : Int) then ((some (l0.take ((mn (l0.length : Int) 10) : Int).toNat : List (S45))).bind fun y513 => (l5_BestLeast.l0 k y513 (y513.length : Int) 0 a1_0 a1_1 a1_2 a1_3 a1_4 a1_5)) else (none)) else (none)) = some r := by rw [if_pos rfl] at H; exact H
  clear H; have H := H1; clear H1; obtain ⟨ji5, hji5⟩ : ∃ j_ : Int, (mn (l0.length : Int) 10) = j_ := ⟨_, rfl⟩; replace H : (if 0 ≤ (ji5) then (if (ji5) ≤ (l0.length : Int) then ((some (l0.take ((ji5) : Int).toNat : List (S45))).bind fun y513 => (l5_BestLeast.l0 k y513 (y513.length : Int) 0 a1_0 a1_1 a1_2 a1_3 a1_4 a1_5)) else (none)) else (none)) = some r := by first | (rw [hji5] at H; exact H) | (simp only [hji5] at H ⊢; exact H)
  (try rw [hji5] at A3)
  (try (have hji5h : ji5 ≤ 10 := by (rw [← hji5]; unfold mn; (repeat' split) <;> omega)))
  (try (have hji5g : ji5 ≤ 64 := by omega))
  (try (have hji5l : 0 ≤ ji5 := by (rw [← hji5]; unfold mn; (repeat' split) <;> omega)))
  (try (have hji5m : 0 ≤ ji5 := by omega))
  have hji5_ : (if 10 < (l0.length : Int) then 10 else (l0.length : Int)) = ji5 := hji5
  by_cases c6 : 0 ≤ (ji5)
  rotate_left
  · rw [if_neg c6] at H
    exact absurd H (by simp)
  rw [if_pos c6] at H; have c6b0 := eq_true c6; have c6b1 : decide (0 ≤ (ji5)) = true := decide_eq_true c6
  clear c6; by_cases c7 : (ji5) ≤ (l0.length : Int)
  rotate_left
  · rw [if_neg c7] at H
    exact absurd H (by simp)
  rw [if_pos c7] at H; have c7b0 := eq_true c7; have c7b1 : decide ((ji5) ≤ (l0.length : Int)) = true := decide_eq_true c7
  clear c7; obtain ⟨y513, hy513⟩ : ∃ y_ : List (S45), y_ = (l0.take ((ji5) : Int).toNat) := ⟨_, rfl⟩; replace H : (l5_BestLeast.l0 k y513 (y513.length : Int) 0 a1_0 a1_1 a1_2 a1_3 a1_4 a1_5) = some r := by first | (rw [hy513]; with_reducible exact H) | (have H2_ := (Option.bind_some _ _).symm.trans H; rw [hy513]; with_reducible exact H2_) | (have H2_ := (Option.bind_some _ _).symm.trans H; with_reducible exact H2_) | with_reducible exact H | (rw [hy513]; exact H) | exact H
  have Ny513 := zA.mk hy513; clear hy513; have H' := zA.mk H
  clear H; go_enter Try.func8, Try.ntmps8
  go_wp2_with (first | ((with_reducible refine gate_dst (N := 3) rfl ?_); (try (refine gate_guard (by rfl) ?_; dsimp only)); refine box_event ?hg (N := 3) ?hd (cs := #[.int .u8 a1_0, .int .u8 a1_1, .int .u8 a1_2, .int .u16 a1_3, .int .u16 a1_4, .float .f64 a1_5]) (t := 26) ?hr ?_; (case hd => rfl); (case hg => rfl); (case hr => first | (go_simp; done) | (go_simp; rfl)); intro gb511 hg w8 hbox hb; have n0_ := zA.mk (below_step (by repeat (first | (with_reducible first | exact HB.out | apply zJ | apply zF | apply zI) | exact HB.out)) hb); have n1_ := zA.mk (hbox); have n2_ := zA.mk ((by rw [hg]; exact (below_size (by repeat (first | (with_reducible first | exact HB.out | apply zJ | apply zF | apply zI) | exact HB.out))) : w.heap.size ≤ gb511)); have n3_ := zA.mk ((by rw [hg]; exact (below_size (by repeat (first | (with_reducible first | exact HB.out | apply zJ | apply zF | apply zI) | exact HB.out))) : w.heap.size ≤ gb511)); clear HB; have HB := n0_; have BK511 := n1_; have GW511 := n2_; have GE511 := n3_; clear n0_ n1_ n2_ n3_; clear hb hbox hg) | ((with_reducible refine gate_callee (f := 10) rfl ?_); refine goesL_ (some 23) rfl rfl Try.func10 (by kernel_rfl) rfl #[] rfl (by (try simp only [List.map_toArray, List.map_cons, List.map_nil]); first | done | rfl | (simp only [List.length_drop, List.length_take]; rfl)) ?_; (with_reducible refine (l5_Awake.calls k  true _ A3.out (by first | exact ⟨rfl⟩ | exact hrt_)).mono ?_); rintro e w9 ⟨rfl, hb⟩; refine ⟨_, rfl, ?_⟩; have n0_ := zA.mk (zK (g := gb511) (o := .cells #[.int .u8 a1_0, .int .u8 a1_1, .int .u8 a1_2, .int .u16 a1_3, .int .u16 a1_4, .float .f64 a1_5] 26 (0, 0)) (by (with_reducible repeat (first | refine zC ?_ _ | refine zD ?_ | refine zB ?_ _)); exact BK511.out) hb); have n1_ := zA.mk (below_step (by repeat (first | (with_reducible first | exact HB.out | apply zJ | apply zF | apply zI | refine zE ?_ GE511.out) | exact HB.out)) hb); clear BK511; clear HB; have BK511 := n0_; have HB := n1_; clear n0_ n1_; (try clear hb); (try clear hb2); (try clear hk); (try clear hi); have q10 : ((ji5) : Int) ≤ ((l0.length : Int) : Int) := of_decide_eq_true (by first | (with_reducible assumption) | assumption); obtain ⟨i010, hi010, _, hsz10, _⟩ := info_parts info45; have hroom10 : l0.length ≤ c0 := HC0.out; have hC10 : Kd.C k45 _ A0 l0.length l0 := HR0.out; have hcut10 := cut_to (P := Try.prog) 22 45 .i64 Try.underlying22 hi010 A0 l0.length c0 (ji5) (of_decide_eq_true (by first | (with_reducible assumption) | assumption)) q10 hroom10; have hr10 := Kd.C_take (m := ((ji5) : Int).toNat) hC10 (by omega); have hy10 : y513.length = ((ji5) : Int).toNat := (by rw [Ny513.out, List.length_take]; omega); rw [← Ny513.out] at hr10; rw [← hy10] at hcut10; have HR516 := zA.mk hr10; have HC516 := zA.mk (show y513.length ≤ c0 from by omega); clear hr10 hC10 hroom10 hi010 hsz10; have KY10 := zA.mk hy10; clear hy10; replace q10 := eq_true q10))
  go_loopg [32] k (fun kq v32 w' => ∃ (x32_1 : Int), v32 = .int .i64 x32_1 ∧ zA (l5_BestLeast.l0 kq y513 (y513.length : Int) x32_1 a1_0 a1_1 a1_2 a1_3 a1_4 a1_5 = some r) ∧ zA (kq ≤ k) ∧ zA (w'.heap[gb511]? = some (.cells #[.int .u8 a1_0, .int .u8 a1_1, .int .u8 a1_2, .int .u16 a1_3, .int .u16 a1_4, .float .f64 a1_5] 26 (0, 0))) ∧ zA (Below w.heap.size w w'))
  case atStart => exact ⟨(0), (by first | rfl | (simp; done) | (simp [*]; done)), H', ⟨Nat.le_refl _⟩, ⟨by (with_reducible repeat (first | refine zC ?_ _ | refine zD ?_ | refine zB ?_ _)); exact BK511.out⟩, ⟨by repeat (first | (with_reducible first | exact HB.out | apply zJ | apply zF | apply zI | refine zE ?_ GE511.out) | exact HB.out)⟩⟩
  clear H'; try clear c1
  try clear q1
  try clear p2
  try clear c4
  try clear c6
  try clear c6b0
  try clear c6b1
  try clear c7
  try clear c7b0
  try clear c7b1
  try clear c8
  try clear c10
  try clear q10
  try clear q10
  obtain ⟨x32_1, rfl, HA, HK1, BK511, HB⟩ := hrel; cases gk with
  | zero => exact absurd HA.out (by simp [l5_BestLeast.l0])
  | succ k1 =>
    have H := HA.out; clear HA; simp only [l5_BestLeast.l0] at H; by_cases c11 : x32_1 < (y513.length : Int)
    · rw [if_pos c11] at H
      have c11b0 : decide (x32_1 < (y513.length : Int)) = true := decide_eq_true c11
      clear c11; by_cases c12 : 0 ≤ x32_1
      rotate_left
      · rw [if_neg c12] at H
        exact absurd H (by simp)
      rw [if_pos c12] at H; have c12b0 : decide (0 ≤ x32_1) = true := decide_eq_true c12
      clear c12; by_cases c13 : x32_1 < (y513.length : Int)
      rotate_left
      · rw [if_neg c13] at H
        exact absurd H (by simp)
      rw [if_pos c13] at H; have c13b0 : decide (x32_1 < (y513.length : Int)) = true := decide_eq_true c13
      clear c13; by_cases c14 : (Int.tmod ((rd_T45 y513 x32_1).f3) 4) = 2
      · rw [if_pos c14] at H
        have c14b0 : ((Int.tmod ((rd_T45 y513 x32_1).f3) 4) == 2) = true := beq_iff_eq.mpr c14
        have c14b1 : ((Int.tmod ((rd_T45 y513 x32_1).f3) 4) != 2) = false := bne_eq_false_iff_eq.mpr c14
        clear c14; obtain rfl := Option.some.inj H
        have p517 : 0 ≤ (x32_1 : Int) := of_decide_eq_true (by first | (with_reducible assumption) | assumption)
        have q517 : x32_1 < (y513.length : Int) := of_decide_eq_true (by first | (with_reducible assumption) | assumption)
        obtain ⟨ad517, e517, hx517_0, hx517_1, hx517_2, hx517_3⟩ := at_T45 HR516.out x32_1 p517 q517; cases e517
        replace hx517_0 := (HB.out.cell (World.block_lt_of_cell? w _ hx517_0)).trans hx517_0; replace hx517_1 := (HB.out.cell (World.block_lt_of_cell? w _ hx517_1)).trans hx517_1; replace hx517_2 := (HB.out.cell (World.block_lt_of_cell? w _ hx517_2)).trans hx517_2; replace hx517_3 := (HB.out.cell (World.block_lt_of_cell? w _ hx517_3)).trans hx517_3; replace p517 := eq_true p517; replace q517 := eq_true q517; go_wp2
        go_ret
        exact ⟨by first | rfl | (simp [errW_none, errW_some] <;> rfl) | (simp only [← hji5]; first | rfl | (simp [errW_none, errW_some] <;> rfl)) | (simp [*, errW_none, errW_some] <;> rfl), by repeat (first | (with_reducible first | exact HB.out | apply zJ | apply zF | apply zI | refine zE ?_ GE511.out) | exact HB.out)⟩
      rw [if_neg c14] at H; have c14b0 : ((Int.tmod ((rd_T45 y513 x32_1).f3) 4) == 2) = false := beq_eq_false_iff_ne.mpr c14
      have c14b1 : ((Int.tmod ((rd_T45 y513 x32_1).f3) 4) != 2) = true := bne_iff_ne.mpr c14
      have H' := zA.mk H
      clear H; have p517 : 0 ≤ (x32_1 : Int) := of_decide_eq_true (by first | (with_reducible assumption) | assumption)
      have q517 : x32_1 < (y513.length : Int) := of_decide_eq_true (by first | (with_reducible assumption) | assumption)
      obtain ⟨ad517, e517, hx517_0, hx517_1, hx517_2, hx517_3⟩ := at_T45 HR516.out x32_1 p517 q517; cases e517
      replace hx517_0 := (HB.out.cell (World.block_lt_of_cell? w _ hx517_0)).trans hx517_0; replace hx517_1 := (HB.out.cell (World.block_lt_of_cell? w _ hx517_1)).trans hx517_1; replace hx517_2 := (HB.out.cell (World.block_lt_of_cell? w _ hx517_2)).trans hx517_2; replace hx517_3 := (HB.out.cell (World.block_lt_of_cell? w _ hx517_3)).trans hx517_3; replace p517 := eq_true p517; replace q517 := eq_true q517; go_wp2
      go_roundg k1
      case measure => have := HK1.out; omega
      case rel => exact ⟨(wrap64 (x32_1 + 1)), (by first | rfl | (simp; done) | (simp [*]; done)), H', ⟨by have := HK1.out; omega⟩, ⟨by (with_reducible repeat (first | refine zC ?_ _ | refine zD ?_ | refine zB ?_ _)); exact BK511.out⟩, ⟨by repeat (first | (with_reducible first | exact HB.out | apply zJ | apply zF | apply zI | refine zE ?_ GE511.out) | exact HB.out)⟩⟩
    rw [if_neg c11] at H; have c11b0 : decide (x32_1 < (y513.length : Int)) = false := decide_eq_false c11
    clear c11; replace H := Option.bind_eq_some_iff.mp H; obtain ⟨⟨t518, t521⟩, A150, H⟩ := H; replace H : ((h3_Config.f a1_0 a1_1 a1_2 a1_3 a1_4 a1_5).bind fun bt524 => (if (t518.length : Int) = 0 then (some true) else ((best_Break.f k1 t518 t521 0 (t518.length : Int) bt524.1 bt524.2.1 bt524.2.2.1 bt524.2.2.2.1 bt524.2.2.2.2.1 bt524.2.2.2.2.2).bind fun bt532 => (l5_BestLeast.l1 k1 (t518.length : Int) bt532.2 ([] : List Int) bt532.1 (bt532.1.length : Int) 0 t518 t521 bt524.1 bt524.2.1 bt524.2.2.1 bt524.2.2.2.1 bt524.2.2.2.2.1 bt524.2.2.2.2.2)))) = some r := H
    have A15 := zA.mk A150; clear A150; replace H := Option.bind_eq_some_iff.mp H; obtain ⟨⟨t524, t525, t526, t527, t528, t529⟩, A160, H⟩ := H; replace H : (if (t518.length : Int) = 0 then (some true) else ((best_Break.f k1 t518 t521 0 (t518.length : Int) t524 t525 t526 t527 t528 t529).bind fun bt532 => (l5_BestLeast.l1 k1 (t518.length : Int) bt532.2 ([] : List Int) bt532.1 (bt532.1.length : Int) 0 t518 t521 t524 t525 t526 t527 t528 t529))) = some r := H
    have A16 := zA.mk A160; clear A160; by_cases c17 : (t518.length : Int) = 0
    · rw [if_pos c17] at H
      have c17b0 : ((t518.length : Int) == 0) = true := beq_iff_eq.mpr c17
      have c17b1 : ((t518.length : Int) != 0) = false := bne_eq_false_iff_eq.mpr c17
      clear c17; obtain rfl := Option.some.inj H
      try go_wp2
      have n0_ := zA.mk (zD BK511.out); have n1_ := zA.mk (zI HB.out); clear BK511; clear HB; have BK511 := n0_; have HB := n1_; clear n0_ n1_; refine start_ (n := 8) (S := fun w' => w'.cell? ⟨gb511, 0, none⟩ = some (.int .u8 a1_0) ∧ w'.cell? ⟨gb511, 1, none⟩ = some (.int .u8 a1_1) ∧ w'.cell? ⟨gb511, 2, none⟩ = some (.int .u8 a1_2) ∧ w'.cell? ⟨gb511, 3, none⟩ = some (.int .u16 a1_3) ∧ w'.cell? ⟨gb511, 4, none⟩ = some (.int .u16 a1_4) ∧ w'.cell? ⟨gb511, 5, none⟩ = some (.float .f64 a1_5)) (ds := []) #[false, false, false, false, false, false, false, false] (by kernel_rfl) rfl rfl ⟨(zG BK511.out 0).trans rfl, (zG BK511.out 1).trans rfl, (zG BK511.out 2).trans rfl, (zG BK511.out 3).trans rfl, (zG BK511.out 4).trans rfl, (zG BK511.out 5).trans rfl⟩ (fun hHeld => ?_); refine with_tabW l5_BestLeast.tab10 l5_BestLeast.bits10 (fun HT_ HW_ => ?_)
      generalize wr.drew = w18 at BK511 HB hHeld ⊢
      refine pure_ (i := 0) (N := some 43) (v := ?_) (a' := ?_) (tf_ 1 8) rfl rfl (any_of HT_.out (by kernel_rfl)) (fun _ _ _ h => h) (Or.inl ⟨by rfl, ?_⟩) ?_ ?_
      rotate_left
      · intro w'
        go_simp
        with_reducible rfl
      rotate_left
      · simp only [Act.put, sA_, sB_, sC_, i64_w, i32_w]
        rfl
      refine take_ (i := 2) (N := some 45) (v := ?_) (a' := ?_) #[true, false, true, false, false, false, false, false] rfl rfl (take_ofW HT_.out HW_.out (by kernel_rfl)) (fun _ _ _ h => h) (Or.inl ⟨by rfl, ?_⟩) hHeld ?_ ?_
      rotate_left
      · rintro w' ⟨s0, s1, s2, s3, s4, s5⟩
        go_simp
        with_reducible rfl
      rotate_left
      · simp only [Act.put, sA_, sB_, sC_, i64_w, i32_w]
        rfl
      refine join_ (σ := Value × Value × Nat × Nat) 2 #[true, true, true, true, true, true, false, false] (fun s_ => [(44, .agg #[s_.1, s_.2.1]), (46, .agg #[.int .i64 t524, .int .i64 t525, .int .u8 t526, .int .i64 t527, .int .i64 t528, .float .f64 t529]), (6, .pointer (some ⟨s_.2.2.1, 0, none⟩)), (7, .pointer (some ⟨s_.2.2.2, 0, none⟩))]) (fun s_ w' => (w'.cell? ⟨gb511, 0, none⟩ = some (.int .u8 a1_0) ∧ w'.cell? ⟨gb511, 1, none⟩ = some (.int .u8 a1_1) ∧ w'.cell? ⟨gb511, 2, none⟩ = some (.int .u8 a1_2) ∧ w'.cell? ⟨gb511, 3, none⟩ = some (.int .u16 a1_3) ∧ w'.cell? ⟨gb511, 4, none⟩ = some (.int .u16 a1_4) ∧ w'.cell? ⟨gb511, 5, none⟩ = some (.float .f64 a1_5)) ∧ (Kd.R k62 62 w' w.heap.size (fun _ => True) s_.1 t518) ∧ (Kd.R (Kd.int .u8) 46 w' w.heap.size (fun _ => True) s_.2.1 t521) ∧ (w'.heap[gb511]? = some (.cells #[.int .u8 a1_0, .int .u8 a1_1, .int .u8 a1_2, .int .u16 a1_3, .int .u16 a1_4, .float .f64 a1_5] 26 (0, 0))) ∧ (w'.heap[s_.2.2.1]? = some (.cells #[.slice none 0 0, .slice none 0 0] 31 (0, 0))) ∧ (w'.heap[s_.2.2.2]? = some (.cells #[.int .i64 0, .int .i64 0, .int .u8 0, .int .i64 0, .int .i64 0, .float .f64 0] 35 (0, 0))) ∧ (w.heap.size ≤ s_.2.2.1) ∧ (w.heap.size ≤ s_.2.2.1) ∧ (gb511 ≠ s_.2.2.1) ∧ (s_.2.2.1 ≠ gb511) ∧ (s_.2.2.2 ≠ s_.2.2.1) ∧ (s_.2.2.1 ≠ s_.2.2.2) ∧ (w.heap.size ≤ s_.2.2.2) ∧ (w.heap.size ≤ s_.2.2.2) ∧ (gb511 ≠ s_.2.2.2) ∧ (s_.2.2.2 ≠ gb511) ∧ (Below w.heap.size w w')) ?_ ?_
      rotate_left
      · intro hJ1_3_4_5
        refine par4_ (fuel := 2) (l' := #[true, true, true, true, true, true, false, false]) (i1 := 1) (i3 := 3) (i4 := 4) (i5 := 5) (σ := Value × Value) (cs4 := #[.slice none 0 0, .slice none 0 0]) (t4 := 31) (cs5 := #[.int .i64 0, .int .i64 0, .int .u8 0, .int .i64 0, .int .i64 0, .float .f64 0]) (t5 := 35) (fun s_ => .agg #[s_.1, s_.2]) (.agg #[.int .i64 t524, .int .i64 t525, .int .u8 t526, .int .i64 t527, .int .i64 t528, .float .f64 t529]) (par4_of HT_.out (by kernel_rfl)) rfl rfl rfl rfl rfl rfl rfl rfl rfl rfl (by decide) rfl (fun w_ => (w_.cell? ⟨gb511, 0, none⟩ = some (.int .u8 a1_0) ∧ w_.cell? ⟨gb511, 1, none⟩ = some (.int .u8 a1_1) ∧ w_.cell? ⟨gb511, 2, none⟩ = some (.int .u8 a1_2) ∧ w_.cell? ⟨gb511, 3, none⟩ = some (.int .u16 a1_3) ∧ w_.cell? ⟨gb511, 4, none⟩ = some (.int .u16 a1_4) ∧ w_.cell? ⟨gb511, 5, none⟩ = some (.float .f64 a1_5)) ∧ (w_.heap[gb511]? = some (.cells #[.int .u8 a1_0, .int .u8 a1_1, .int .u8 a1_2, .int .u16 a1_3, .int .u16 a1_4, .float .f64 a1_5] 26 (0, 0))) ∧ (Below w.heap.size w w_)) ?pgrow (fun _ hP_ => hP_.1) (fun s_ w_ => (Kd.R k62 62 w_ w.heap.size (fun _ => True) s_.1 t518) ∧ (Kd.R (Kd.int .u8) 46 w_ w.heap.size (fun _ => True) s_.2 t521)) ?pF (fun g_ => (w.heap.size ≤ g_) ∧ (gb511 ≠ g_) ∧ (g_ ≠ gb511)) ?pNew ?pc1 ?pc3 ?pc4 ?pc5 ?pPhi ?pcont
        case pgrow =>
          intro w0_ w1_ hP_ hb_; obtain ⟨hS_, k0_, k1_⟩ := hP_; have BK511 := zA.mk (by first | exact Kd.zT k0_ hb_ | exact zK k0_ hb_ | exact below_step k0_ hb_); have HB := zA.mk (by first | exact Kd.zT k1_ hb_ | exact zK k1_ hb_ | exact below_step k1_ hb_)
          exact ⟨⟨(zG BK511.out 0).trans rfl, (zG BK511.out 1).trans rfl, (zG BK511.out 2).trans rfl, (zG BK511.out 3).trans rfl, (zG BK511.out 4).trans rfl, (zG BK511.out 5).trans rfl⟩, BK511.out, HB.out⟩
        case pF => intro s_ w0_ w1_ hP_ hb_; obtain ⟨f0_, f1_⟩ := hP_; exact ⟨(by first | exact Kd.zT f0_ hb_ | exact zK f0_ hb_ | exact below_step f0_ hb_), (by first | exact Kd.zT f1_ hb_ | exact zK f1_ hb_ | exact below_step f1_ hb_)⟩
        case pNew => intro w0_ hP_; obtain ⟨hS_, k0_, k1_⟩ := hP_; (try have l0_ := blk_lt k0_); (try have m0_ := below_size k0_); (try have l1_ := blk_lt k1_); (try have m1_ := below_size k1_); refine ⟨?_, ?_, ?_⟩ <;> omega
        case pc1 =>
          intro a_ W_ K_ hev_ hP_ h_; obtain ⟨hS_, k0_, k1_⟩ := hP_; have BK511 := zA.mk k0_; have HB := zA.mk k1_
          refine goes_ Try.func11 (by kernel_rfl) rfl #[.slice A0 y513.length c0] (by rfl) rfl rfl (by simp only [List.map_toArray, List.map_cons, List.map_nil]; first | rfl | (simp (disch := decide) only [hev_]; rfl) | (rw [hev_ _ (by decide) (by decide) (by decide) (by decide)]; rfl)) ?_
          with_reducible refine (h3_Para.calls k1 _ _ y513 t518 t521 _ ?side1 ?side2 A15.out).mono ?_
          (case side1 => repeat (first | exact (Kd.zR HR516.out HB.out) | (with_reducible refine Kd.zO ?_ _) | (with_reducible refine Kd.zP ?_ _) | (with_reducible refine Kd.zQ ?_)))
          (case side2 => exact HC516.out)
          rintro e w19 ⟨v519, v522, rfl, ho0, ho1, hb⟩
          refine ⟨_, rfl, ?_⟩
          exact h_ (v519, v522) _ hb ⟨(Kd.zW ho0 (below_size (by repeat (first | (with_reducible first | exact HB.out | apply zJ | apply zF | apply zI | refine zE ?_ GE511.out) | exact HB.out)))), (Kd.zW ho1 (below_size (by repeat (first | (with_reducible first | exact HB.out | apply zJ | apply zF | apply zI | refine zE ?_ GE511.out) | exact HB.out))))⟩
        case pc3 =>
          intro a_ W_ K_ hev_ hP_ h_; obtain ⟨hS_, k0_, k1_⟩ := hP_; have BK511 := zA.mk k0_; have HB := zA.mk k1_
          refine goes_ Try.func12 (by kernel_rfl) rfl #[.agg #[.int .u8 a1_0, .int .u8 a1_1, .int .u8 a1_2, .int .u16 a1_3, .int .u16 a1_4, .float .f64 a1_5]] (by rfl) rfl rfl (by simp only [List.map_toArray, List.map_cons, List.map_nil]; first | rfl | (simp (disch := decide) only [hev_]; rfl) | (rw [hev_ _ (by decide) (by decide) (by decide) (by decide)]; rfl)) ?_
          with_reducible refine (h3_Config.calls a1_0 a1_1 a1_2 a1_3 a1_4 a1_5 t524 t525 t526 t527 t528 t529 _ A16.out).mono ?_
          rintro e w21 ⟨rfl, hb⟩
          refine ⟨_, rfl, ?_⟩
          exact h_ _ hb
        case pc4 => intro a_ W_; first | (go_simp; done) | (go_simp; rfl)
        case pc5 => intro a_ W_; first | (go_simp; done) | (go_simp; rfl)
        case pPhi => exact ⟨hHeld, BK511.out, HB.out⟩
        case pcont => intro s_ gb530 gb531 w23 hP_ hF_ y4_ y5_ x4_ x5_ he_; obtain ⟨hS_, k0_, k1_⟩ := hP_; obtain ⟨v519, v522⟩ := s_; obtain ⟨f0_, f1_⟩ := hF_; exact hJ1_3_4_5 (v519, v522, gb530, gb531) _ ⟨hS_, f0_, f1_, k0_, y4_, y5_, x4_.1, x4_.1, x4_.2.1, x4_.2.2, (Ne.symm he_), he_, x5_.1, x5_.1, x5_.2.1, x5_.2.2, k1_⟩
      rintro ⟨v519, v522, gb530, gb531⟩ w23 ⟨hS_, h0_, h1_, h2_, h3_, h4_, h5_, h6_, h7_, h8_, h9_, h10_, h11_, h12_, h13_, h14_, h15_⟩
      have n0_ : zA (Kd.R k62 62 w23 w.heap.size (fun _ => True) v519 t518) := ⟨h0_⟩
      have n1_ : zA (Kd.R (Kd.int .u8) 46 w23 w.heap.size (fun _ => True) v522 t521) := ⟨h1_⟩
      have n2_ : zA (w23.heap[gb511]? = some (.cells #[.int .u8 a1_0, .int .u8 a1_1, .int .u8 a1_2, .int .u16 a1_3, .int .u16 a1_4, .float .f64 a1_5] 26 (0, 0))) := ⟨h2_⟩
      have n3_ : zA (w23.heap[gb530]? = some (.cells #[.slice none 0 0, .slice none 0 0] 31 (0, 0))) := ⟨h3_⟩
      have n4_ : zA (w23.heap[gb531]? = some (.cells #[.int .i64 0, .int .i64 0, .int .u8 0, .int .i64 0, .int .i64 0, .float .f64 0] 35 (0, 0))) := ⟨h4_⟩
      have n5_ : zA (w.heap.size ≤ gb530) := ⟨h5_⟩
      have n6_ : zA (w.heap.size ≤ gb530) := ⟨h6_⟩
      have n7_ : zA (gb511 ≠ gb530) := ⟨h7_⟩
      have n8_ : zA (gb530 ≠ gb511) := ⟨h8_⟩
      have n9_ : zA (gb531 ≠ gb530) := ⟨h9_⟩
      have n10_ : zA (gb530 ≠ gb531) := ⟨h10_⟩
      have n11_ : zA (w.heap.size ≤ gb531) := ⟨h11_⟩
      have n12_ : zA (w.heap.size ≤ gb531) := ⟨h12_⟩
      have n13_ : zA (gb511 ≠ gb531) := ⟨h13_⟩
      have n14_ : zA (gb531 ≠ gb511) := ⟨h14_⟩
      have n15_ : zA (Below w.heap.size w w23) := ⟨h15_⟩
      clear BK511 HB h0_ h1_ h2_ h3_ h4_ h5_ h6_ h7_ h8_ h9_ h10_ h11_ h12_ h13_ h14_ h15_; have HO520 := n0_; have HO523 := n1_; have BK511 := n2_; have BK530 := n3_; have BK531 := n4_; have GW530 := n5_; have GE530 := n6_; have NB511_530 := n7_; have NB530_511 := n8_; have NB531_530 := n9_; have NB530_531 := n10_; have GW531 := n11_; have GE531 := n12_; have NB511_531 := n13_; have NB531_511 := n14_; have HB := n15_; clear n0_ n1_ n2_ n3_ n4_ n5_ n6_ n7_ n8_ n9_ n10_ n11_ n12_ n13_ n14_ n15_; have hHeld : w23.cell? ⟨gb511, 0, none⟩ = some (.int .u8 a1_0) ∧ w23.cell? ⟨gb511, 1, none⟩ = some (.int .u8 a1_1) ∧ w23.cell? ⟨gb511, 2, none⟩ = some (.int .u8 a1_2) ∧ w23.cell? ⟨gb511, 3, none⟩ = some (.int .u16 a1_3) ∧ w23.cell? ⟨gb511, 4, none⟩ = some (.int .u16 a1_4) ∧ w23.cell? ⟨gb511, 5, none⟩ = some (.float .f64 a1_5) := hS_
      obtain ⟨Ao24, co24, eo24⟩ := Kd.zV HO520.out; (first | subst eo24 | (injection eo24 with f1_ f2_ f3_; have f4_ := f1_.symm; have f5_ := f3_.symm; clear f1_ f2_ f3_; subst f4_; subst f5_))
      obtain ⟨Ao26, co26, eo26⟩ := Kd.zV HO523.out; (first | subst eo26 | (injection eo26 with f1_ f2_ f3_; have f4_ := f1_.symm; have f5_ := f3_.symm; clear f1_ f2_ f3_; subst f4_; subst f5_))
      refine norm_ (a' := ?_) ?_ ?_
      rotate_left
      · simp only [putAll, Act.put, sA_, sB_, sC_]
        rfl
      refine one_ (i := 6) (N := none) #[true, true, true, true, true, true, true, false] rfl rfl (one_of HT_.out (by kernel_rfl)) (by decide) (fun K hK => ?_)
      have hs25 : w23.cell? ⟨gb530, 0, none⟩ = some (.slice none 0 0) := (zG BK530.out 0).trans rfl
      have hfs25 := zH BK530.out 0; have hns25_0 := NB511_530.out; have hns25_2 := NB531_530.out; have hms25_0 := NB530_511.out; have hms25_2 := NB530_531.out; have hs27 : w23.cell? ⟨gb530, 1, none⟩ = some (.slice none 0 0) := (zG BK530.out 1).trans rfl
      have hfs27 := zH BK530.out 1; have hns27_0 := NB511_530.out; have hns27_2 := NB531_530.out; have hms27_0 := NB530_511.out; have hms27_2 := NB530_531.out; refine skip_ (w1 := ?_) (by rfl) rfl ?_ ?_
      rotate_left
      · go_simp
        rfl
      refine hK.out _ _ ⟨((cell_far (p := ⟨gb530, _, none⟩) NB511_530.out _).trans (((cell_far (p := ⟨gb530, _, none⟩) NB511_530.out _).trans (hHeld.1)))), ((cell_far (p := ⟨gb530, _, none⟩) NB511_530.out _).trans (((cell_far (p := ⟨gb530, _, none⟩) NB511_530.out _).trans (hHeld.2.1)))), ((cell_far (p := ⟨gb530, _, none⟩) NB511_530.out _).trans (((cell_far (p := ⟨gb530, _, none⟩) NB511_530.out _).trans (hHeld.2.2.1)))), ((cell_far (p := ⟨gb530, _, none⟩) NB511_530.out _).trans (((cell_far (p := ⟨gb530, _, none⟩) NB511_530.out _).trans (hHeld.2.2.2.1)))), ((cell_far (p := ⟨gb530, _, none⟩) NB511_530.out _).trans (((cell_far (p := ⟨gb530, _, none⟩) NB511_530.out _).trans (hHeld.2.2.2.2.1)))), ((cell_far (p := ⟨gb530, _, none⟩) NB511_530.out _).trans (((cell_far (p := ⟨gb530, _, none⟩) NB511_530.out _).trans (hHeld.2.2.2.2.2))))⟩ (fun hHeld => ?_)
      clear hK K; refine one_ (i := 7) (N := none) #[true, true, true, true, true, true, true, true] rfl rfl (one_of HT_.out (by kernel_rfl)) (by decide) (fun K hK => ?_)
      have hs28 : w23.cell? ⟨gb531, 0, none⟩ = some (.int .i64 0) := (zG BK531.out 0).trans rfl
      have hfs28 := zH BK531.out 0; have hns28_0 := NB511_531.out; have hns28_1 := NB530_531.out; have hms28_0 := NB531_511.out; have hms28_1 := NB531_530.out; have hs29 : w23.cell? ⟨gb531, 1, none⟩ = some (.int .i64 0) := (zG BK531.out 1).trans rfl
      have hfs29 := zH BK531.out 1; have hns29_0 := NB511_531.out; have hns29_1 := NB530_531.out; have hms29_0 := NB531_511.out; have hms29_1 := NB531_530.out; have hs30 : w23.cell? ⟨gb531, 2, none⟩ = some (.int .u8 0) := (zG BK531.out 2).trans rfl
      have hfs30 := zH BK531.out 2; have hns30_0 := NB511_531.out; have hns30_1 := NB530_531.out; have hms30_0 := NB531_511.out; have hms30_1 := NB531_530.out; have hs31 : w23.cell? ⟨gb531, 3, none⟩ = some (.int .i64 0) := (zG BK531.out 3).trans rfl
      have hfs31 := zH BK531.out 3; have hns31_0 := NB511_531.out; have hns31_1 := NB530_531.out; have hms31_0 := NB531_511.out; have hms31_1 := NB531_530.out; have hs32 : w23.cell? ⟨gb531, 4, none⟩ = some (.int .i64 0) := (zG BK531.out 4).trans rfl
      have hfs32 := zH BK531.out 4; have hns32_0 := NB511_531.out; have hns32_1 := NB530_531.out; have hms32_0 := NB531_511.out; have hms32_1 := NB531_530.out; have hs33 : w23.cell? ⟨gb531, 5, none⟩ = some (.float .f64 0) := (zG BK531.out 5).trans rfl
      have hfs33 := zH BK531.out 5; have hns33_0 := NB511_531.out; have hns33_1 := NB530_531.out; have hms33_0 := NB531_511.out; have hms33_1 := NB531_530.out; refine skip_ (w1 := ?_) (by rfl) rfl ?_ ?_
      rotate_left
      · go_simp
        rfl
      refine hK.out _ _ ⟨((cell_far (p := ⟨gb531, _, none⟩) NB511_531.out _).trans (((cell_far (p := ⟨gb531, _, none⟩) NB511_531.out _).trans (((cell_far (p := ⟨gb531, _, none⟩) NB511_531.out _).trans (((cell_far (p := ⟨gb531, _, none⟩) NB511_531.out _).trans (((cell_far (p := ⟨gb531, _, none⟩) NB511_531.out _).trans (((cell_far (p := ⟨gb531, _, none⟩) NB511_531.out _).trans (hHeld.1)))))))))))), ((cell_far (p := ⟨gb531, _, none⟩) NB511_531.out _).trans (((cell_far (p := ⟨gb531, _, none⟩) NB511_531.out _).trans (((cell_far (p := ⟨gb531, _, none⟩) NB511_531.out _).trans (((cell_far (p := ⟨gb531, _, none⟩) NB511_531.out _).trans (((cell_far (p := ⟨gb531, _, none⟩) NB511_531.out _).trans (((cell_far (p := ⟨gb531, _, none⟩) NB511_531.out _).trans (hHeld.2.1)))))))))))), ((cell_far (p := ⟨gb531, _, none⟩) NB511_531.out _).trans (((cell_far (p := ⟨gb531, _, none⟩) NB511_531.out _).trans (((cell_far (p := ⟨gb531, _, none⟩) NB511_531.out _).trans (((cell_far (p := ⟨gb531, _, none⟩) NB511_531.out _).trans (((cell_far (p := ⟨gb531, _, none⟩) NB511_531.out _).trans (((cell_far (p := ⟨gb531, _, none⟩) NB511_531.out _).trans (hHeld.2.2.1)))))))))))), ((cell_far (p := ⟨gb531, _, none⟩) NB511_531.out _).trans (((cell_far (p := ⟨gb531, _, none⟩) NB511_531.out _).trans (((cell_far (p := ⟨gb531, _, none⟩) NB511_531.out _).trans (((cell_far (p := ⟨gb531, _, none⟩) NB511_531.out _).trans (((cell_far (p := ⟨gb531, _, none⟩) NB511_531.out _).trans (((cell_far (p := ⟨gb531, _, none⟩) NB511_531.out _).trans (hHeld.2.2.2.1)))))))))))), ((cell_far (p := ⟨gb531, _, none⟩) NB511_531.out _).trans (((cell_far (p := ⟨gb531, _, none⟩) NB511_531.out _).trans (((cell_far (p := ⟨gb531, _, none⟩) NB511_531.out _).trans (((cell_far (p := ⟨gb531, _, none⟩) NB511_531.out _).trans (((cell_far (p := ⟨gb531, _, none⟩) NB511_531.out _).trans (((cell_far (p := ⟨gb531, _, none⟩) NB511_531.out _).trans (hHeld.2.2.2.2.1)))))))))))), ((cell_far (p := ⟨gb531, _, none⟩) NB511_531.out _).trans (((cell_far (p := ⟨gb531, _, none⟩) NB511_531.out _).trans (((cell_far (p := ⟨gb531, _, none⟩) NB511_531.out _).trans (((cell_far (p := ⟨gb531, _, none⟩) NB511_531.out _).trans (((cell_far (p := ⟨gb531, _, none⟩) NB511_531.out _).trans (((cell_far (p := ⟨gb531, _, none⟩) NB511_531.out _).trans (hHeld.2.2.2.2.2))))))))))))⟩ (fun hHeld => ?_)
      clear hK K; refine done_ (done_of HT_.out (by kernel_rfl)) ?_
      have hnb34 := NB530_511.out; have hnc34 := NB511_530.out; have hnb35 := NB530_531.out; have hnc35 := NB531_530.out; have hcz36_0 : w23.cell? ⟨gb530, 0, none⟩ = some (.slice none 0 0) := (zG BK530.out 0).trans rfl
      have hcz36_1 : w23.cell? ⟨gb530, 1, none⟩ = some (.slice none 0 0) := (zG BK530.out 1).trans rfl
      have hfz36_0 := zH BK530.out 0; have hfz36_1 := zH BK530.out 1; try go_wp2
      go_ret
      exact ⟨by first | rfl | (simp [errW_none, errW_some] <;> rfl) | (simp only [← hji5]; first | rfl | (simp [errW_none, errW_some] <;> rfl)) | (simp [*, errW_none, errW_some] <;> rfl), by repeat (first | (with_reducible first | exact HB.out | apply zJ | apply zF | apply zI | refine zE ?_ GE511.out | refine zE ?_ GE530.out | refine zE ?_ GE531.out) | exact HB.out)⟩
    rw [if_neg c17] at H; have c17b0 : ((t518.length : Int) == 0) = false := beq_eq_false_iff_ne.mpr c17
    have c17b1 : ((t518.length : Int) != 0) = true := bne_iff_ne.mpr c17
    have c17b2 : ¬ (t518 = []) := fun h_ => c17 (by rw [h_]; rfl)
    replace H := Option.bind_eq_some_iff.mp H; obtain ⟨⟨t532, t535⟩, A370, H⟩ := H; replace H : (l5_BestLeast.l1 k1 (t518.length : Int) t535 ([] : List Int) t532 (t532.length : Int) 0 t518 t521 t524 t525 t526 t527 t528 t529) = some r := H; have A37 := zA.mk A370; clear A370; have H' := zA.mk H
    clear H; try go_wp2
    have n0_ := zA.mk (zD BK511.out); have n1_ := zA.mk (zI HB.out); clear BK511; clear HB; have BK511 := n0_; have HB := n1_; clear n0_ n1_; refine start_ (n := 8) (S := fun w' => w'.cell? ⟨gb511, 0, none⟩ = some (.int .u8 a1_0) ∧ w'.cell? ⟨gb511, 1, none⟩ = some (.int .u8 a1_1) ∧ w'.cell? ⟨gb511, 2, none⟩ = some (.int .u8 a1_2) ∧ w'.cell? ⟨gb511, 3, none⟩ = some (.int .u16 a1_3) ∧ w'.cell? ⟨gb511, 4, none⟩ = some (.int .u16 a1_4) ∧ w'.cell? ⟨gb511, 5, none⟩ = some (.float .f64 a1_5)) (ds := []) #[false, false, false, false, false, false, false, false] (by kernel_rfl) rfl rfl ⟨(zG BK511.out 0).trans rfl, (zG BK511.out 1).trans rfl, (zG BK511.out 2).trans rfl, (zG BK511.out 3).trans rfl, (zG BK511.out 4).trans rfl, (zG BK511.out 5).trans rfl⟩ (fun hHeld => ?_); refine with_tabW l5_BestLeast.tab10 l5_BestLeast.bits10 (fun HT_ HW_ => ?_)
    generalize wr.drew = w38 at BK511 HB hHeld ⊢
    refine pure_ (i := 0) (N := some 43) (v := ?_) (a' := ?_) (tf_ 1 8) rfl rfl (any_of HT_.out (by kernel_rfl)) (fun _ _ _ h => h) (Or.inl ⟨by rfl, ?_⟩) ?_ ?_
    rotate_left
    · intro w'
      go_simp
      with_reducible rfl
    rotate_left
    · simp only [Act.put, sA_, sB_, sC_, i64_w, i32_w]
      rfl
    refine take_ (i := 2) (N := some 45) (v := ?_) (a' := ?_) #[true, false, true, false, false, false, false, false] rfl rfl (take_ofW HT_.out HW_.out (by kernel_rfl)) (fun _ _ _ h => h) (Or.inl ⟨by rfl, ?_⟩) hHeld ?_ ?_
    rotate_left
    · rintro w' ⟨s0, s1, s2, s3, s4, s5⟩
      go_simp
      with_reducible rfl
    rotate_left
    · simp only [Act.put, sA_, sB_, sC_, i64_w, i32_w]
      rfl
    refine join_ (σ := Value × Value × Nat × Nat) 2 #[true, true, true, true, true, true, false, false] (fun s_ => [(44, .agg #[s_.1, s_.2.1]), (46, .agg #[.int .i64 t524, .int .i64 t525, .int .u8 t526, .int .i64 t527, .int .i64 t528, .float .f64 t529]), (6, .pointer (some ⟨s_.2.2.1, 0, none⟩)), (7, .pointer (some ⟨s_.2.2.2, 0, none⟩))]) (fun s_ w' => (w'.cell? ⟨gb511, 0, none⟩ = some (.int .u8 a1_0) ∧ w'.cell? ⟨gb511, 1, none⟩ = some (.int .u8 a1_1) ∧ w'.cell? ⟨gb511, 2, none⟩ = some (.int .u8 a1_2) ∧ w'.cell? ⟨gb511, 3, none⟩ = some (.int .u16 a1_3) ∧ w'.cell? ⟨gb511, 4, none⟩ = some (.int .u16 a1_4) ∧ w'.cell? ⟨gb511, 5, none⟩ = some (.float .f64 a1_5)) ∧ (Kd.R k62 62 w' w.heap.size (fun _ => True) s_.1 t518) ∧ (Kd.R (Kd.int .u8) 46 w' w.heap.size (fun _ => True) s_.2.1 t521) ∧ (w'.heap[gb511]? = some (.cells #[.int .u8 a1_0, .int .u8 a1_1, .int .u8 a1_2, .int .u16 a1_3, .int .u16 a1_4, .float .f64 a1_5] 26 (0, 0))) ∧ (w'.heap[s_.2.2.1]? = some (.cells #[.slice none 0 0, .slice none 0 0] 31 (0, 0))) ∧ (w'.heap[s_.2.2.2]? = some (.cells #[.int .i64 0, .int .i64 0, .int .u8 0, .int .i64 0, .int .i64 0, .float .f64 0] 35 (0, 0))) ∧ (w.heap.size ≤ s_.2.2.1) ∧ (w.heap.size ≤ s_.2.2.1) ∧ (gb511 ≠ s_.2.2.1) ∧ (s_.2.2.1 ≠ gb511) ∧ (s_.2.2.2 ≠ s_.2.2.1) ∧ (s_.2.2.1 ≠ s_.2.2.2) ∧ (w.heap.size ≤ s_.2.2.2) ∧ (w.heap.size ≤ s_.2.2.2) ∧ (gb511 ≠ s_.2.2.2) ∧ (s_.2.2.2 ≠ gb511) ∧ (Below w.heap.size w w')) ?_ ?_
    rotate_left
    · intro hJ1_3_4_5
      refine par4_ (fuel := 2) (l' := #[true, true, true, true, true, true, false, false]) (i1 := 1) (i3 := 3) (i4 := 4) (i5 := 5) (σ := Value × Value) (cs4 := #[.slice none 0 0, .slice none 0 0]) (t4 := 31) (cs5 := #[.int .i64 0, .int .i64 0, .int .u8 0, .int .i64 0, .int .i64 0, .float .f64 0]) (t5 := 35) (fun s_ => .agg #[s_.1, s_.2]) (.agg #[.int .i64 t524, .int .i64 t525, .int .u8 t526, .int .i64 t527, .int .i64 t528, .float .f64 t529]) (par4_of HT_.out (by kernel_rfl)) rfl rfl rfl rfl rfl rfl rfl rfl rfl rfl (by decide) rfl (fun w_ => (w_.cell? ⟨gb511, 0, none⟩ = some (.int .u8 a1_0) ∧ w_.cell? ⟨gb511, 1, none⟩ = some (.int .u8 a1_1) ∧ w_.cell? ⟨gb511, 2, none⟩ = some (.int .u8 a1_2) ∧ w_.cell? ⟨gb511, 3, none⟩ = some (.int .u16 a1_3) ∧ w_.cell? ⟨gb511, 4, none⟩ = some (.int .u16 a1_4) ∧ w_.cell? ⟨gb511, 5, none⟩ = some (.float .f64 a1_5)) ∧ (w_.heap[gb511]? = some (.cells #[.int .u8 a1_0, .int .u8 a1_1, .int .u8 a1_2, .int .u16 a1_3, .int .u16 a1_4, .float .f64 a1_5] 26 (0, 0))) ∧ (Below w.heap.size w w_)) ?pgrow (fun _ hP_ => hP_.1) (fun s_ w_ => (Kd.R k62 62 w_ w.heap.size (fun _ => True) s_.1 t518) ∧ (Kd.R (Kd.int .u8) 46 w_ w.heap.size (fun _ => True) s_.2 t521)) ?pF (fun g_ => (w.heap.size ≤ g_) ∧ (gb511 ≠ g_) ∧ (g_ ≠ gb511)) ?pNew ?pc1 ?pc3 ?pc4 ?pc5 ?pPhi ?pcont
      case pgrow =>
        intro w0_ w1_ hP_ hb_; obtain ⟨hS_, k0_, k1_⟩ := hP_; have BK511 := zA.mk (by first | exact Kd.zT k0_ hb_ | exact zK k0_ hb_ | exact below_step k0_ hb_); have HB := zA.mk (by first | exact Kd.zT k1_ hb_ | exact zK k1_ hb_ | exact below_step k1_ hb_)
        exact ⟨⟨(zG BK511.out 0).trans rfl, (zG BK511.out 1).trans rfl, (zG BK511.out 2).trans rfl, (zG BK511.out 3).trans rfl, (zG BK511.out 4).trans rfl, (zG BK511.out 5).trans rfl⟩, BK511.out, HB.out⟩
      case pF => intro s_ w0_ w1_ hP_ hb_; obtain ⟨f0_, f1_⟩ := hP_; exact ⟨(by first | exact Kd.zT f0_ hb_ | exact zK f0_ hb_ | exact below_step f0_ hb_), (by first | exact Kd.zT f1_ hb_ | exact zK f1_ hb_ | exact below_step f1_ hb_)⟩
      case pNew => intro w0_ hP_; obtain ⟨hS_, k0_, k1_⟩ := hP_; (try have l0_ := blk_lt k0_); (try have m0_ := below_size k0_); (try have l1_ := blk_lt k1_); (try have m1_ := below_size k1_); refine ⟨?_, ?_, ?_⟩ <;> omega
      case pc1 =>
        intro a_ W_ K_ hev_ hP_ h_; obtain ⟨hS_, k0_, k1_⟩ := hP_; have BK511 := zA.mk k0_; have HB := zA.mk k1_
        refine goes_ Try.func11 (by kernel_rfl) rfl #[.slice A0 y513.length c0] (by rfl) rfl rfl (by simp only [List.map_toArray, List.map_cons, List.map_nil]; first | rfl | (simp (disch := decide) only [hev_]; rfl) | (rw [hev_ _ (by decide) (by decide) (by decide) (by decide)]; rfl)) ?_
        with_reducible refine (h3_Para.calls k1 _ _ y513 t518 t521 _ ?side1 ?side2 A15.out).mono ?_
        (case side1 => repeat (first | exact (Kd.zR HR516.out HB.out) | (with_reducible refine Kd.zO ?_ _) | (with_reducible refine Kd.zP ?_ _) | (with_reducible refine Kd.zQ ?_)))
        (case side2 => exact HC516.out)
        rintro e w39 ⟨v519, v522, rfl, ho0, ho1, hb⟩
        refine ⟨_, rfl, ?_⟩
        exact h_ (v519, v522) _ hb ⟨(Kd.zW ho0 (below_size (by repeat (first | (with_reducible first | exact HB.out | apply zJ | apply zF | apply zI | refine zE ?_ GE511.out) | exact HB.out)))), (Kd.zW ho1 (below_size (by repeat (first | (with_reducible first | exact HB.out | apply zJ | apply zF | apply zI | refine zE ?_ GE511.out) | exact HB.out))))⟩
      case pc3 =>
        intro a_ W_ K_ hev_ hP_ h_; obtain ⟨hS_, k0_, k1_⟩ := hP_; have BK511 := zA.mk k0_; have HB := zA.mk k1_
        refine goes_ Try.func12 (by kernel_rfl) rfl #[.agg #[.int .u8 a1_0, .int .u8 a1_1, .int .u8 a1_2, .int .u16 a1_3, .int .u16 a1_4, .float .f64 a1_5]] (by rfl) rfl rfl (by simp only [List.map_toArray, List.map_cons, List.map_nil]; first | rfl | (simp (disch := decide) only [hev_]; rfl) | (rw [hev_ _ (by decide) (by decide) (by decide) (by decide)]; rfl)) ?_
        with_reducible refine (h3_Config.calls a1_0 a1_1 a1_2 a1_3 a1_4 a1_5 t524 t525 t526 t527 t528 t529 _ A16.out).mono ?_
        rintro e w41 ⟨rfl, hb⟩
        refine ⟨_, rfl, ?_⟩
        exact h_ _ hb
      case pc4 => intro a_ W_; first | (go_simp; done) | (go_simp; rfl)
      case pc5 => intro a_ W_; first | (go_simp; done) | (go_simp; rfl)
      case pPhi => exact ⟨hHeld, BK511.out, HB.out⟩
      case pcont => intro s_ gb530 gb531 w43 hP_ hF_ y4_ y5_ x4_ x5_ he_; obtain ⟨hS_, k0_, k1_⟩ := hP_; obtain ⟨v519, v522⟩ := s_; obtain ⟨f0_, f1_⟩ := hF_; exact hJ1_3_4_5 (v519, v522, gb530, gb531) _ ⟨hS_, f0_, f1_, k0_, y4_, y5_, x4_.1, x4_.1, x4_.2.1, x4_.2.2, (Ne.symm he_), he_, x5_.1, x5_.1, x5_.2.1, x5_.2.2, k1_⟩
    rintro ⟨v519, v522, gb530, gb531⟩ w43 ⟨hS_, h0_, h1_, h2_, h3_, h4_, h5_, h6_, h7_, h8_, h9_, h10_, h11_, h12_, h13_, h14_, h15_⟩
    have n0_ : zA (Kd.R k62 62 w43 w.heap.size (fun _ => True) v519 t518) := ⟨h0_⟩
    have n1_ : zA (Kd.R (Kd.int .u8) 46 w43 w.heap.size (fun _ => True) v522 t521) := ⟨h1_⟩
    have n2_ : zA (w43.heap[gb511]? = some (.cells #[.int .u8 a1_0, .int .u8 a1_1, .int .u8 a1_2, .int .u16 a1_3, .int .u16 a1_4, .float .f64 a1_5] 26 (0, 0))) := ⟨h2_⟩
    have n3_ : zA (w43.heap[gb530]? = some (.cells #[.slice none 0 0, .slice none 0 0] 31 (0, 0))) := ⟨h3_⟩
    have n4_ : zA (w43.heap[gb531]? = some (.cells #[.int .i64 0, .int .i64 0, .int .u8 0, .int .i64 0, .int .i64 0, .float .f64 0] 35 (0, 0))) := ⟨h4_⟩
    have n5_ : zA (w.heap.size ≤ gb530) := ⟨h5_⟩
    have n6_ : zA (w.heap.size ≤ gb530) := ⟨h6_⟩
    have n7_ : zA (gb511 ≠ gb530) := ⟨h7_⟩
    have n8_ : zA (gb530 ≠ gb511) := ⟨h8_⟩
    have n9_ : zA (gb531 ≠ gb530) := ⟨h9_⟩
    have n10_ : zA (gb530 ≠ gb531) := ⟨h10_⟩
    have n11_ : zA (w.heap.size ≤ gb531) := ⟨h11_⟩
    have n12_ : zA (w.heap.size ≤ gb531) := ⟨h12_⟩
    have n13_ : zA (gb511 ≠ gb531) := ⟨h13_⟩
    have n14_ : zA (gb531 ≠ gb511) := ⟨h14_⟩
    have n15_ : zA (Below w.heap.size w w43) := ⟨h15_⟩
    clear BK511 HB h0_ h1_ h2_ h3_ h4_ h5_ h6_ h7_ h8_ h9_ h10_ h11_ h12_ h13_ h14_ h15_; have HO520 := n0_; have HO523 := n1_; have BK511 := n2_; have BK530 := n3_; have BK531 := n4_; have GW530 := n5_; have GE530 := n6_; have NB511_530 := n7_; have NB530_511 := n8_; have NB531_530 := n9_; have NB530_531 := n10_; have GW531 := n11_; have GE531 := n12_; have NB511_531 := n13_; have NB531_511 := n14_; have HB := n15_; clear n0_ n1_ n2_ n3_ n4_ n5_ n6_ n7_ n8_ n9_ n10_ n11_ n12_ n13_ n14_ n15_; have hHeld : w43.cell? ⟨gb511, 0, none⟩ = some (.int .u8 a1_0) ∧ w43.cell? ⟨gb511, 1, none⟩ = some (.int .u8 a1_1) ∧ w43.cell? ⟨gb511, 2, none⟩ = some (.int .u8 a1_2) ∧ w43.cell? ⟨gb511, 3, none⟩ = some (.int .u16 a1_3) ∧ w43.cell? ⟨gb511, 4, none⟩ = some (.int .u16 a1_4) ∧ w43.cell? ⟨gb511, 5, none⟩ = some (.float .f64 a1_5) := hS_
    obtain ⟨Ao44, co44, eo44⟩ := Kd.zV HO520.out; (first | subst eo44 | (injection eo44 with f1_ f2_ f3_; have f4_ := f1_.symm; have f5_ := f3_.symm; clear f1_ f2_ f3_; subst f4_; subst f5_))
    obtain ⟨Ao46, co46, eo46⟩ := Kd.zV HO523.out; (first | subst eo46 | (injection eo46 with f1_ f2_ f3_; have f4_ := f1_.symm; have f5_ := f3_.symm; clear f1_ f2_ f3_; subst f4_; subst f5_))
    refine norm_ (a' := ?_) ?_ ?_
    rotate_left
    · simp only [putAll, Act.put, sA_, sB_, sC_]
      rfl
    refine one_ (i := 6) (N := none) #[true, true, true, true, true, true, true, false] rfl rfl (one_of HT_.out (by kernel_rfl)) (by decide) (fun K hK => ?_)
    have hs45 : w43.cell? ⟨gb530, 0, none⟩ = some (.slice none 0 0) := (zG BK530.out 0).trans rfl
    have hfs45 := zH BK530.out 0; have hns45_0 := NB511_530.out; have hns45_2 := NB531_530.out; have hms45_0 := NB530_511.out; have hms45_2 := NB530_531.out; have hs47 : w43.cell? ⟨gb530, 1, none⟩ = some (.slice none 0 0) := (zG BK530.out 1).trans rfl
    have hfs47 := zH BK530.out 1; have hns47_0 := NB511_530.out; have hns47_2 := NB531_530.out; have hms47_0 := NB530_511.out; have hms47_2 := NB530_531.out; refine skip_ (w1 := ?_) (by rfl) rfl ?_ ?_
    rotate_left
    · go_simp
      rfl
    refine hK.out _ _ ⟨((cell_far (p := ⟨gb530, _, none⟩) NB511_530.out _).trans (((cell_far (p := ⟨gb530, _, none⟩) NB511_530.out _).trans (hHeld.1)))), ((cell_far (p := ⟨gb530, _, none⟩) NB511_530.out _).trans (((cell_far (p := ⟨gb530, _, none⟩) NB511_530.out _).trans (hHeld.2.1)))), ((cell_far (p := ⟨gb530, _, none⟩) NB511_530.out _).trans (((cell_far (p := ⟨gb530, _, none⟩) NB511_530.out _).trans (hHeld.2.2.1)))), ((cell_far (p := ⟨gb530, _, none⟩) NB511_530.out _).trans (((cell_far (p := ⟨gb530, _, none⟩) NB511_530.out _).trans (hHeld.2.2.2.1)))), ((cell_far (p := ⟨gb530, _, none⟩) NB511_530.out _).trans (((cell_far (p := ⟨gb530, _, none⟩) NB511_530.out _).trans (hHeld.2.2.2.2.1)))), ((cell_far (p := ⟨gb530, _, none⟩) NB511_530.out _).trans (((cell_far (p := ⟨gb530, _, none⟩) NB511_530.out _).trans (hHeld.2.2.2.2.2))))⟩ (fun hHeld => ?_)
    clear hK K; refine one_ (i := 7) (N := none) #[true, true, true, true, true, true, true, true] rfl rfl (one_of HT_.out (by kernel_rfl)) (by decide) (fun K hK => ?_)
    have hs48 : w43.cell? ⟨gb531, 0, none⟩ = some (.int .i64 0) := (zG BK531.out 0).trans rfl
    have hfs48 := zH BK531.out 0; have hns48_0 := NB511_531.out; have hns48_1 := NB530_531.out; have hms48_0 := NB531_511.out; have hms48_1 := NB531_530.out; have hs49 : w43.cell? ⟨gb531, 1, none⟩ = some (.int .i64 0) := (zG BK531.out 1).trans rfl
    have hfs49 := zH BK531.out 1; have hns49_0 := NB511_531.out; have hns49_1 := NB530_531.out; have hms49_0 := NB531_511.out; have hms49_1 := NB531_530.out; have hs50 : w43.cell? ⟨gb531, 2, none⟩ = some (.int .u8 0) := (zG BK531.out 2).trans rfl
    have hfs50 := zH BK531.out 2; have hns50_0 := NB511_531.out; have hns50_1 := NB530_531.out; have hms50_0 := NB531_511.out; have hms50_1 := NB531_530.out; have hs51 : w43.cell? ⟨gb531, 3, none⟩ = some (.int .i64 0) := (zG BK531.out 3).trans rfl
    have hfs51 := zH BK531.out 3; have hns51_0 := NB511_531.out; have hns51_1 := NB530_531.out; have hms51_0 := NB531_511.out; have hms51_1 := NB531_530.out; have hs52 : w43.cell? ⟨gb531, 4, none⟩ = some (.int .i64 0) := (zG BK531.out 4).trans rfl
    have hfs52 := zH BK531.out 4; have hns52_0 := NB511_531.out; have hns52_1 := NB530_531.out; have hms52_0 := NB531_511.out; have hms52_1 := NB531_530.out; have hs53 : w43.cell? ⟨gb531, 5, none⟩ = some (.float .f64 0) := (zG BK531.out 5).trans rfl
    have hfs53 := zH BK531.out 5; have hns53_0 := NB511_531.out; have hns53_1 := NB530_531.out; have hms53_0 := NB531_511.out; have hms53_1 := NB531_530.out; refine skip_ (w1 := ?_) (by rfl) rfl ?_ ?_
    rotate_left
    · go_simp
      rfl
    refine hK.out _ _ ⟨((cell_far (p := ⟨gb531, _, none⟩) NB511_531.out _).trans (((cell_far (p := ⟨gb531, _, none⟩) NB511_531.out _).trans (((cell_far (p := ⟨gb531, _, none⟩) NB511_531.out _).trans (((cell_far (p := ⟨gb531, _, none⟩) NB511_531.out _).trans (((cell_far (p := ⟨gb531, _, none⟩) NB511_531.out _).trans (((cell_far (p := ⟨gb531, _, none⟩) NB511_531.out _).trans (hHeld.1)))))))))))), ((cell_far (p := ⟨gb531, _, none⟩) NB511_531.out _).trans (((cell_far (p := ⟨gb531, _, none⟩) NB511_531.out _).trans (((cell_far (p := ⟨gb531, _, none⟩) NB511_531.out _).trans (((cell_far (p := ⟨gb531, _, none⟩) NB511_531.out _).trans (((cell_far (p := ⟨gb531, _, none⟩) NB511_531.out _).trans (((cell_far (p := ⟨gb531, _, none⟩) NB511_531.out _).trans (hHeld.2.1)))))))))))), ((cell_far (p := ⟨gb531, _, none⟩) NB511_531.out _).trans (((cell_far (p := ⟨gb531, _, none⟩) NB511_531.out _).trans (((cell_far (p := ⟨gb531, _, none⟩) NB511_531.out _).trans (((cell_far (p := ⟨gb531, _, none⟩) NB511_531.out _).trans (((cell_far (p := ⟨gb531, _, none⟩) NB511_531.out _).trans (((cell_far (p := ⟨gb531, _, none⟩) NB511_531.out _).trans (hHeld.2.2.1)))))))))))), ((cell_far (p := ⟨gb531, _, none⟩) NB511_531.out _).trans (((cell_far (p := ⟨gb531, _, none⟩) NB511_531.out _).trans (((cell_far (p := ⟨gb531, _, none⟩) NB511_531.out _).trans (((cell_far (p := ⟨gb531, _, none⟩) NB511_531.out _).trans (((cell_far (p := ⟨gb531, _, none⟩) NB511_531.out _).trans (((cell_far (p := ⟨gb531, _, none⟩) NB511_531.out _).trans (hHeld.2.2.2.1)))))))))))), ((cell_far (p := ⟨gb531, _, none⟩) NB511_531.out _).trans (((cell_far (p := ⟨gb531, _, none⟩) NB511_531.out _).trans (((cell_far (p := ⟨gb531, _, none⟩) NB511_531.out _).trans (((cell_far (p := ⟨gb531, _, none⟩) NB511_531.out _).trans (((cell_far (p := ⟨gb531, _, none⟩) NB511_531.out _).trans (((cell_far (p := ⟨gb531, _, none⟩) NB511_531.out _).trans (hHeld.2.2.2.2.1)))))))))))), ((cell_far (p := ⟨gb531, _, none⟩) NB511_531.out _).trans (((cell_far (p := ⟨gb531, _, none⟩) NB511_531.out _).trans (((cell_far (p := ⟨gb531, _, none⟩) NB511_531.out _).trans (((cell_far (p := ⟨gb531, _, none⟩) NB511_531.out _).trans (((cell_far (p := ⟨gb531, _, none⟩) NB511_531.out _).trans (((cell_far (p := ⟨gb531, _, none⟩) NB511_531.out _).trans (hHeld.2.2.2.2.2))))))))))))⟩ (fun hHeld => ?_)
    clear hK K; refine done_ (done_of HT_.out (by kernel_rfl)) ?_
    have hnb54 := NB530_511.out; have hnc54 := NB511_530.out; have hnb55 := NB530_531.out; have hnc55 := NB531_530.out; have hcz56_0 : w43.cell? ⟨gb530, 0, none⟩ = some (.slice none 0 0) := (zG BK530.out 0).trans rfl
    have hcz56_1 : w43.cell? ⟨gb530, 1, none⟩ = some (.slice none 0 0) := (zG BK530.out 1).trans rfl
    have hfz56_0 := zH BK530.out 0; have hfz56_1 := zH BK530.out 1; have hnb57 := NB531_511.out; have hnc57 := NB511_531.out; have hcz58_0 : w43.cell? ⟨gb531, 0, none⟩ = some (.int .i64 0) := (zG BK531.out 0).trans rfl
    have hcz58_1 : w43.cell? ⟨gb531, 1, none⟩ = some (.int .i64 0) := (zG BK531.out 1).trans rfl
    have hcz58_2 : w43.cell? ⟨gb531, 2, none⟩ = some (.int .u8 0) := (zG BK531.out 2).trans rfl
    have hcz58_3 : w43.cell? ⟨gb531, 3, none⟩ = some (.int .i64 0) := (zG BK531.out 3).trans rfl
    have hcz58_4 : w43.cell? ⟨gb531, 4, none⟩ = some (.int .i64 0) := (zG BK531.out 4).trans rfl
    have hcz58_5 : w43.cell? ⟨gb531, 5, none⟩ = some (.float .f64 0) := (zG BK531.out 5).trans rfl
    have hfz58_0 := zH BK531.out 0; have hfz58_1 := zH BK531.out 1; have hfz58_2 := zH BK531.out 2; have hfz58_3 := zH BK531.out 3; have hfz58_4 := zH BK531.out 4; have hfz58_5 := zH BK531.out 5; try go_wp2_with (first | ((with_reducible refine gate_callee (f := 14) rfl ?_); refine goesL_ (some 56) rfl rfl Try.func14 (by kernel_rfl) rfl #[.agg #[.slice Ao44 t518.length co44, .slice Ao46 t521.length co46], .int .i64 0, .int .i64 (t518.length : Int), .agg #[.int .i64 t524, .int .i64 t525, .int .u8 t526, .int .i64 t527, .int .i64 t528, .float .f64 t529]] rfl (by (try simp only [List.map_toArray, List.map_cons, List.map_nil]); first | done | rfl | (simp only [List.length_drop, List.length_take]; rfl)) ?_; (with_reducible refine (best_Break.calls k1 _ _ t518 _ _ t521 0 (t518.length : Int) t524 t525 t526 t527 t528 t529 t532 t535 _ ?side1 ?side2 ?side3 ?side4 A37.out).mono ?_); (case side1 => refine (Kd.zS (e := 62) (base := w.heap.size) (ok := fun k_ => True) (n := t518.length) (c := co44) ?_).2.2; exact (by (with_reducible repeat (first | apply Kd.zL | apply Kd.zM | apply Kd.zN)); exact (Kd.zX (Kd.zX (Kd.zU (p := ⟨gb531, 5, none⟩) (Kd.zU (p := ⟨gb531, 4, none⟩) (Kd.zU (p := ⟨gb531, 3, none⟩) (Kd.zU (p := ⟨gb531, 2, none⟩) (Kd.zU (p := ⟨gb531, 1, none⟩) (Kd.zU (p := ⟨gb531, 0, none⟩) (Kd.zU (p := ⟨gb530, 1, none⟩) (Kd.zU (p := ⟨gb530, 0, none⟩) (Kd.zY (Kd.zY HO520.out BK530.out (by decide)) BK531.out (by decide)) (fun _ hk => hk.1.2) (.slice Ao44 t518.length co44)) (fun _ hk => hk.1.2) (.slice Ao46 t521.length co46)) (fun _ hk => hk.2) (.int .i64 t524)) (fun _ hk => hk.2) (.int .i64 t525)) (fun _ hk => hk.2) (.int .u8 t526)) (fun _ hk => hk.2) (.int .i64 t527)) (fun _ hk => hk.2) (.int .i64 t528)) (fun _ hk => hk.2) (.float .f64 t529)) (fun _ h_ => h_.1)) (fun _ h_ => h_.1)))); (case side2 => exact (Kd.zS HO520.out).2.1); (case side3 => refine (Kd.zS (e := 46) (base := w.heap.size) (ok := fun k_ => True) (n := t521.length) (c := co46) ?_).2.2; exact (by (with_reducible repeat (first | apply Kd.zL | apply Kd.zM | apply Kd.zN)); exact (Kd.zX (Kd.zX (Kd.zU (p := ⟨gb531, 5, none⟩) (Kd.zU (p := ⟨gb531, 4, none⟩) (Kd.zU (p := ⟨gb531, 3, none⟩) (Kd.zU (p := ⟨gb531, 2, none⟩) (Kd.zU (p := ⟨gb531, 1, none⟩) (Kd.zU (p := ⟨gb531, 0, none⟩) (Kd.zU (p := ⟨gb530, 1, none⟩) (Kd.zU (p := ⟨gb530, 0, none⟩) (Kd.zY (Kd.zY HO523.out BK530.out (by decide)) BK531.out (by decide)) (fun _ hk => hk.1.2) (.slice Ao44 t518.length co44)) (fun _ hk => hk.1.2) (.slice Ao46 t521.length co46)) (fun _ hk => hk.2) (.int .i64 t524)) (fun _ hk => hk.2) (.int .i64 t525)) (fun _ hk => hk.2) (.int .u8 t526)) (fun _ hk => hk.2) (.int .i64 t527)) (fun _ hk => hk.2) (.int .i64 t528)) (fun _ hk => hk.2) (.float .f64 t529)) (fun _ h_ => h_.1)) (fun _ h_ => h_.1)))); (case side4 => exact (Kd.zS HO523.out).2.1); rintro e w59 ⟨v533, rfl, ho0, hb⟩; refine ⟨_, rfl, ?_⟩; have n0_ := zA.mk (Kd.zT (by (with_reducible repeat (first | apply Kd.zL | apply Kd.zM | apply Kd.zN)); exact (Kd.zX (Kd.zX (Kd.zU (p := ⟨gb531, 5, none⟩) (Kd.zU (p := ⟨gb531, 4, none⟩) (Kd.zU (p := ⟨gb531, 3, none⟩) (Kd.zU (p := ⟨gb531, 2, none⟩) (Kd.zU (p := ⟨gb531, 1, none⟩) (Kd.zU (p := ⟨gb531, 0, none⟩) (Kd.zU (p := ⟨gb530, 1, none⟩) (Kd.zU (p := ⟨gb530, 0, none⟩) (Kd.zY (Kd.zY HO520.out BK530.out (by decide)) BK531.out (by decide)) (fun _ hk => hk.1.2) (.slice Ao44 t518.length co44)) (fun _ hk => hk.1.2) (.slice Ao46 t521.length co46)) (fun _ hk => hk.2) (.int .i64 t524)) (fun _ hk => hk.2) (.int .i64 t525)) (fun _ hk => hk.2) (.int .u8 t526)) (fun _ hk => hk.2) (.int .i64 t527)) (fun _ hk => hk.2) (.int .i64 t528)) (fun _ hk => hk.2) (.float .f64 t529)) (fun _ h_ => h_.1)) (fun _ h_ => h_.1))) hb); have n1_ := zA.mk (Kd.zT (by (with_reducible repeat (first | apply Kd.zL | apply Kd.zM | apply Kd.zN)); exact (Kd.zX (Kd.zX (Kd.zU (p := ⟨gb531, 5, none⟩) (Kd.zU (p := ⟨gb531, 4, none⟩) (Kd.zU (p := ⟨gb531, 3, none⟩) (Kd.zU (p := ⟨gb531, 2, none⟩) (Kd.zU (p := ⟨gb531, 1, none⟩) (Kd.zU (p := ⟨gb531, 0, none⟩) (Kd.zU (p := ⟨gb530, 1, none⟩) (Kd.zU (p := ⟨gb530, 0, none⟩) (Kd.zY (Kd.zY HO523.out BK530.out (by decide)) BK531.out (by decide)) (fun _ hk => hk.1.2) (.slice Ao44 t518.length co44)) (fun _ hk => hk.1.2) (.slice Ao46 t521.length co46)) (fun _ hk => hk.2) (.int .i64 t524)) (fun _ hk => hk.2) (.int .i64 t525)) (fun _ hk => hk.2) (.int .u8 t526)) (fun _ hk => hk.2) (.int .i64 t527)) (fun _ hk => hk.2) (.int .i64 t528)) (fun _ hk => hk.2) (.float .f64 t529)) (fun _ h_ => h_.1)) (fun _ h_ => h_.1))) hb); have n2_ := zA.mk (Kd.zW ho0 (below_size (by repeat (first | (with_reducible first | exact HB.out | apply zJ | apply zF | apply zI | refine zE ?_ GE511.out | refine zE ?_ GE530.out | refine zE ?_ GE531.out) | exact HB.out)))); have n3_ := zA.mk (zK (g := gb511) (o := .cells #[.int .u8 a1_0, .int .u8 a1_1, .int .u8 a1_2, .int .u16 a1_3, .int .u16 a1_4, .float .f64 a1_5] 26 (0, 0)) (by (with_reducible repeat (first | refine zC ?_ _ | refine zD ?_ | refine zB ?_ _)); refine blk_far ?_ NB511_531.out _; (with_reducible repeat (first | refine zC ?_ _ | refine zD ?_ | refine zB ?_ _)); refine blk_far ?_ NB511_531.out _; (with_reducible repeat (first | refine zC ?_ _ | refine zD ?_ | refine zB ?_ _)); refine blk_far ?_ NB511_531.out _; (with_reducible repeat (first | refine zC ?_ _ | refine zD ?_ | refine zB ?_ _)); refine blk_far ?_ NB511_531.out _; (with_reducible repeat (first | refine zC ?_ _ | refine zD ?_ | refine zB ?_ _)); refine blk_far ?_ NB511_531.out _; (with_reducible repeat (first | refine zC ?_ _ | refine zD ?_ | refine zB ?_ _)); refine blk_far ?_ NB511_531.out _; (with_reducible repeat (first | refine zC ?_ _ | refine zD ?_ | refine zB ?_ _)); refine blk_far ?_ NB511_530.out _; (with_reducible repeat (first | refine zC ?_ _ | refine zD ?_ | refine zB ?_ _)); refine blk_far ?_ NB511_530.out _; (with_reducible repeat (first | refine zC ?_ _ | refine zD ?_ | refine zB ?_ _)); exact BK511.out) hb); have n4_ := zA.mk (zK (g := gb530) (o := .cells #[.slice Ao44 t518.length co44, .slice Ao46 t521.length co46] 31 (0, 0)) (by (with_reducible repeat (first | refine zC ?_ _ | refine zD ?_ | refine zB ?_ _)); refine blk_far ?_ NB530_531.out _; (with_reducible repeat (first | refine zC ?_ _ | refine zD ?_ | refine zB ?_ _)); refine blk_far ?_ NB530_531.out _; (with_reducible repeat (first | refine zC ?_ _ | refine zD ?_ | refine zB ?_ _)); refine blk_far ?_ NB530_531.out _; (with_reducible repeat (first | refine zC ?_ _ | refine zD ?_ | refine zB ?_ _)); refine blk_far ?_ NB530_531.out _; (with_reducible repeat (first | refine zC ?_ _ | refine zD ?_ | refine zB ?_ _)); refine blk_far ?_ NB530_531.out _; (with_reducible repeat (first | refine zC ?_ _ | refine zD ?_ | refine zB ?_ _)); refine blk_far ?_ NB530_531.out _; (with_reducible repeat (first | refine zC ?_ _ | refine zD ?_ | refine zB ?_ _)); refine blk_put (cs := #[.slice Ao44 t518.length co44, .slice none 0 0]) ?_ 1 _ rfl; (with_reducible repeat (first | refine zC ?_ _ | refine zD ?_ | refine zB ?_ _)); refine blk_put (cs := #[.slice none 0 0, .slice none 0 0]) ?_ 0 _ rfl; (with_reducible repeat (first | refine zC ?_ _ | refine zD ?_ | refine zB ?_ _)); exact BK530.out) hb); have n5_ := zA.mk (zK (g := gb531) (o := .cells #[.int .i64 t524, .int .i64 t525, .int .u8 t526, .int .i64 t527, .int .i64 t528, .float .f64 t529] 35 (0, 0)) (by (with_reducible repeat (first | refine zC ?_ _ | refine zD ?_ | refine zB ?_ _)); refine blk_put (cs := #[.int .i64 t524, .int .i64 t525, .int .u8 t526, .int .i64 t527, .int .i64 t528, .float .f64 0]) ?_ 5 _ rfl; (with_reducible repeat (first | refine zC ?_ _ | refine zD ?_ | refine zB ?_ _)); refine blk_put (cs := #[.int .i64 t524, .int .i64 t525, .int .u8 t526, .int .i64 t527, .int .i64 0, .float .f64 0]) ?_ 4 _ rfl; (with_reducible repeat (first | refine zC ?_ _ | refine zD ?_ | refine zB ?_ _)); refine blk_put (cs := #[.int .i64 t524, .int .i64 t525, .int .u8 t526, .int .i64 0, .int .i64 0, .float .f64 0]) ?_ 3 _ rfl; (with_reducible repeat (first | refine zC ?_ _ | refine zD ?_ | refine zB ?_ _)); refine blk_put (cs := #[.int .i64 t524, .int .i64 t525, .int .u8 0, .int .i64 0, .int .i64 0, .float .f64 0]) ?_ 2 _ rfl; (with_reducible repeat (first | refine zC ?_ _ | refine zD ?_ | refine zB ?_ _)); refine blk_put (cs := #[.int .i64 t524, .int .i64 0, .int .u8 0, .int .i64 0, .int .i64 0, .float .f64 0]) ?_ 1 _ rfl; (with_reducible repeat (first | refine zC ?_ _ | refine zD ?_ | refine zB ?_ _)); refine blk_put (cs := #[.int .i64 0, .int .i64 0, .int .u8 0, .int .i64 0, .int .i64 0, .float .f64 0]) ?_ 0 _ rfl; (with_reducible repeat (first | refine zC ?_ _ | refine zD ?_ | refine zB ?_ _)); refine blk_far ?_ NB531_530.out _; (with_reducible repeat (first | refine zC ?_ _ | refine zD ?_ | refine zB ?_ _)); refine blk_far ?_ NB531_530.out _; (with_reducible repeat (first | refine zC ?_ _ | refine zD ?_ | refine zB ?_ _)); exact BK531.out) hb); have n6_ := zA.mk (below_step (by repeat (first | (with_reducible first | exact HB.out | apply zJ | apply zF | apply zI | refine zE ?_ GE511.out | refine zE ?_ GE530.out | refine zE ?_ GE531.out) | exact HB.out)) hb); clear HO520; clear HO523; clear BK511; clear BK530; clear BK531; clear HB; have HO520 := n0_; have HO523 := n1_; have HO534 := n2_; have BK511 := n3_; have BK530 := n4_; have BK531 := n5_; have HB := n6_; clear n0_ n1_ n2_ n3_ n4_ n5_ n6_; (try clear hb); (try clear hb2); (try clear hk); (try clear hi); (try clear ho0); obtain ⟨Ao60, co60, eo60⟩ := Kd.zV HO534.out; subst eo60))
    go_loopg [11, 61] k1 (fun kq v11 v61 w' => ∃ (x11_2 : List Int) (x61_2 : Int), v61 = .int .i64 x61_2 ∧ zA (l5_BestLeast.l1 kq (t518.length : Int) t535 x11_2 t532 (t532.length : Int) x61_2 t518 t521 t524 t525 t526 t527 t528 t529 = some r) ∧ zA (kq ≤ k1) ∧ zA (Kd.R (Kd.int .i64) 3 w' w.heap.size (fun _ => True) v11 x11_2) ∧ zA (Kd.R k48 48 w' w.heap.size (fun _ => True) (.slice Ao60 t532.length co60) t532) ∧ zA (Kd.R k62 62 w' w.heap.size (fun _ => True) (.slice Ao44 t518.length co44) t518) ∧ zA (Kd.R (Kd.int .u8) 46 w' w.heap.size (fun _ => True) (.slice Ao46 t521.length co46) t521) ∧ zA (w'.heap[gb511]? = some (.cells #[.int .u8 a1_0, .int .u8 a1_1, .int .u8 a1_2, .int .u16 a1_3, .int .u16 a1_4, .float .f64 a1_5] 26 (0, 0))) ∧ zA (w'.heap[gb530]? = some (.cells #[(.slice Ao44 t518.length co44), (.slice Ao46 t521.length co46)] 31 (0, 0))) ∧ zA (w'.heap[gb531]? = some (.cells #[.int .i64 t524, .int .i64 t525, .int .u8 t526, .int .i64 t527, .int .i64 t528, .float .f64 t529] 35 (0, 0))) ∧ zA (Below w.heap.size w w'))
    case atStart => exact ⟨(([] : List Int)), (0), (by first | rfl | (simp; done) | (simp [*]; done)), H', ⟨Nat.le_refl _⟩, ⟨by first | exact Kd.R_nil _ _ _ _ _ | exact Kd.N_nil _ _ _ _ _ | exact Kd.V_nil _ _ _ _ _ | exact Kd.Q_nil _ _ _ _ _ | exact Kd.S_nil _ _ _ _ _⟩, ⟨by (with_reducible repeat (first | apply Kd.zL | apply Kd.zM | apply Kd.zN)); exact HO534.out⟩, ⟨by (with_reducible repeat (first | apply Kd.zL | apply Kd.zM | apply Kd.zN)); exact HO520.out⟩, ⟨by (with_reducible repeat (first | apply Kd.zL | apply Kd.zM | apply Kd.zN)); exact HO523.out⟩, ⟨by (with_reducible repeat (first | refine zC ?_ _ | refine zD ?_ | refine zB ?_ _)); exact BK511.out⟩, ⟨by (with_reducible repeat (first | refine zC ?_ _ | refine zD ?_ | refine zB ?_ _)); exact BK530.out⟩, ⟨by (with_reducible repeat (first | refine zC ?_ _ | refine zD ?_ | refine zB ?_ _)); exact BK531.out⟩, ⟨by repeat (first | (with_reducible first | exact HB.out | apply zJ | apply zF | apply zI | refine zE ?_ GE511.out | refine zE ?_ GE530.out | refine zE ?_ GE531.out) | exact HB.out)⟩⟩
    clear H'; try clear c1
    try clear p2
    try clear c5
    try clear c12
    try clear c14
    try clear c54
    try clear c55
    try clear c57
    try clear hcz56_0
    try clear hcz56_1
    try clear hcz58_0
    try clear hcz58_1
    try clear hcz58_2
    try clear hcz58_3
    try clear hcz58_4
    try clear hcz58_5
    try clear hfz56_0
    try clear hfz56_1
    try clear hfz58_0
    try clear hfz58_1
    try clear hfz58_2
    try clear hfz58_3
    try clear hfz58_4
    try clear hfz58_5
    obtain ⟨x11_2, x61_2, rfl, HA, HK2, HO_11, HO_59, HO_531000, HO_531001, BK511, BK530, BK531, HB⟩ := hrel; cases gk with
    | zero => exact absurd HA.out (by simp [l5_BestLeast.l1])
    | succ k2 =>
      have H := HA.out; clear HA; simp only [l5_BestLeast.l1] at H; by_cases c61 : x61_2 < (t532.length : Int)
      · rw [if_pos c61] at H
        have c61b0 : decide (x61_2 < (t532.length : Int)) = true := decide_eq_true c61
        clear c61; by_cases c62 : 0 ≤ x61_2
        rotate_left
        · rw [if_neg c62] at H
          exact absurd H (by simp)
        rw [if_pos c62] at H; have c62b0 : decide (0 ≤ x61_2) = true := decide_eq_true c62
        clear c62; by_cases c63 : x61_2 < (t532.length : Int)
        rotate_left
        · rw [if_neg c63] at H
          exact absurd H (by simp)
        rw [if_pos c63] at H; have c63b0 : decide (x61_2 < (t532.length : Int)) = true := decide_eq_true c63
        clear c63; by_cases c64 : x11_2.length < 17592186044416
        rotate_left
        · rw [if_neg c64] at H
          exact absurd H (by simp)
        rw [if_pos c64] at H; have LMc64 := zA.mk c64; clear c64; obtain ⟨y538, hy538⟩ : ∃ y_ : List Int, y_ = (x11_2 ++ [(rd_T48 t532 x61_2).f1]) := ⟨_, rfl⟩; replace H : (l5_BestLeast.l1 k2 (t518.length : Int) t535 y538 t532 (t532.length : Int) (wrap64 (x61_2 + 1)) t518 t521 t524 t525 t526 t527 t528 t529) = some r := by first | (rw [hy538]; with_reducible exact H) | (have H2_ := (Option.bind_some _ _).symm.trans H; rw [hy538]; with_reducible exact H2_) | (have H2_ := (Option.bind_some _ _).symm.trans H; with_reducible exact H2_) | with_reducible exact H | (rw [hy538]; exact H) | exact H
        have Ny538 := zA.mk hy538; clear hy538; have H' := zA.mk H
        clear H; have p536 : 0 ≤ (x61_2 : Int) := of_decide_eq_true (by first | (with_reducible assumption) | assumption)
        have q536 : x61_2 < (t532.length : Int) := of_decide_eq_true (by first | (with_reducible assumption) | assumption)
        obtain ⟨ad536, e536, hx536_0, hx536_1, hx536_2, hx536_3⟩ := at_T48 (Kd.zS HO_59.out).2.2 x61_2 p536 q536; cases e536
        replace p536 := eq_true p536; replace q536 := eq_true q536; go_wp2_with (first | ((with_reducible refine gate_dst (N := 13) rfl ?_); (try (refine gate_guard (by rfl) ?_; dsimp only)); refine box_event ?hg (N := 13) ?hd (cs := #[.int .i64 0, .int .i64 0, .int .i64 0, .int .u8 0]) (t := 48) ?hr ?_; (case hd => rfl); (case hg => rfl); (case hr => first | (go_simp; done) | (go_simp; rfl)); intro gb537 hg w65 hbox hb; have n0_ := zA.mk (Kd.zT (by (with_reducible repeat (first | apply Kd.zL | apply Kd.zM | apply Kd.zN)); exact HO_11.out) hb); have n1_ := zA.mk (Kd.zT (Kd.R_elderB (by (with_reducible repeat (first | apply Kd.zL | apply Kd.zM | apply Kd.zN)); exact HO_59.out) gb537 (Nat.le_of_eq hg.symm)) hb); have n2_ := zA.mk (Kd.zT (by (with_reducible repeat (first | apply Kd.zL | apply Kd.zM | apply Kd.zN)); exact HO_531000.out) hb); have n3_ := zA.mk (Kd.zT (by (with_reducible repeat (first | apply Kd.zL | apply Kd.zM | apply Kd.zN)); exact HO_531001.out) hb); have n4_ := zA.mk (zK (g := gb511) (o := .cells #[.int .u8 a1_0, .int .u8 a1_1, .int .u8 a1_2, .int .u16 a1_3, .int .u16 a1_4, .float .f64 a1_5] 26 (0, 0)) (by (with_reducible repeat (first | refine zC ?_ _ | refine zD ?_ | refine zB ?_ _)); exact BK511.out) hb); have n5_ := zA.mk (zK (g := gb530) (o := .cells #[.slice Ao44 t518.length co44, .slice Ao46 t521.length co46] 31 (0, 0)) (by (with_reducible repeat (first | refine zC ?_ _ | refine zD ?_ | refine zB ?_ _)); exact BK530.out) hb); have n6_ := zA.mk (zK (g := gb531) (o := .cells #[.int .i64 t524, .int .i64 t525, .int .u8 t526, .int .i64 t527, .int .i64 t528, .float .f64 t529] 35 (0, 0)) (by (with_reducible repeat (first | refine zC ?_ _ | refine zD ?_ | refine zB ?_ _)); exact BK531.out) hb); have n7_ := zA.mk (below_step (by repeat (first | (with_reducible first | exact HB.out | apply zJ | apply zF | apply zI | refine zE ?_ GE511.out | refine zE ?_ GE530.out | refine zE ?_ GE531.out) | exact HB.out)) hb); have n8_ := zA.mk (hbox); have n9_ := zA.mk ((by rw [hg]; exact (below_size (by repeat (first | (with_reducible first | exact HB.out | apply zJ | apply zF | apply zI | refine zE ?_ GE511.out | refine zE ?_ GE530.out | refine zE ?_ GE531.out) | exact HB.out))) : w.heap.size ≤ gb537)); have n10_ := zA.mk ((by rw [hg]; exact (below_size (by repeat (first | (with_reducible first | exact HB.out | apply zJ | apply zF | apply zI | refine zE ?_ GE511.out | refine zE ?_ GE530.out | refine zE ?_ GE531.out) | exact HB.out))) : w.heap.size ≤ gb537)); have n11_ := zA.mk ((by rw [hg]; exact Nat.ne_of_lt (blk_lt (g := gb511) (o := .cells #[.int .u8 a1_0, .int .u8 a1_1, .int .u8 a1_2, .int .u16 a1_3, .int .u16 a1_4, .float .f64 a1_5] 26 (0, 0)) (by (with_reducible repeat (first | refine zC ?_ _ | refine zD ?_ | refine zB ?_ _)); exact BK511.out)) : gb511 ≠ gb537)); have n12_ := zA.mk ((by rw [hg]; exact Nat.ne_of_gt (blk_lt (g := gb511) (o := .cells #[.int .u8 a1_0, .int .u8 a1_1, .int .u8 a1_2, .int .u16 a1_3, .int .u16 a1_4, .float .f64 a1_5] 26 (0, 0)) (by (with_reducible repeat (first | refine zC ?_ _ | refine zD ?_ | refine zB ?_ _)); exact BK511.out)) : gb537 ≠ gb511)); have n13_ := zA.mk ((by rw [hg]; exact Nat.ne_of_lt (blk_lt (g := gb530) (o := .cells #[.slice Ao44 t518.length co44, .slice Ao46 t521.length co46] 31 (0, 0)) (by (with_reducible repeat (first | refine zC ?_ _ | refine zD ?_ | refine zB ?_ _)); exact BK530.out)) : gb530 ≠ gb537)); have n14_ := zA.mk ((by rw [hg]; exact Nat.ne_of_gt (blk_lt (g := gb530) (o := .cells #[.slice Ao44 t518.length co44, .slice Ao46 t521.length co46] 31 (0, 0)) (by (with_reducible repeat (first | refine zC ?_ _ | refine zD ?_ | refine zB ?_ _)); exact BK530.out)) : gb537 ≠ gb530)); have n15_ := zA.mk ((by rw [hg]; exact Nat.ne_of_lt (blk_lt (g := gb531) (o := .cells #[.int .i64 t524, .int .i64 t525, .int .u8 t526, .int .i64 t527, .int .i64 t528, .float .f64 t529] 35 (0, 0)) (by (with_reducible repeat (first | refine zC ?_ _ | refine zD ?_ | refine zB ?_ _)); exact BK531.out)) : gb531 ≠ gb537)); have n16_ := zA.mk ((by rw [hg]; exact Nat.ne_of_gt (blk_lt (g := gb531) (o := .cells #[.int .i64 t524, .int .i64 t525, .int .u8 t526, .int .i64 t527, .int .i64 t528, .float .f64 t529] 35 (0, 0)) (by (with_reducible repeat (first | refine zC ?_ _ | refine zD ?_ | refine zB ?_ _)); exact BK531.out)) : gb537 ≠ gb531)); clear HO_11; clear HO_59; clear HO_531000; clear HO_531001; clear BK511; clear BK530; clear BK531; clear HB; have HO_11 := n0_; have HO_59 := n1_; have HO_531000 := n2_; have HO_531001 := n3_; have BK511 := n4_; have BK530 := n5_; have BK531 := n6_; have HB := n7_; have BK537 := n8_; have GW537 := n9_; have GE537 := n10_; have NB511_537 := n11_; have NB537_511 := n12_; have NB530_537 := n13_; have NB537_530 := n14_; have NB531_537 := n15_; have NB537_531 := n16_; clear n0_ n1_ n2_ n3_ n4_ n5_ n6_ n7_ n8_ n9_ n10_ n11_ n12_ n13_ n14_ n15_ n16_; clear hb hbox hg; have hnb66 := NB537_511.out; have hnc66 := NB511_537.out; have hnb67 := NB537_530.out; have hnc67 := NB530_537.out; have hnb68 := NB537_531.out; have hnc68 := NB531_537.out; have hcz69_0 : w65.cell? ⟨gb537, 0, none⟩ = some (.int .i64 0) := (zG BK537.out 0).trans rfl; have hcz69_1 : w65.cell? ⟨gb537, 1, none⟩ = some (.int .i64 0) := (zG BK537.out 1).trans rfl; have hcz69_2 : w65.cell? ⟨gb537, 2, none⟩ = some (.int .i64 0) := (zG BK537.out 2).trans rfl; have hcz69_3 : w65.cell? ⟨gb537, 3, none⟩ = some (.int .u8 0) := (zG BK537.out 3).trans rfl; have hfz69_0 := zH BK537.out 0; have hfz69_1 := zH BK537.out 1; have hfz69_2 := zH BK537.out 2; have hfz69_3 := zH BK537.out 3) | ((with_reducible refine gate_store (t := 48) (p := 13) rfl ?_); refine store_event (t := 48) (p := 13) (v := ?vo_w70) (w1 := ((((w65.setCell ⟨gb537, 0, none⟩ (.int .i64 ((rd_T48 t532 x61_2).f0))).setCell ⟨gb537, 1, none⟩ (.int .i64 ((rd_T48 t532 x61_2).f1))).setCell ⟨gb537, 2, none⟩ (.int .i64 ((rd_T48 t532 x61_2).f2))).setCell ⟨gb537, 3, none⟩ (.int .u8 ((rd_T48 t532 x61_2).f3)))) ?hg ?ho ?hn ?hr ?_; (case ho => rfl); (case hg => rfl); (case hn => rfl); (case hr => first | (go_simp; done) | (go_simp; rfl)); intro w70 hw; have n0_ : zA (Kd.R (Kd.int .i64) 3 w70 w.heap.size (fun _ => True) u11 x11_2) := ⟨(by rw [hw]; exact (by (with_reducible repeat (first | apply Kd.zL | apply Kd.zM | apply Kd.zN)); exact Kd.zX (Kd.zU (p := ⟨gb537, 3, none⟩) (Kd.zU (p := ⟨gb537, 2, none⟩) (Kd.zU (p := ⟨gb537, 1, none⟩) (Kd.zU (p := ⟨gb537, 0, none⟩) (Kd.zY HO_11.out BK537.out (by decide)) (fun _ hk => hk.2) (.int .i64 ((rd_T48 t532 x61_2).f0))) (fun _ hk => hk.2) (.int .i64 ((rd_T48 t532 x61_2).f1))) (fun _ hk => hk.2) (.int .i64 ((rd_T48 t532 x61_2).f2))) (fun _ hk => hk.2) (.int .u8 ((rd_T48 t532 x61_2).f3))) (fun _ hk => trivial)))⟩; have n1_ : zA (Kd.R k48 48 w70 w.heap.size (fun k_ => k_ ≠ gb537) (.slice (some ad536) t532.length co60) t532) := ⟨(by rw [hw]; exact (by (with_reducible repeat (first | apply Kd.zL | apply Kd.zM | apply Kd.zN)); exact Kd.zX (Kd.zU (p := ⟨gb537, 3, none⟩) (Kd.zU (p := ⟨gb537, 2, none⟩) (Kd.zU (p := ⟨gb537, 1, none⟩) (Kd.zU (p := ⟨gb537, 0, none⟩) (Kd.zX HO_59.out (fun k_ hk => (⟨hk, hk.2⟩ : _ ∧ k_ ≠ gb537))) (fun _ hk => hk.2) (.int .i64 ((rd_T48 t532 x61_2).f0))) (fun _ hk => hk.2) (.int .i64 ((rd_T48 t532 x61_2).f1))) (fun _ hk => hk.2) (.int .i64 ((rd_T48 t532 x61_2).f2))) (fun _ hk => hk.2) (.int .u8 ((rd_T48 t532 x61_2).f3))) (fun _ hk => hk.1.2)))⟩; have n2_ : zA (Kd.R k62 62 w70 w.heap.size (fun _ => True) (.slice Ao44 t518.length co44) t518) := ⟨(by rw [hw]; exact (by (with_reducible repeat (first | apply Kd.zL | apply Kd.zM | apply Kd.zN)); exact Kd.zX (Kd.zU (p := ⟨gb537, 3, none⟩) (Kd.zU (p := ⟨gb537, 2, none⟩) (Kd.zU (p := ⟨gb537, 1, none⟩) (Kd.zU (p := ⟨gb537, 0, none⟩) (Kd.zY HO_531000.out BK537.out (by decide)) (fun _ hk => hk.2) (.int .i64 ((rd_T48 t532 x61_2).f0))) (fun _ hk => hk.2) (.int .i64 ((rd_T48 t532 x61_2).f1))) (fun _ hk => hk.2) (.int .i64 ((rd_T48 t532 x61_2).f2))) (fun _ hk => hk.2) (.int .u8 ((rd_T48 t532 x61_2).f3))) (fun _ hk => trivial)))⟩; have n3_ : zA (Kd.R (Kd.int .u8) 46 w70 w.heap.size (fun _ => True) (.slice Ao46 t521.length co46) t521) := ⟨(by rw [hw]; exact (by (with_reducible repeat (first | apply Kd.zL | apply Kd.zM | apply Kd.zN)); exact Kd.zX (Kd.zU (p := ⟨gb537, 3, none⟩) (Kd.zU (p := ⟨gb537, 2, none⟩) (Kd.zU (p := ⟨gb537, 1, none⟩) (Kd.zU (p := ⟨gb537, 0, none⟩) (Kd.zY HO_531001.out BK537.out (by decide)) (fun _ hk => hk.2) (.int .i64 ((rd_T48 t532 x61_2).f0))) (fun _ hk => hk.2) (.int .i64 ((rd_T48 t532 x61_2).f1))) (fun _ hk => hk.2) (.int .i64 ((rd_T48 t532 x61_2).f2))) (fun _ hk => hk.2) (.int .u8 ((rd_T48 t532 x61_2).f3))) (fun _ hk => trivial)))⟩; have n4_ : zA (w70.heap[gb511]? = some (.cells #[.int .u8 a1_0, .int .u8 a1_1, .int .u8 a1_2, .int .u16 a1_3, .int .u16 a1_4, .float .f64 a1_5] 26 (0, 0))) := ⟨(by rw [hw]; exact (by (with_reducible repeat (first | refine zC ?_ _ | refine zD ?_ | refine zB ?_ _)); refine blk_far ?_ NB511_537.out _; (with_reducible repeat (first | refine zC ?_ _ | refine zD ?_ | refine zB ?_ _)); refine blk_far ?_ NB511_537.out _; (with_reducible repeat (first | refine zC ?_ _ | refine zD ?_ | refine zB ?_ _)); refine blk_far ?_ NB511_537.out _; (with_reducible repeat (first | refine zC ?_ _ | refine zD ?_ | refine zB ?_ _)); refine blk_far ?_ NB511_537.out _; (with_reducible repeat (first | refine zC ?_ _ | refine zD ?_ | refine zB ?_ _)); exact BK511.out))⟩; have n5_ : zA (w70.heap[gb530]? = some (.cells #[.slice Ao44 t518.length co44, .slice Ao46 t521.length co46] 31 (0, 0))) := ⟨(by rw [hw]; exact (by (with_reducible repeat (first | refine zC ?_ _ | refine zD ?_ | refine zB ?_ _)); refine blk_far ?_ NB530_537.out _; (with_reducible repeat (first | refine zC ?_ _ | refine zD ?_ | refine zB ?_ _)); refine blk_far ?_ NB530_537.out _; (with_reducible repeat (first | refine zC ?_ _ | refine zD ?_ | refine zB ?_ _)); refine blk_far ?_ NB530_537.out _; (with_reducible repeat (first | refine zC ?_ _ | refine zD ?_ | refine zB ?_ _)); refine blk_far ?_ NB530_537.out _; (with_reducible repeat (first | refine zC ?_ _ | refine zD ?_ | refine zB ?_ _)); exact BK530.out))⟩; have n6_ : zA (w70.heap[gb531]? = some (.cells #[.int .i64 t524, .int .i64 t525, .int .u8 t526, .int .i64 t527, .int .i64 t528, .float .f64 t529] 35 (0, 0))) := ⟨(by rw [hw]; exact (by (with_reducible repeat (first | refine zC ?_ _ | refine zD ?_ | refine zB ?_ _)); refine blk_far ?_ NB531_537.out _; (with_reducible repeat (first | refine zC ?_ _ | refine zD ?_ | refine zB ?_ _)); refine blk_far ?_ NB531_537.out _; (with_reducible repeat (first | refine zC ?_ _ | refine zD ?_ | refine zB ?_ _)); refine blk_far ?_ NB531_537.out _; (with_reducible repeat (first | refine zC ?_ _ | refine zD ?_ | refine zB ?_ _)); refine blk_far ?_ NB531_537.out _; (with_reducible repeat (first | refine zC ?_ _ | refine zD ?_ | refine zB ?_ _)); exact BK531.out))⟩; have n7_ : zA (w70.heap[gb537]? = some (.cells #[.int .i64 ((rd_T48 t532 x61_2).f0), .int .i64 ((rd_T48 t532 x61_2).f1), .int .i64 ((rd_T48 t532 x61_2).f2), .int .u8 ((rd_T48 t532 x61_2).f3)] 48 (0, 0))) := ⟨(by rw [hw]; exact (by (with_reducible repeat (first | refine zC ?_ _ | refine zD ?_ | refine zB ?_ _)); refine blk_put (cs := #[.int .i64 ((rd_T48 t532 x61_2).f0), .int .i64 ((rd_T48 t532 x61_2).f1), .int .i64 ((rd_T48 t532 x61_2).f2), .int .u8 0]) ?_ 3 _ rfl; (with_reducible repeat (first | refine zC ?_ _ | refine zD ?_ | refine zB ?_ _)); refine blk_put (cs := #[.int .i64 ((rd_T48 t532 x61_2).f0), .int .i64 ((rd_T48 t532 x61_2).f1), .int .i64 0, .int .u8 0]) ?_ 2 _ rfl; (with_reducible repeat (first | refine zC ?_ _ | refine zD ?_ | refine zB ?_ _)); refine blk_put (cs := #[.int .i64 ((rd_T48 t532 x61_2).f0), .int .i64 0, .int .i64 0, .int .u8 0]) ?_ 1 _ rfl; (with_reducible repeat (first | refine zC ?_ _ | refine zD ?_ | refine zB ?_ _)); refine blk_put (cs := #[.int .i64 0, .int .i64 0, .int .i64 0, .int .u8 0]) ?_ 0 _ rfl; (with_reducible repeat (first | refine zC ?_ _ | refine zD ?_ | refine zB ?_ _)); exact BK537.out))⟩; have n8_ : zA (Below w.heap.size w w70) := ⟨(by rw [hw]; exact (by repeat (first | (with_reducible first | exact HB.out | apply zJ | apply zF | apply zI | refine zE ?_ GE511.out | refine zE ?_ GE530.out | refine zE ?_ GE531.out | refine zE ?_ GE537.out) | exact HB.out)))⟩; clear hw; clear HO_11; clear HO_59; clear HO_531000; clear HO_531001; clear BK511; clear BK530; clear BK531; clear BK537; clear HB; have HO_11 := n0_; have HO_59 := n1_; have HO_531000 := n2_; have HO_531001 := n3_; have BK511 := n4_; have BK530 := n5_; have BK531 := n6_; have BK537 := n7_; have HB := n8_; clear n0_ n1_ n2_ n3_ n4_ n5_ n6_ n7_ n8_; have hcz71_0 : w70.cell? ⟨gb537, 0, none⟩ = some (.int .i64 ((rd_T48 t532 x61_2).f0)) := (zG BK537.out 0).trans rfl; have hcz71_1 : w70.cell? ⟨gb537, 1, none⟩ = some (.int .i64 ((rd_T48 t532 x61_2).f1)) := (zG BK537.out 1).trans rfl; have hcz71_2 : w70.cell? ⟨gb537, 2, none⟩ = some (.int .i64 ((rd_T48 t532 x61_2).f2)) := (zG BK537.out 2).trans rfl; have hcz71_3 : w70.cell? ⟨gb537, 3, none⟩ = some (.int .u8 ((rd_T48 t532 x61_2).f3)) := (zG BK537.out 3).trans rfl; have hfz71_0 := zH BK537.out 0; have hfz71_1 := zH BK537.out 1; have hfz71_2 := zH BK537.out 2; have hfz71_3 := zH BK537.out 3) | ((with_reducible refine gate_builtin (b := .append) (xs := #[.tmp 65, .tmp 68]) rfl ?_); (try (refine gate_guard (by rfl) ?_; dsimp only)); at_builtin; refine Kd.R_append (Kd.int .i64) (w0 := w) w.heap.size rfl (.tmp 65) (.tmp 68) 37 3 (.int .i64 0) 8 rfl Try.underlying37 info3 rfl (by decide) (by omega) u11 x11_2 ((rd_T48 t532 x61_2).f1) [.int .i64 ((rd_T48 t532 x61_2).f1)] (fun _ => True) (fun _ => False) rfl rfl ?aP (fun _ hk => hk.elim) ?aF ?aO ?aB ?aS ?aL ?_; (case aP => exact rfl); (case aB => exact (by repeat (first | (with_reducible first | exact HB.out | apply zJ | apply zF | apply zI | refine zE ?_ GE511.out | refine zE ?_ GE530.out | refine zE ?_ GE531.out | refine zE ?_ GE537.out) | exact HB.out))); (case aF => exact (fun _ _ => trivial)); (case aO => exact (by (with_reducible repeat (first | apply Kd.zL | apply Kd.zM | apply Kd.zN)); exact HO_11.out)); (case aS => exact (below_size (by repeat (first | (with_reducible first | exact HB.out | apply zJ | apply zF | apply zI | refine zE ?_ GE511.out | refine zE ?_ GE530.out | refine zE ?_ GE531.out | refine zE ?_ GE537.out) | exact HB.out)))); (case aL => have := LMc64.out; omega); intro v539 w72 ho hb hg hat; rw [← Ny538.out] at ho; have n0_ := zA.mk (Kd.R_over' (by (with_reducible repeat (first | apply Kd.zL | apply Kd.zM | apply Kd.zN)); exact HO_59.out) (Kd.R_typed (by (with_reducible repeat (first | apply Kd.zL | apply Kd.zM | apply Kd.zN)); exact HO_11.out)) (by decide) hg); have n1_ := zA.mk (Kd.R_over' (by (with_reducible repeat (first | apply Kd.zL | apply Kd.zM | apply Kd.zN)); exact HO_531000.out) (Kd.R_typed (by (with_reducible repeat (first | apply Kd.zL | apply Kd.zM | apply Kd.zN)); exact HO_11.out)) (by decide) hg); have n2_ := zA.mk (Kd.R_over' (by (with_reducible repeat (first | apply Kd.zL | apply Kd.zM | apply Kd.zN)); exact HO_531001.out) (Kd.R_typed (by (with_reducible repeat (first | apply Kd.zL | apply Kd.zM | apply Kd.zN)); exact HO_11.out)) (by decide) hg); have n3_ := zA.mk (blk_grown (g := gb511) (o := .cells #[.int .u8 a1_0, .int .u8 a1_1, .int .u8 a1_2, .int .u16 a1_3, .int .u16 a1_4, .float .f64 a1_5] 26 (0, 0)) (by (with_reducible repeat (first | refine zC ?_ _ | refine zD ?_ | refine zB ?_ _)); exact BK511.out) hg (Kd.R_ne HO_11.out BK511.out (by decide))); have n4_ := zA.mk (blk_grown (g := gb530) (o := .cells #[.slice Ao44 t518.length co44, .slice Ao46 t521.length co46] 31 (0, 0)) (by (with_reducible repeat (first | refine zC ?_ _ | refine zD ?_ | refine zB ?_ _)); exact BK530.out) hg (Kd.R_ne HO_11.out BK530.out (by decide))); have n5_ := zA.mk (blk_grown (g := gb531) (o := .cells #[.int .i64 t524, .int .i64 t525, .int .u8 t526, .int .i64 t527, .int .i64 t528, .float .f64 t529] 35 (0, 0)) (by (with_reducible repeat (first | refine zC ?_ _ | refine zD ?_ | refine zB ?_ _)); exact BK531.out) hg (Kd.R_ne HO_11.out BK531.out (by decide))); have n6_ := zA.mk (blk_grown (g := gb537) (o := .cells #[.int .i64 ((rd_T48 t532 x61_2).f0), .int .i64 ((rd_T48 t532 x61_2).f1), .int .i64 ((rd_T48 t532 x61_2).f2), .int .u8 ((rd_T48 t532 x61_2).f3)] 48 (0, 0)) (by (with_reducible repeat (first | refine zC ?_ _ | refine zD ?_ | refine zB ?_ _)); exact BK537.out) hg (Kd.R_ne HO_11.out BK537.out (by decide))); have n7_ := zA.mk (hb); have n8_ := zA.mk (ho); clear HO_59; clear HO_531000; clear HO_531001; clear BK511; clear BK530; clear BK531; clear BK537; clear HB; clear HO_11; have HO_59 := n0_; have HO_531000 := n1_; have HO_531001 := n2_; have BK511 := n3_; have BK530 := n4_; have BK531 := n5_; have BK537 := n6_; have HB := n7_; have HO540 := n8_; clear n0_ n1_ n2_ n3_ n4_ n5_ n6_ n7_ n8_; clear ho hb hg hat))
        go_roundg k2
        case measure => have := HK1.out; have := HK2.out; omega
        case rel => exact ⟨(y538), (wrap64 (x61_2 + 1)), (by first | rfl | (simp; done) | (simp [*]; done)), H', ⟨by have := HK1.out; have := HK2.out; omega⟩, ⟨by (with_reducible repeat (first | apply Kd.zL | apply Kd.zM | apply Kd.zN)); exact HO540.out⟩, ⟨by (with_reducible repeat (first | apply Kd.zL | apply Kd.zM | apply Kd.zN)); exact Kd.zX HO_59.out (fun _ hk => trivial)⟩, ⟨by (with_reducible repeat (first | apply Kd.zL | apply Kd.zM | apply Kd.zN)); exact HO_531000.out⟩, ⟨by (with_reducible repeat (first | apply Kd.zL | apply Kd.zM | apply Kd.zN)); exact HO_531001.out⟩, ⟨by (with_reducible repeat (first | refine zC ?_ _ | refine zD ?_ | refine zB ?_ _)); exact BK511.out⟩, ⟨by (with_reducible repeat (first | refine zC ?_ _ | refine zD ?_ | refine zB ?_ _)); exact BK530.out⟩, ⟨by (with_reducible repeat (first | refine zC ?_ _ | refine zD ?_ | refine zB ?_ _)); exact BK531.out⟩, ⟨by repeat (first | (with_reducible first | exact HB.out | apply zJ | apply zF | apply zI | refine zE ?_ GE511.out | refine zE ?_ GE530.out | refine zE ?_ GE531.out | refine zE ?_ GE537.out) | exact HB.out)⟩⟩
      rw [if_neg c61] at H; have c61b0 : decide (x61_2 < (t532.length : Int)) = false := decide_eq_false c61
      clear c61; have H' := zA.mk H
      clear H; go_wp2
      go_loopg [14, 15, 16, 17] k2 (fun kq v14 v15 v16 v17 w' => ∃ (x14_3 : Int) (x15_3 : Bool) (x16_3 : List Int) (x17_3 : Int), v14 = .int .i64 x14_3 ∧ v15 = .bool x15_3 ∧ v17 = .int .i64 x17_3 ∧ zA (l5_BestLeast.l2 kq (t518.length : Int) t535 x11_2 x14_3 x15_3 x16_3 x17_3 t518 t521 t524 t525 t526 t527 t528 t529 = some r) ∧ zA (kq ≤ k2) ∧ zA (Kd.R (Kd.int .i64) 3 w' w.heap.size (fun k_ => some k_ ≠ (v16 : Value).ownBlock) u11 x11_2) ∧ zA (Kd.R (Kd.int .i64) 3 w' w.heap.size (fun k_ => some k_ ≠ (u11 : Value).ownBlock) v16 x16_3) ∧ zA (Kd.R k62 62 w' w.heap.size (fun _ => True) (.slice Ao44 t518.length co44) t518) ∧ zA (Kd.R (Kd.int .u8) 46 w' w.heap.size (fun _ => True) (.slice Ao46 t521.length co46) t521) ∧ zA (w'.heap[gb511]? = some (.cells #[.int .u8 a1_0, .int .u8 a1_1, .int .u8 a1_2, .int .u16 a1_3, .int .u16 a1_4, .float .f64 a1_5] 26 (0, 0))) ∧ zA (w'.heap[gb530]? = some (.cells #[(.slice Ao44 t518.length co44), (.slice Ao46 t521.length co46)] 31 (0, 0))) ∧ zA (w'.heap[gb531]? = some (.cells #[.int .i64 t524, .int .i64 t525, .int .u8 t526, .int .i64 t527, .int .i64 t528, .float .f64 t529] 35 (0, 0))) ∧ zA (Below w.heap.size w w'))
      case atStart => exact ⟨(0), (false), (([] : List Int)), (0), (by first | rfl | (simp; done) | (simp [*]; done)), (by first | rfl | (simp; done) | (simp [*]; done)), (by first | rfl | (simp; done) | (simp [*]; done)), H', ⟨Nat.le_refl _⟩, ⟨by (with_reducible repeat (first | apply Kd.zL | apply Kd.zM | apply Kd.zN)); exact Kd.zX HO_11.out (fun _ hk => (by simp [Value.ownBlock]))⟩, ⟨by first | exact Kd.R_nil _ _ _ _ _ | exact Kd.N_nil _ _ _ _ _ | exact Kd.V_nil _ _ _ _ _ | exact Kd.Q_nil _ _ _ _ _ | exact Kd.S_nil _ _ _ _ _⟩, ⟨by (with_reducible repeat (first | apply Kd.zL | apply Kd.zM | apply Kd.zN)); exact HO_531000.out⟩, ⟨by (with_reducible repeat (first | apply Kd.zL | apply Kd.zM | apply Kd.zN)); exact HO_531001.out⟩, ⟨by (with_reducible repeat (first | refine zC ?_ _ | refine zD ?_ | refine zB ?_ _)); exact BK511.out⟩, ⟨by (with_reducible repeat (first | refine zC ?_ _ | refine zD ?_ | refine zB ?_ _)); exact BK530.out⟩, ⟨by (with_reducible repeat (first | refine zC ?_ _ | refine zD ?_ | refine zB ?_ _)); exact BK531.out⟩, ⟨by repeat (first | (with_reducible first | exact HB.out | apply zJ | apply zF | apply zI | refine zE ?_ GE511.out | refine zE ?_ GE530.out | refine zE ?_ GE531.out) | exact HB.out)⟩⟩
      clear H'; try clear c1
      try clear p2
      try clear c5
      try clear p5
      try clear q5
      try clear hx5
      try clear c6
      try clear p6
      try clear c12
      try clear c14
      try clear p53
      try clear q53
      try clear hx53
      try clear c54
      try clear c55
      try clear c57
      try clear c61
      try clear c61b0
      try clear c62
      try clear c62b0
      try clear c63
      try clear c63b0
      try clear c64
      try clear p64
      try clear c66
      try clear c67
      try clear c68
      try clear hcz56_0
      try clear hcz56_1
      try clear hcz58_0
      try clear hcz58_1
      try clear hcz58_2
      try clear hcz58_3
      try clear hcz58_4
      try clear hcz58_5
      try clear hcz69_0
      try clear hcz69_1
      try clear hcz69_2
      try clear hcz69_3
      try clear hcz71_0
      try clear hcz71_1
      try clear hcz71_2
      try clear hcz71_3
      try clear hfz56_0
      try clear hfz56_1
      try clear hfz58_0
      try clear hfz58_1
      try clear hfz58_2
      try clear hfz58_3
      try clear hfz58_4
      try clear hfz58_5
      try clear hfz69_0
      try clear hfz69_1
      try clear hfz69_2
      try clear hfz69_3
      try clear hfz71_0
      try clear hfz71_1
      try clear hfz71_2
      try clear hfz71_3
      try clear hx536_0
      try clear hx536_1
      try clear hx536_2
      try clear hx536_3
      try clear p2
      try clear p536
      try clear q536
      obtain ⟨x14_3, x15_3, x16_3, x17_3, rfl, rfl, rfl, HA, HK3, HO_11, HO_16, HO_531000, HO_531001, BK511, BK530, BK531, HB⟩ := hrel; cases gk with
      | zero => exact absurd HA.out (by simp [l5_BestLeast.l2])
      | succ k3 =>
        have H := HA.out; clear HA; simp only [l5_BestLeast.l2] at H; obtain ⟨ji73, hji73⟩ : ∃ j_ : Int, (wrap64 ((t518.length : Int) - 1)) = j_ := ⟨_, rfl⟩; replace H : (if 0 ≤ (ji73) then (if x17_3 < (shl .i64 1 (ji73)) then (l5_BestLeast.l3 k3 (t518.length : Int) t535 x11_2 x14_3 x15_3 x16_3 x17_3 ([] : List Int) 1 t518 t521 t524 t525 t526 t527 t528 t529) else (if (t535 != x15_3) = true then (l5_BestLeast.j4 k3 x11_2 x16_3 true) else (l5_BestLeast.j4 k3 x11_2 x16_3 ((x11_2.length : Int) != (x16_3.length : Int))))) else (none)) = some r := by first | (rw [hji73] at H; exact H) | (simp only [hji73] at H ⊢; exact H)
        have hji73w : (IntKind.i64.wrap ((t518.length : Int) - 1)) = ji73 := (i64_w _).trans hji73
        by_cases c74 : 0 ≤ (ji73)
        rotate_left
        · rw [if_neg c74] at H
          exact absurd H (by simp)
        rw [if_pos c74] at H; have c74b0 := eq_true c74; have c74b1 : decide (0 ≤ (ji73)) = true := decide_eq_true c74
        clear c74; obtain ⟨ji75, hji75⟩ : ∃ j_ : Int, (shl .i64 1 (ji73)) = j_ := ⟨_, rfl⟩; replace H : (if x17_3 < (ji75) then (l5_BestLeast.l3 k3 (t518.length : Int) t535 x11_2 x14_3 x15_3 x16_3 x17_3 ([] : List Int) 1 t518 t521 t524 t525 t526 t527 t528 t529) else (if (t535 != x15_3) = true then (l5_BestLeast.j4 k3 x11_2 x16_3 true) else (l5_BestLeast.j4 k3 x11_2 x16_3 ((x11_2.length : Int) != (x16_3.length : Int))))) = some r := by first | (rw [hji75] at H; exact H) | (simp only [hji75] at H ⊢; exact H)
        have hji75_ : (IntKind.i64.wrap (1 * 2 ^ min (ji73).toNat 64)) = ji75 := hji75
        have hji75z : (ji73) ≤ 64 → (IntKind.i64.wrap (1 * 2 ^ (ji73).toNat)) = ji75 := shl_small hji75
        have hji75u : (IntKind.i64.wrap (2 ^ min (ji73).toNat 64)) = ji75 := by have h_ := hji75_; rw [Int.one_mul] at h_; exact h_
        have hji75v : (ji73) ≤ 64 → (IntKind.i64.wrap (2 ^ (ji73).toNat)) = ji75 := fun hle_ => by have h_ := hji75z hle_; rw [Int.one_mul] at h_; exact h_
        have hji75y : (wrap64 (1 * 2 ^ min (ji73).toNat 64)) = ji75 := (i64_w _).symm.trans hji75_
        have hji75x : (ji73) ≤ 64 → (wrap64 (1 * 2 ^ (ji73).toNat)) = ji75 := fun h_ => (i64_w _).symm.trans (hji75z h_)
        by_cases c76 : x17_3 < (ji75)
        rotate_left
        · rw [if_neg c76] at H
          have c76b0 : decide (x17_3 < (ji75)) = false := decide_eq_false c76
          clear c76; have HC142 := zA.mk H; clear H; go_upto_region 36 with (fail)
          go_cut [135] (fun v135 wc => ∃ (kq : Nat) (x135_141 : Bool), v135 = .bool x135_141 ∧ zA (l5_BestLeast.j4 kq x11_2 x16_3 x135_141 = some r) ∧ zA (kq ≤ k3) ∧ zA (Kd.R (Kd.int .i64) 3 wc w.heap.size (fun k_ => some k_ ≠ (u16 : Value).ownBlock) u11 x11_2) ∧ zA (Kd.R (Kd.int .i64) 3 wc w.heap.size (fun k_ => some k_ ≠ (u11 : Value).ownBlock) u16 x16_3) ∧ zA (Kd.R k62 62 wc w.heap.size (fun _ => True) (.slice Ao44 t518.length co44) t518) ∧ zA (Kd.R (Kd.int .u8) 46 wc w.heap.size (fun _ => True) (.slice Ao46 t521.length co46) t521) ∧ zA (wc.heap[gb511]? = some (.cells #[.int .u8 a1_0, .int .u8 a1_1, .int .u8 a1_2, .int .u16 a1_3, .int .u16 a1_4, .float .f64 a1_5] 26 (0, 0))) ∧ zA (wc.heap[gb530]? = some (.cells #[(.slice Ao44 t518.length co44), (.slice Ao46 t521.length co46)] 31 (0, 0))) ∧ zA (wc.heap[gb531]? = some (.cells #[.int .i64 t524, .int .i64 t525, .int .u8 t526, .int .i64 t527, .int .i64 t528, .float .f64 t529] 35 (0, 0))) ∧ zA (Below w.heap.size w wc))
          case first =>
            have H := HC142.out; clear HC142; by_cases c143 : (t535 != x15_3) = true
            · rw [if_pos c143] at H
              have c143b0 : (t535 != x15_3) = true := c143
              (try (have c143b1 : decide (t535 = x15_3) = false := by simpa using c143))
              (try (have c143b2 : (t535 == x15_3) = false := by simpa using c143))
              (try (have c143b3 : ¬ (t535 = x15_3) := by simpa using c143))
              clear c143; (first | rw [c143b0] | (simp only [i64_w, i32_w]; rw [c143b0]) | skip)
              have H' := zA.mk H
              clear H; go_wp2
              go_meet
              case rel => exact ⟨_, (true), (by first | rfl | (simp; done) | (simp [*]; done)), H', ⟨by have := HK1.out; have := HK2.out; have := HK3.out; first | omega | exact Nat.le_refl _⟩, ⟨by (with_reducible repeat (first | apply Kd.zL | apply Kd.zM | apply Kd.zN)); exact HO_11.out⟩, ⟨by (with_reducible repeat (first | apply Kd.zL | apply Kd.zM | apply Kd.zN)); exact HO_16.out⟩, ⟨by (with_reducible repeat (first | apply Kd.zL | apply Kd.zM | apply Kd.zN)); exact HO_531000.out⟩, ⟨by (with_reducible repeat (first | apply Kd.zL | apply Kd.zM | apply Kd.zN)); exact HO_531001.out⟩, ⟨by (with_reducible repeat (first | refine zC ?_ _ | refine zD ?_ | refine zB ?_ _)); exact BK511.out⟩, ⟨by (with_reducible repeat (first | refine zC ?_ _ | refine zD ?_ | refine zB ?_ _)); exact BK530.out⟩, ⟨by (with_reducible repeat (first | refine zC ?_ _ | refine zD ?_ | refine zB ?_ _)); exact BK531.out⟩, ⟨by repeat (first | (with_reducible first | exact HB.out | apply zJ | apply zF | apply zI | refine zE ?_ GE511.out | refine zE ?_ GE530.out | refine zE ?_ GE531.out) | exact HB.out)⟩⟩
            rw [if_neg c143] at H; have c143b0 : (t535 != x15_3) = false := by simpa using c143
            (try (have c143b1 : decide (t535 = x15_3) = true := by simpa using c143))
            (try (have c143b2 : (t535 == x15_3) = true := by simpa using c143))
            clear c143; (first | rw [c143b0] | (simp only [i64_w, i32_w]; rw [c143b0]) | skip)
            have H' := zA.mk H
            clear H; obtain ⟨Ao144, co144, eo144⟩ := Kd.zV HO_11.out; subst eo144; obtain ⟨Ao145, co145, eo145⟩ := Kd.zV HO_16.out; subst eo145; go_wp2
            go_meet
            case rel => exact ⟨_, (((x11_2.length : Int) != (x16_3.length : Int))), (by first | rfl | (simp; done) | (simp [*]; done)), H', ⟨by have := HK1.out; have := HK2.out; have := HK3.out; first | omega | exact Nat.le_refl _⟩, ⟨by (with_reducible repeat (first | apply Kd.zL | apply Kd.zM | apply Kd.zN)); exact HO_11.out⟩, ⟨by (with_reducible repeat (first | apply Kd.zL | apply Kd.zM | apply Kd.zN)); exact HO_16.out⟩, ⟨by (with_reducible repeat (first | apply Kd.zL | apply Kd.zM | apply Kd.zN)); exact HO_531000.out⟩, ⟨by (with_reducible repeat (first | apply Kd.zL | apply Kd.zM | apply Kd.zN)); exact HO_531001.out⟩, ⟨by (with_reducible repeat (first | refine zC ?_ _ | refine zD ?_ | refine zB ?_ _)); exact BK511.out⟩, ⟨by (with_reducible repeat (first | refine zC ?_ _ | refine zD ?_ | refine zB ?_ _)); exact BK530.out⟩, ⟨by (with_reducible repeat (first | refine zC ?_ _ | refine zD ?_ | refine zB ?_ _)); exact BK531.out⟩, ⟨by repeat (first | (with_reducible first | exact HB.out | apply zJ | apply zF | apply zI | refine zE ?_ GE511.out | refine zE ?_ GE530.out | refine zE ?_ GE531.out) | exact HB.out)⟩⟩
          clear HC142; try clear c1
          try clear c2
          try clear p2
          try clear c5
          try clear p5
          try clear q5
          try clear hx5
          try clear c6
          try clear p6
          try clear c7
          try clear c8
          try clear c9
          try clear c10
          try clear c11
          try clear c12
          try clear c13
          try clear c14
          try clear c21
          try clear p53
          try clear q53
          try clear hx53
          try clear c54
          try clear c55
          try clear c57
          try clear c61
          try clear c61b0
          try clear c62
          try clear c62b0
          try clear c63
          try clear c63b0
          try clear c64
          try clear p64
          try clear c66
          try clear c67
          try clear c68
          try clear c74
          try clear c74b0
          try clear c74b1
          try clear c76
          try clear c76b0
          try clear c77
          try clear c77b0
          try clear c79
          try clear c79b0
          try clear c79b1
          try clear c81
          try clear c81b0
          try clear c81b1
          try clear c82
          try clear c84
          try clear c86
          try clear c87
          try clear c88
          try clear c88b0
          try clear c90
          try clear c91
          try clear c93
          try clear c97
          try clear c97b0
          try clear c97b1
          try clear c99
          try clear c101
          try clear c102
          try clear c104
          try clear c110
          try clear c111
          try clear c113
          try clear c119
          try clear c120
          try clear c122
          try clear c127
          try clear c128
          try clear c130
          try clear c135
          try clear c136
          try clear c138
          try clear c143
          try clear c143b0
          try clear c143b1
          try clear c143b2
          try clear hcz103_0
          try clear hcz103_1
          try clear hcz105_0
          try clear hcz105_1
          try clear hcz105_2
          try clear hcz105_3
          try clear hcz105_4
          try clear hcz105_5
          try clear hcz112_0
          try clear hcz112_1
          try clear hcz114_0
          try clear hcz114_1
          try clear hcz114_2
          try clear hcz114_3
          try clear hcz114_4
          try clear hcz114_5
          try clear hcz121_0
          try clear hcz121_1
          try clear hcz123_0
          try clear hcz123_1
          try clear hcz123_2
          try clear hcz123_3
          try clear hcz123_4
          try clear hcz123_5
          try clear hcz129_0
          try clear hcz129_1
          try clear hcz131_0
          try clear hcz131_1
          try clear hcz131_2
          try clear hcz131_3
          try clear hcz131_4
          try clear hcz131_5
          try clear hcz137_0
          try clear hcz137_1
          try clear hcz139_0
          try clear hcz139_1
          try clear hcz139_2
          try clear hcz139_3
          try clear hcz139_4
          try clear hcz139_5
          try clear hcz56_0
          try clear hcz56_1
          try clear hcz58_0
          try clear hcz58_1
          try clear hcz58_2
          try clear hcz58_3
          try clear hcz58_4
          try clear hcz58_5
          try clear hcz69_0
          try clear hcz69_1
          try clear hcz69_2
          try clear hcz69_3
          try clear hcz71_0
          try clear hcz71_1
          try clear hcz71_2
          try clear hcz71_3
          try clear hcz92_0
          try clear hcz92_1
          try clear hcz94_0
          try clear hcz94_1
          try clear hcz94_2
          try clear hcz94_3
          try clear hcz94_4
          try clear hcz94_5
          try clear hfz103_0
          try clear hfz103_1
          try clear hfz105_0
          try clear hfz105_1
          try clear hfz105_2
          try clear hfz105_3
          try clear hfz105_4
          try clear hfz105_5
          try clear hfz112_0
          try clear hfz112_1
          try clear hfz114_0
          try clear hfz114_1
          try clear hfz114_2
          try clear hfz114_3
          try clear hfz114_4
          try clear hfz114_5
          try clear hfz121_0
          try clear hfz121_1
          try clear hfz123_0
          try clear hfz123_1
          try clear hfz123_2
          try clear hfz123_3
          try clear hfz123_4
          try clear hfz123_5
          try clear hfz129_0
          try clear hfz129_1
          try clear hfz131_0
          try clear hfz131_1
          try clear hfz131_2
          try clear hfz131_3
          try clear hfz131_4
          try clear hfz131_5
          try clear hfz137_0
          try clear hfz137_1
          try clear hfz139_0
          try clear hfz139_1
          try clear hfz139_2
          try clear hfz139_3
          try clear hfz139_4
          try clear hfz139_5
          try clear hfz56_0
          try clear hfz56_1
          try clear hfz58_0
          try clear hfz58_1
          try clear hfz58_2
          try clear hfz58_3
          try clear hfz58_4
          try clear hfz58_5
          try clear hfz69_0
          try clear hfz69_1
          try clear hfz69_2
          try clear hfz69_3
          try clear hfz71_0
          try clear hfz71_1
          try clear hfz71_2
          try clear hfz71_3
          try clear hfz92_0
          try clear hfz92_1
          try clear hfz94_0
          try clear hfz94_1
          try clear hfz94_2
          try clear hfz94_3
          try clear hfz94_4
          try clear hfz94_5
          try clear hx536_0
          try clear hx536_1
          try clear hx536_2
          try clear hx536_3
          try clear p2
          try clear p5
          try clear p53
          try clear p536
          try clear p6
          try clear p64
          try clear q5
          try clear q53
          try clear q536
          obtain ⟨kq, x135_141, rfl, HA, HJ141, HO_11, HO_16, HO_531000, HO_531001, BK511, BK530, BK531, HB⟩ := hcut; cases kq with
          | zero => exact absurd HA.out (by simp [l5_BestLeast.j4])
          | succ kj141 =>
            have H := HA.out; clear HA; simp only [l5_BestLeast.j4] at H; by_cases c146 : x135_141 = true
            · subst c146
              have H1 : (some false) = some r := by rw [if_pos rfl] at H; exact H
              clear H; have H := H1; clear H1; exact absurd ((Option.some.inj H).trans hrt_.out) (by decide)
            replace c146 := Bool.eq_false_iff.mpr c146; subst c146; have H1 : (l5_BestLeast.l4 kj141 x11_2 x16_3 (x11_2.length : Int) 0) = some r := by rw [if_neg (show ¬ (false = true) by decide)] at H; exact H
            clear H; have H := H1; clear H1; have H' := zA.mk H
            clear H; obtain ⟨Ao147, co147, eo147⟩ := Kd.zV HO_11.out; subst eo147; go_wp2
            go_loopg [138] kj141 (fun kq v138 w' => ∃ (x138_5 : Int), v138 = .int .i64 x138_5 ∧ zA (l5_BestLeast.l4 kq x11_2 x16_3 (x11_2.length : Int) x138_5 = some r) ∧ zA (kq ≤ kj141) ∧ zA (Kd.R (Kd.int .i64) 3 w' w.heap.size (fun k_ => some k_ ≠ (u16 : Value).ownBlock) (.slice Ao147 x11_2.length co147) x11_2) ∧ zA (Kd.R (Kd.int .i64) 3 w' w.heap.size (fun k_ => some k_ ≠ ((.slice Ao147 x11_2.length co147) : Value).ownBlock) u16 x16_3) ∧ zA (Kd.R k62 62 w' w.heap.size (fun _ => True) (.slice Ao44 t518.length co44) t518) ∧ zA (Kd.R (Kd.int .u8) 46 w' w.heap.size (fun _ => True) (.slice Ao46 t521.length co46) t521) ∧ zA (w'.heap[gb511]? = some (.cells #[.int .u8 a1_0, .int .u8 a1_1, .int .u8 a1_2, .int .u16 a1_3, .int .u16 a1_4, .float .f64 a1_5] 26 (0, 0))) ∧ zA (w'.heap[gb530]? = some (.cells #[(.slice Ao44 t518.length co44), (.slice Ao46 t521.length co46)] 31 (0, 0))) ∧ zA (w'.heap[gb531]? = some (.cells #[.int .i64 t524, .int .i64 t525, .int .u8 t526, .int .i64 t527, .int .i64 t528, .float .f64 t529] 35 (0, 0))) ∧ zA (Below w.heap.size w w'))
            case atStart => exact ⟨(0), (by first | rfl | (simp; done) | (simp [*]; done)), H', ⟨Nat.le_refl _⟩, ⟨by (with_reducible repeat (first | apply Kd.zL | apply Kd.zM | apply Kd.zN)); exact HO_11.out⟩, ⟨by (with_reducible repeat (first | apply Kd.zL | apply Kd.zM | apply Kd.zN)); exact HO_16.out⟩, ⟨by (with_reducible repeat (first | apply Kd.zL | apply Kd.zM | apply Kd.zN)); exact HO_531000.out⟩, ⟨by (with_reducible repeat (first | apply Kd.zL | apply Kd.zM | apply Kd.zN)); exact HO_531001.out⟩, ⟨by (with_reducible repeat (first | refine zC ?_ _ | refine zD ?_ | refine zB ?_ _)); exact BK511.out⟩, ⟨by (with_reducible repeat (first | refine zC ?_ _ | refine zD ?_ | refine zB ?_ _)); exact BK530.out⟩, ⟨by (with_reducible repeat (first | refine zC ?_ _ | refine zD ?_ | refine zB ?_ _)); exact BK531.out⟩, ⟨by repeat (first | (with_reducible first | exact HB.out | apply zJ | apply zF | apply zI | refine zE ?_ GE511.out | refine zE ?_ GE530.out | refine zE ?_ GE531.out) | exact HB.out)⟩⟩
            clear H'; try clear c1
            try clear c2
            try clear p2
            try clear c5
            try clear p5
            try clear q5
            try clear hx5
            try clear c6
            try clear p6
            try clear c7
            try clear c8
            try clear c9
            try clear c10
            try clear c11
            try clear c12
            try clear c13
            try clear c14
            try clear c21
            try clear p53
            try clear q53
            try clear hx53
            try clear c54
            try clear c55
            try clear c57
            try clear c61
            try clear c61b0
            try clear c62
            try clear c62b0
            try clear c63
            try clear c63b0
            try clear c64
            try clear p64
            try clear c66
            try clear c67
            try clear c68
            try clear c74
            try clear c74b0
            try clear c74b1
            try clear c76
            try clear c76b0
            try clear c77
            try clear c77b0
            try clear c79
            try clear c79b0
            try clear c79b1
            try clear c81
            try clear c81b0
            try clear c81b1
            try clear c82
            try clear c84
            try clear c86
            try clear c87
            try clear c88
            try clear c88b0
            try clear c90
            try clear c91
            try clear c93
            try clear c97
            try clear c97b0
            try clear c97b1
            try clear c99
            try clear c101
            try clear c102
            try clear c104
            try clear c110
            try clear c111
            try clear c113
            try clear c119
            try clear c120
            try clear c122
            try clear c127
            try clear c128
            try clear c130
            try clear c135
            try clear c136
            try clear c138
            try clear c143
            try clear c143b0
            try clear c143b1
            try clear c143b2
            try clear c146
            try clear hcz103_0
            try clear hcz103_1
            try clear hcz105_0
            try clear hcz105_1
            try clear hcz105_2
            try clear hcz105_3
            try clear hcz105_4
            try clear hcz105_5
            try clear hcz112_0
            try clear hcz112_1
            try clear hcz114_0
            try clear hcz114_1
            try clear hcz114_2
            try clear hcz114_3
            try clear hcz114_4
            try clear hcz114_5
            try clear hcz121_0
            try clear hcz121_1
            try clear hcz123_0
            try clear hcz123_1
            try clear hcz123_2
            try clear hcz123_3
            try clear hcz123_4
            try clear hcz123_5
            try clear hcz129_0
            try clear hcz129_1
            try clear hcz131_0
            try clear hcz131_1
            try clear hcz131_2
            try clear hcz131_3
            try clear hcz131_4
            try clear hcz131_5
            try clear hcz137_0
            try clear hcz137_1
            try clear hcz139_0
            try clear hcz139_1
            try clear hcz139_2
            try clear hcz139_3
            try clear hcz139_4
            try clear hcz139_5
            try clear hcz56_0
            try clear hcz56_1
            try clear hcz58_0
            try clear hcz58_1
            try clear hcz58_2
            try clear hcz58_3
            try clear hcz58_4
            try clear hcz58_5
            try clear hcz69_0
            try clear hcz69_1
            try clear hcz69_2
            try clear hcz69_3
            try clear hcz71_0
            try clear hcz71_1
            try clear hcz71_2
            try clear hcz71_3
            try clear hcz92_0
            try clear hcz92_1
            try clear hcz94_0
            try clear hcz94_1
            try clear hcz94_2
            try clear hcz94_3
            try clear hcz94_4
            try clear hcz94_5
            try clear hfz103_0
            try clear hfz103_1
            try clear hfz105_0
            try clear hfz105_1
            try clear hfz105_2
            try clear hfz105_3
            try clear hfz105_4
            try clear hfz105_5
            try clear hfz112_0
            try clear hfz112_1
            try clear hfz114_0
            try clear hfz114_1
            try clear hfz114_2
            try clear hfz114_3
            try clear hfz114_4
            try clear hfz114_5
            try clear hfz121_0
            try clear hfz121_1
            try clear hfz123_0
            try clear hfz123_1
            try clear hfz123_2
            try clear hfz123_3
            try clear hfz123_4
            try clear hfz123_5
            try clear hfz129_0
            try clear hfz129_1
            try clear hfz131_0
            try clear hfz131_1
            try clear hfz131_2
            try clear hfz131_3
            try clear hfz131_4
            try clear hfz131_5
            try clear hfz137_0
            try clear hfz137_1
            try clear hfz139_0
            try clear hfz139_1
            try clear hfz139_2
            try clear hfz139_3
            try clear hfz139_4
            try clear hfz139_5
            try clear hfz56_0
            try clear hfz56_1
            try clear hfz58_0
            try clear hfz58_1
            try clear hfz58_2
            try clear hfz58_3
            try clear hfz58_4
            try clear hfz58_5
            try clear hfz69_0
            try clear hfz69_1
            try clear hfz69_2
            try clear hfz69_3
            try clear hfz71_0
            try clear hfz71_1
            try clear hfz71_2
            try clear hfz71_3
            try clear hfz92_0
            try clear hfz92_1
            try clear hfz94_0
            try clear hfz94_1
            try clear hfz94_2
            try clear hfz94_3
            try clear hfz94_4
            try clear hfz94_5
            try clear hx536_0
            try clear hx536_1
            try clear hx536_2
            try clear hx536_3
            try clear p2
            try clear p5
            try clear p53
            try clear p536
            try clear p6
            try clear p64
            try clear q5
            try clear q53
            try clear q536
            obtain ⟨x138_5, rfl, HA, HK5, HO_11, HO_16, HO_531000, HO_531001, BK511, BK530, BK531, HB⟩ := hrel; cases gk with
            | zero => exact absurd HA.out (by simp [l5_BestLeast.l4])
            | succ k5 =>
              have H := HA.out; clear HA; simp only [l5_BestLeast.l4] at H; by_cases c148 : x138_5 < (x11_2.length : Int)
              rotate_left
              · rw [if_neg c148] at H
                have c148b0 : decide (x138_5 < (x11_2.length : Int)) = false := decide_eq_false c148
                clear c148; obtain rfl := Option.some.inj H
                go_wp2
                go_ret
                exact ⟨by first | rfl | (simp [errW_none, errW_some] <;> rfl) | (simp only [← hji5, ← hji73, ← hji75]; first | rfl | (simp [errW_none, errW_some] <;> rfl)) | (simp [*, errW_none, errW_some] <;> rfl), by repeat (first | (with_reducible first | exact HB.out | apply zJ | apply zF | apply zI | refine zE ?_ GE511.out | refine zE ?_ GE530.out | refine zE ?_ GE531.out) | exact HB.out)⟩
              rw [if_pos c148] at H; have c148b0 : decide (x138_5 < (x11_2.length : Int)) = true := decide_eq_true c148
              clear c148; by_cases c149 : 0 ≤ x138_5
              rotate_left
              · rw [if_neg c149] at H
                exact absurd H (by simp)
              rw [if_pos c149] at H; have c149b0 : decide (0 ≤ x138_5) = true := decide_eq_true c149
              clear c149; by_cases c150 : x138_5 < (x11_2.length : Int)
              rotate_left
              · rw [if_neg c150] at H
                exact absurd H (by simp)
              rw [if_pos c150] at H; have c150b0 : decide (x138_5 < (x11_2.length : Int)) = true := decide_eq_true c150
              clear c150; by_cases c151 : x138_5 < (x16_3.length : Int)
              rotate_left
              · rw [if_neg c151] at H
                exact absurd H (by simp)
              rw [if_pos c151] at H; have c151b0 : decide (x138_5 < (x16_3.length : Int)) = true := decide_eq_true c151
              clear c151; by_cases c152 : (rd x11_2 x138_5) = (rd x16_3 x138_5)
              rotate_left
              · rw [if_neg c152] at H
                have c152b0 : ((rd x11_2 x138_5) == (rd x16_3 x138_5)) = false := beq_eq_false_iff_ne.mpr c152
                have c152b1 : ((rd x11_2 x138_5) != (rd x16_3 x138_5)) = true := bne_iff_ne.mpr c152
                exact absurd ((Option.some.inj H).trans hrt_.out) (by decide)
              rw [if_pos c152] at H; have c152b0 : ((rd x11_2 x138_5) == (rd x16_3 x138_5)) = true := beq_iff_eq.mpr c152
              have c152b1 : ((rd x11_2 x138_5) != (rd x16_3 x138_5)) = false := bne_eq_false_iff_eq.mpr c152
              clear c152; have H' := zA.mk H
              clear H; try go_wp2
              have n0_ := zA.mk (Kd.zN HO_11.out); have n1_ := zA.mk (Kd.zN HO_16.out); have n2_ := zA.mk (Kd.zN HO_531000.out); have n3_ := zA.mk (Kd.zN HO_531001.out); have n4_ := zA.mk (zD BK511.out); have n5_ := zA.mk (zD BK530.out); have n6_ := zA.mk (zD BK531.out); have n7_ := zA.mk (zI HB.out); clear HO_11; clear HO_16; clear HO_531000; clear HO_531001; clear BK511; clear BK530; clear BK531; clear HB; have HO_11 := n0_; have HO_16 := n1_; have HO_531000 := n2_; have HO_531001 := n3_; have BK511 := n4_; have BK530 := n5_; have BK531 := n6_; have HB := n7_; clear n0_ n1_ n2_ n3_ n4_ n5_ n6_ n7_; have p550 : 0 ≤ (x138_5 : Int) := of_decide_eq_true (by first | (with_reducible assumption) | assumption)
              have q550 : x138_5 < (x11_2.length : Int) := of_decide_eq_true (by first | (with_reducible assumption) | assumption)
              obtain ⟨ad550, e550, hx550_0⟩ := Kd.at_int (Kd.zS HO_11.out).2.2 x138_5 p550 q550; cases e550
              replace p550 := eq_true p550; replace q550 := eq_true q550; obtain ⟨Ao154, co154, eo154⟩ := Kd.zV HO_16.out; (first | subst eo154 | (injection eo154 with f1_ f2_ f3_; have f4_ := f1_.symm; have f5_ := f3_.symm; clear f1_ f2_ f3_; subst f4_; subst f5_))
              have p551 : 0 ≤ (x138_5 : Int) := of_decide_eq_true (by first | (with_reducible assumption) | assumption)
              have q551 : x138_5 < (x16_3.length : Int) := of_decide_eq_true (by first | (with_reducible assumption) | assumption)
              obtain ⟨ad551, e551, hx551_0⟩ := Kd.at_int (Kd.zS HO_16.out).2.2 x138_5 p551 q551; cases e551
              replace p551 := eq_true p551; replace q551 := eq_true q551; refine start_ (n := 9) (S := fun w' => w'.cell? (ad550.add (x138_5).toNat) = some (.int .i64 (rd x11_2 x138_5)) ∧ w'.cell? (ad551.add (x138_5).toNat) = some (.int .i64 (rd x16_3 x138_5))) (ds := []) #[false, false, false, false, false, false, false, false, false] (by kernel_rfl) rfl rfl ⟨hx550_0, hx551_0⟩ (fun hHeld => ?_); refine with_tabW l5_BestLeast.tab41 l5_BestLeast.bits41 (fun HT_ HW_ => ?_)
              generalize wr.drew = w153 at HO_11 HO_16 HO_531000 HO_531001 BK511 BK530 BK531 HB hx550_0 hx551_0 hHeld ⊢
              refine pure_ (i := 0) (N := some 141) (v := ?_) (a' := ?_) (tf_ 1 9) rfl rfl (any_of HT_.out (by kernel_rfl)) (fun _ _ _ h => h) (Or.inl ⟨by rfl, ?_⟩) ?_ ?_
              rotate_left
              · intro w'
                go_simp
                with_reducible rfl
              rotate_left
              · simp only [Act.put, sA_, sB_, sC_, i64_w, i32_w]
                rfl
              refine pure_ (i := 1) (N := some 142) (v := ?_) (a' := ?_) (tf_ 2 9) rfl rfl (any_of HT_.out (by kernel_rfl)) (fun _ _ _ h => h) (Or.inl ⟨by rfl, ?_⟩) ?_ ?_
              rotate_left
              · intro w'
                go_simp
                with_reducible rfl
              rotate_left
              · simp only [Act.put, sA_, sB_, sC_, i64_w, i32_w]
                rfl
              refine pure_ (i := 2) (N := some 143) (v := ?_) (a' := ?_) (tf_ 3 9) rfl rfl (any_of HT_.out (by kernel_rfl)) (fun _ _ _ h => h) (Or.inl ⟨by rfl, ?_⟩) ?_ ?_
              rotate_left
              · intro w'
                go_simp
                with_reducible rfl
              rotate_left
              · simp only [Act.put, sA_, sB_, sC_, i64_w, i32_w]
                rfl
              refine pure_ (i := 4) (N := some 145) (v := ?_) (a' := ?_) #[true, true, true, false, true, false, false, false, false] rfl rfl (any_of HT_.out (by kernel_rfl)) (fun _ _ _ h => h) (Or.inl ⟨by rfl, ?_⟩) ?_ ?_
              rotate_left
              · intro w'
                go_simp
                with_reducible rfl
              rotate_left
              · simp only [Act.put, sA_, sB_, sC_, i64_w, i32_w]
                rfl
              refine pure_ (i := 5) (N := some 146) (v := ?_) (a' := ?_) #[true, true, true, false, true, true, false, false, false] rfl rfl (any_of HT_.out (by kernel_rfl)) (fun _ _ _ h => h) (Or.inl ⟨by rfl, ?_⟩) ?_ ?_
              rotate_left
              · intro w'
                go_simp
                with_reducible rfl
              rotate_left
              · simp only [Act.put, sA_, sB_, sC_, i64_w, i32_w]
                rfl
              refine pure_ (i := 6) (N := some 147) (v := ?_) (a' := ?_) #[true, true, true, false, true, true, true, false, false] rfl rfl (any_of HT_.out (by kernel_rfl)) (fun _ _ _ h => h) (Or.inl ⟨by rfl, ?_⟩) ?_ ?_
              rotate_left
              · intro w'
                go_simp
                with_reducible rfl
              rotate_left
              · simp only [Act.put, sA_, sB_, sC_, i64_w, i32_w]
                rfl
              refine take_ (i := 3) (N := some 144) (v := ?_) (a' := ?_) (tf_ 7 9) rfl rfl (take_ofW HT_.out HW_.out (by kernel_rfl)) (fun _ _ _ h => h) (Or.inl ⟨by rfl, ?_⟩) hHeld ?_ ?_
              rotate_left
              · rintro w' ⟨s0, s1⟩
                go_simp
                with_reducible rfl
              rotate_left
              · simp only [Act.put, sA_, sB_, sC_, i64_w, i32_w]
                rfl
              refine take_ (i := 7) (N := some 148) (v := ?_) (a' := ?_) (tf_ 8 9) rfl rfl (take_ofW HT_.out HW_.out (by kernel_rfl)) (fun _ _ _ h => h) (Or.inl ⟨by rfl, ?_⟩) hHeld ?_ ?_
              rotate_left
              · rintro w' ⟨s0, s1⟩
                go_simp
                with_reducible rfl
              rotate_left
              · simp only [Act.put, sA_, sB_, sC_, i64_w, i32_w]
                rfl
              refine pure_ (i := 8) (N := some 149) (v := ?_) (a' := ?_) #[true, true, true, true, true, true, true, true, true] rfl rfl (any_of HT_.out (by kernel_rfl)) (fun _ _ _ h => h) (Or.inl ⟨by rfl, ?_⟩) ?_ ?_
              rotate_left
              · intro w'
                go_simp
                with_reducible rfl
              rotate_left
              · simp only [Act.put, sA_, sB_, sC_, i64_w, i32_w]
                rfl
              refine done_ (done_of HT_.out (by kernel_rfl)) ?_
              try go_wp2
              go_roundg k5
              case measure => have := HK1.out; have := HK2.out; have := HK3.out; have := HJ141.out; have := HK5.out; omega
              case rel => exact ⟨(wrap64 (x138_5 + 1)), (by first | rfl | (simp; done) | (simp [*]; done)), H', ⟨by have := HK1.out; have := HK2.out; have := HK3.out; have := HJ141.out; have := HK5.out; omega⟩, ⟨by (with_reducible repeat (first | apply Kd.zL | apply Kd.zM | apply Kd.zN)); exact HO_11.out⟩, ⟨by (with_reducible repeat (first | apply Kd.zL | apply Kd.zM | apply Kd.zN)); exact HO_16.out⟩, ⟨by (with_reducible repeat (first | apply Kd.zL | apply Kd.zM | apply Kd.zN)); exact HO_531000.out⟩, ⟨by (with_reducible repeat (first | apply Kd.zL | apply Kd.zM | apply Kd.zN)); exact HO_531001.out⟩, ⟨by (with_reducible repeat (first | refine zC ?_ _ | refine zD ?_ | refine zB ?_ _)); exact BK511.out⟩, ⟨by (with_reducible repeat (first | refine zC ?_ _ | refine zD ?_ | refine zB ?_ _)); exact BK530.out⟩, ⟨by (with_reducible repeat (first | refine zC ?_ _ | refine zD ?_ | refine zB ?_ _)); exact BK531.out⟩, ⟨by repeat (first | (with_reducible first | exact HB.out | apply zJ | apply zF | apply zI | refine zE ?_ GE511.out | refine zE ?_ GE530.out | refine zE ?_ GE531.out) | exact HB.out)⟩⟩
        rw [if_pos c76] at H; have c76b0 : decide (x17_3 < (ji75)) = true := decide_eq_true c76
        clear c76; have H' := zA.mk H
        clear H; go_wp2
        go_loopg [18, 19] k3 (fun kq v18 v19 w' => ∃ (x18_4 : List Int) (x19_4 : Int), v19 = .int .i64 x19_4 ∧ zA (l5_BestLeast.l3 kq (t518.length : Int) t535 x11_2 x14_3 x15_3 x16_3 x17_3 x18_4 x19_4 t518 t521 t524 t525 t526 t527 t528 t529 = some r) ∧ zA (kq ≤ k3) ∧ zA (Kd.R (Kd.int .i64) 3 w' w.heap.size (fun k_ => some k_ ≠ (u16 : Value).ownBlock ∧ some k_ ≠ (v18 : Value).ownBlock) u11 x11_2) ∧ zA (Kd.R (Kd.int .i64) 3 w' w.heap.size (fun k_ => some k_ ≠ (u11 : Value).ownBlock ∧ some k_ ≠ (v18 : Value).ownBlock) u16 x16_3) ∧ zA (Kd.R (Kd.int .i64) 3 w' w.heap.size (fun k_ => some k_ ≠ (u11 : Value).ownBlock ∧ some k_ ≠ (u16 : Value).ownBlock) v18 x18_4) ∧ zA (Kd.R k62 62 w' w.heap.size (fun _ => True) (.slice Ao44 t518.length co44) t518) ∧ zA (Kd.R (Kd.int .u8) 46 w' w.heap.size (fun _ => True) (.slice Ao46 t521.length co46) t521) ∧ zA (w'.heap[gb511]? = some (.cells #[.int .u8 a1_0, .int .u8 a1_1, .int .u8 a1_2, .int .u16 a1_3, .int .u16 a1_4, .float .f64 a1_5] 26 (0, 0))) ∧ zA (w'.heap[gb530]? = some (.cells #[(.slice Ao44 t518.length co44), (.slice Ao46 t521.length co46)] 31 (0, 0))) ∧ zA (w'.heap[gb531]? = some (.cells #[.int .i64 t524, .int .i64 t525, .int .u8 t526, .int .i64 t527, .int .i64 t528, .float .f64 t529] 35 (0, 0))) ∧ zA (Below w.heap.size w w'))
        case atStart => exact ⟨(([] : List Int)), (1), (by first | rfl | (simp; done) | (simp [*]; done)), H', ⟨Nat.le_refl _⟩, ⟨by (with_reducible repeat (first | apply Kd.zL | apply Kd.zM | apply Kd.zN)); exact Kd.zX HO_11.out (fun _ hk => ⟨hk, (by simp [Value.ownBlock])⟩)⟩, ⟨by (with_reducible repeat (first | apply Kd.zL | apply Kd.zM | apply Kd.zN)); exact Kd.zX HO_16.out (fun _ hk => ⟨hk, (by simp [Value.ownBlock])⟩)⟩, ⟨by first | exact Kd.R_nil _ _ _ _ _ | exact Kd.N_nil _ _ _ _ _ | exact Kd.V_nil _ _ _ _ _ | exact Kd.Q_nil _ _ _ _ _ | exact Kd.S_nil _ _ _ _ _⟩, ⟨by (with_reducible repeat (first | apply Kd.zL | apply Kd.zM | apply Kd.zN)); exact HO_531000.out⟩, ⟨by (with_reducible repeat (first | apply Kd.zL | apply Kd.zM | apply Kd.zN)); exact HO_531001.out⟩, ⟨by (with_reducible repeat (first | refine zC ?_ _ | refine zD ?_ | refine zB ?_ _)); exact BK511.out⟩, ⟨by (with_reducible repeat (first | refine zC ?_ _ | refine zD ?_ | refine zB ?_ _)); exact BK530.out⟩, ⟨by (with_reducible repeat (first | refine zC ?_ _ | refine zD ?_ | refine zB ?_ _)); exact BK531.out⟩, ⟨by repeat (first | (with_reducible first | exact HB.out | apply zJ | apply zF | apply zI | refine zE ?_ GE511.out | refine zE ?_ GE530.out | refine zE ?_ GE531.out) | exact HB.out)⟩⟩
        clear H'; try clear c1
        try clear p2
        try clear c5
        try clear p5
        try clear q5
        try clear hx5
        try clear c6
        try clear p6
        try clear c7
        try clear c12
        try clear c14
        try clear p53
        try clear q53
        try clear hx53
        try clear c54
        try clear c55
        try clear c57
        try clear c61
        try clear c61b0
        try clear c62
        try clear c62b0
        try clear c63
        try clear c63b0
        try clear c64
        try clear p64
        try clear c66
        try clear c67
        try clear c68
        try clear c74
        try clear c74b0
        try clear c74b1
        try clear c76
        try clear c76b0
        try clear hcz56_0
        try clear hcz56_1
        try clear hcz58_0
        try clear hcz58_1
        try clear hcz58_2
        try clear hcz58_3
        try clear hcz58_4
        try clear hcz58_5
        try clear hcz69_0
        try clear hcz69_1
        try clear hcz69_2
        try clear hcz69_3
        try clear hcz71_0
        try clear hcz71_1
        try clear hcz71_2
        try clear hcz71_3
        try clear hfz56_0
        try clear hfz56_1
        try clear hfz58_0
        try clear hfz58_1
        try clear hfz58_2
        try clear hfz58_3
        try clear hfz58_4
        try clear hfz58_5
        try clear hfz69_0
        try clear hfz69_1
        try clear hfz69_2
        try clear hfz69_3
        try clear hfz71_0
        try clear hfz71_1
        try clear hfz71_2
        try clear hfz71_3
        try clear hx536_0
        try clear hx536_1
        try clear hx536_2
        try clear hx536_3
        try clear p2
        try clear p5
        try clear p53
        try clear p536
        try clear p6
        try clear p64
        try clear q5
        try clear q53
        try clear q536
        obtain ⟨x18_4, x19_4, rfl, HA, HK4, HO_11, HO_16, HO_18, HO_531000, HO_531001, BK511, BK530, BK531, HB⟩ := hrel; cases gk with
        | zero => exact absurd HA.out (by simp [l5_BestLeast.l3])
        | succ k4 =>
          have H := HA.out; clear HA; simp only [l5_BestLeast.l3] at H; by_cases c77 : x19_4 < (t518.length : Int)
          · rw [if_pos c77] at H
            have c77b0 : decide (x19_4 < (t518.length : Int)) = true := decide_eq_true c77
            clear c77; obtain ⟨ji78, hji78⟩ : ∃ j_ : Int, (wrap64 (x19_4 - 1)) = j_ := ⟨_, rfl⟩; replace H : (if 0 ≤ (ji78) then (if (Go.bits .and .i64 (shr .i64 x17_3 (ji78)) 1) = 1 then (if x18_4.length < 17592186044416 then (l5_BestLeast.l3 k4 (t518.length : Int) t535 x11_2 x14_3 x15_3 x16_3 x17_3 (x18_4 ++ [x19_4]) (wrap64 (x19_4 + 1)) t518 t521 t524 t525 t526 t527 t528 t529) else (none)) else (l5_BestLeast.l3 k4 (t518.length : Int) t535 x11_2 x14_3 x15_3 x16_3 x17_3 x18_4 (wrap64 (x19_4 + 1)) t518 t521 t524 t525 t526 t527 t528 t529)) else (none)) = some r := by first | (rw [hji78] at H; exact H) | (simp only [hji78] at H ⊢; exact H)
            have hji78w : (IntKind.i64.wrap (x19_4 - 1)) = ji78 := (i64_w _).trans hji78
            by_cases c79 : 0 ≤ (ji78)
            rotate_left
            · rw [if_neg c79] at H
              exact absurd H (by simp)
            rw [if_pos c79] at H; have c79b0 := eq_true c79; have c79b1 : decide (0 ≤ (ji78)) = true := decide_eq_true c79
            clear c79; obtain ⟨ji80, hji80⟩ : ∃ j_ : Int, (shr .i64 x17_3 (ji78)) = j_ := ⟨_, rfl⟩; replace H : (if (Go.bits .and .i64 (ji80) 1) = 1 then (if x18_4.length < 17592186044416 then (l5_BestLeast.l3 k4 (t518.length : Int) t535 x11_2 x14_3 x15_3 x16_3 x17_3 (x18_4 ++ [x19_4]) (wrap64 (x19_4 + 1)) t518 t521 t524 t525 t526 t527 t528 t529) else (none)) else (l5_BestLeast.l3 k4 (t518.length : Int) t535 x11_2 x14_3 x15_3 x16_3 x17_3 x18_4 (wrap64 (x19_4 + 1)) t518 t521 t524 t525 t526 t527 t528 t529)) = some r := by first | (rw [hji80] at H; exact H) | (simp only [hji80] at H ⊢; exact H)
            have hji80_ : (x17_3 / 2 ^ min (ji78).toNat 64) = ji80 := hji80
            have hji80z : (ji78) ≤ 64 → (x17_3 / 2 ^ (ji78).toNat) = ji80 := shr_small hji80
            by_cases c81 : (Go.bits .and .i64 (ji80) 1) = 1
            rotate_left
            · rw [if_neg c81] at H
              have c81b0 : ((Go.bits .and .i64 (ji80) 1) == 1) = false := beq_eq_false_iff_ne.mpr c81
              have c81b1 : ((Go.bits .and .i64 (ji80) 1) != 1) = true := bne_iff_ne.mpr c81
              have H' := zA.mk H
              clear H; go_wp2
              go_roundg k4
              case measure => have := HK1.out; have := HK2.out; have := HK3.out; have := HK4.out; omega
              case rel => exact ⟨(x18_4), (wrap64 (x19_4 + 1)), (by first | rfl | (simp; done) | (simp [*]; done)), H', ⟨by have := HK1.out; have := HK2.out; have := HK3.out; have := HK4.out; omega⟩, ⟨by (with_reducible repeat (first | apply Kd.zL | apply Kd.zM | apply Kd.zN)); exact HO_11.out⟩, ⟨by (with_reducible repeat (first | apply Kd.zL | apply Kd.zM | apply Kd.zN)); exact HO_16.out⟩, ⟨by (with_reducible repeat (first | apply Kd.zL | apply Kd.zM | apply Kd.zN)); exact HO_18.out⟩, ⟨by (with_reducible repeat (first | apply Kd.zL | apply Kd.zM | apply Kd.zN)); exact HO_531000.out⟩, ⟨by (with_reducible repeat (first | apply Kd.zL | apply Kd.zM | apply Kd.zN)); exact HO_531001.out⟩, ⟨by (with_reducible repeat (first | refine zC ?_ _ | refine zD ?_ | refine zB ?_ _)); exact BK511.out⟩, ⟨by (with_reducible repeat (first | refine zC ?_ _ | refine zD ?_ | refine zB ?_ _)); exact BK530.out⟩, ⟨by (with_reducible repeat (first | refine zC ?_ _ | refine zD ?_ | refine zB ?_ _)); exact BK531.out⟩, ⟨by repeat (first | (with_reducible first | exact HB.out | apply zJ | apply zF | apply zI | refine zE ?_ GE511.out | refine zE ?_ GE530.out | refine zE ?_ GE531.out) | exact HB.out)⟩⟩
            rw [if_pos c81] at H; have c81b0 : ((Go.bits .and .i64 (ji80) 1) == 1) = true := beq_iff_eq.mpr c81
            have c81b1 : ((Go.bits .and .i64 (ji80) 1) != 1) = false := bne_eq_false_iff_eq.mpr c81
            clear c81; by_cases c82 : x18_4.length < 17592186044416
            rotate_left
            · rw [if_neg c82] at H
              exact absurd H (by simp)
            rw [if_pos c82] at H; have LMc82 := zA.mk c82; clear c82; obtain ⟨y541, hy541⟩ : ∃ y_ : List Int, y_ = (x18_4 ++ [x19_4]) := ⟨_, rfl⟩; replace H : (l5_BestLeast.l3 k4 (t518.length : Int) t535 x11_2 x14_3 x15_3 x16_3 x17_3 y541 (wrap64 (x19_4 + 1)) t518 t521 t524 t525 t526 t527 t528 t529) = some r := by first | (rw [hy541]; with_reducible exact H) | (have H2_ := (Option.bind_some _ _).symm.trans H; rw [hy541]; with_reducible exact H2_) | (have H2_ := (Option.bind_some _ _).symm.trans H; with_reducible exact H2_) | with_reducible exact H | (rw [hy541]; exact H) | exact H
            have Ny541 := zA.mk hy541; clear hy541; have H' := zA.mk H
            clear H; go_wp2_with (first | ((with_reducible refine gate_builtin (b := .append) (xs := #[.tmp 89, .tmp 91]) rfl ?_); (try (refine gate_guard (by rfl) ?_; dsimp only)); at_builtin; refine Kd.R_append (Kd.int .i64) (w0 := w) w.heap.size rfl (.tmp 89) (.tmp 91) 37 3 (.int .i64 0) 8 rfl Try.underlying37 info3 rfl (by decide) (by omega) u18 x18_4 x19_4 [.int .i64 x19_4] (fun k_ => some k_ ≠ (u11 : Value).ownBlock ∧ some k_ ≠ (u16 : Value).ownBlock) (fun _ => False) rfl rfl ?aP (fun _ hk => hk.elim) ?aF ?aO ?aB ?aS ?aL ?_; (case aP => exact rfl); (case aB => exact (by repeat (first | (with_reducible first | exact HB.out | apply zJ | apply zF | apply zI | refine zE ?_ GE511.out | refine zE ?_ GE530.out | refine zE ?_ GE531.out) | exact HB.out))); (case aF => exact (fun k_ hk => ⟨Kd.fresh' (Kd.R_lt (by (with_reducible repeat (first | apply Kd.zL | apply Kd.zM | apply Kd.zN)); exact HO_11.out)) k_ hk, Kd.fresh' (Kd.R_lt (by (with_reducible repeat (first | apply Kd.zL | apply Kd.zM | apply Kd.zN)); exact HO_16.out)) k_ hk⟩)); (case aO => exact (by (with_reducible repeat (first | apply Kd.zL | apply Kd.zM | apply Kd.zN)); exact HO_18.out)); (case aS => exact (below_size (by repeat (first | (with_reducible first | exact HB.out | apply zJ | apply zF | apply zI | refine zE ?_ GE511.out | refine zE ?_ GE530.out | refine zE ?_ GE531.out) | exact HB.out)))); (case aL => have := LMc82.out; omega); intro v542 w83 ho hb hg hat; rw [← Ny541.out] at ho; have n0_ := zA.mk (Kd.R_after (ok := (fun k_ => some k_ ≠ (u16 : Value).ownBlock)) (by (with_reducible repeat (first | apply Kd.zL | apply Kd.zM | apply Kd.zN)); exact HO_11.out) hg hat); have n1_ := zA.mk (Kd.R_after (ok := (fun k_ => some k_ ≠ (u11 : Value).ownBlock)) (by (with_reducible repeat (first | apply Kd.zL | apply Kd.zM | apply Kd.zN)); exact HO_16.out) hg hat); have n2_ := zA.mk (Kd.R_over' (by (with_reducible repeat (first | apply Kd.zL | apply Kd.zM | apply Kd.zN)); exact HO_531000.out) (Kd.R_typed (by (with_reducible repeat (first | apply Kd.zL | apply Kd.zM | apply Kd.zN)); exact HO_18.out)) (by decide) hg); have n3_ := zA.mk (Kd.R_over' (by (with_reducible repeat (first | apply Kd.zL | apply Kd.zM | apply Kd.zN)); exact HO_531001.out) (Kd.R_typed (by (with_reducible repeat (first | apply Kd.zL | apply Kd.zM | apply Kd.zN)); exact HO_18.out)) (by decide) hg); have n4_ := zA.mk (blk_grown (g := gb511) (o := .cells #[.int .u8 a1_0, .int .u8 a1_1, .int .u8 a1_2, .int .u16 a1_3, .int .u16 a1_4, .float .f64 a1_5] 26 (0, 0)) (by (with_reducible repeat (first | refine zC ?_ _ | refine zD ?_ | refine zB ?_ _)); exact BK511.out) hg (Kd.R_ne HO_18.out BK511.out (by decide))); have n5_ := zA.mk (blk_grown (g := gb530) (o := .cells #[.slice Ao44 t518.length co44, .slice Ao46 t521.length co46] 31 (0, 0)) (by (with_reducible repeat (first | refine zC ?_ _ | refine zD ?_ | refine zB ?_ _)); exact BK530.out) hg (Kd.R_ne HO_18.out BK530.out (by decide))); have n6_ := zA.mk (blk_grown (g := gb531) (o := .cells #[.int .i64 t524, .int .i64 t525, .int .u8 t526, .int .i64 t527, .int .i64 t528, .float .f64 t529] 35 (0, 0)) (by (with_reducible repeat (first | refine zC ?_ _ | refine zD ?_ | refine zB ?_ _)); exact BK531.out) hg (Kd.R_ne HO_18.out BK531.out (by decide))); have n7_ := zA.mk (hb); have n8_ := zA.mk (ho); clear HO_11; clear HO_16; clear HO_531000; clear HO_531001; clear BK511; clear BK530; clear BK531; clear HB; clear HO_18; have HO_11 := n0_; have HO_16 := n1_; have HO_531000 := n2_; have HO_531001 := n3_; have BK511 := n4_; have BK530 := n5_; have BK531 := n6_; have HB := n7_; have HO543 := n8_; clear n0_ n1_ n2_ n3_ n4_ n5_ n6_ n7_ n8_; clear ho hb hg hat))
            go_roundg k4
            case measure => have := HK1.out; have := HK2.out; have := HK3.out; have := HK4.out; omega
            case rel => exact ⟨(y541), (wrap64 (x19_4 + 1)), (by first | rfl | (simp; done) | (simp [*]; done)), H', ⟨by have := HK1.out; have := HK2.out; have := HK3.out; have := HK4.out; omega⟩, ⟨by (with_reducible repeat (first | apply Kd.zL | apply Kd.zM | apply Kd.zN)); exact HO_11.out⟩, ⟨by (with_reducible repeat (first | apply Kd.zL | apply Kd.zM | apply Kd.zN)); exact HO_16.out⟩, ⟨by (with_reducible repeat (first | apply Kd.zL | apply Kd.zM | apply Kd.zN)); exact HO543.out⟩, ⟨by (with_reducible repeat (first | apply Kd.zL | apply Kd.zM | apply Kd.zN)); exact HO_531000.out⟩, ⟨by (with_reducible repeat (first | apply Kd.zL | apply Kd.zM | apply Kd.zN)); exact HO_531001.out⟩, ⟨by (with_reducible repeat (first | refine zC ?_ _ | refine zD ?_ | refine zB ?_ _)); exact BK511.out⟩, ⟨by (with_reducible repeat (first | refine zC ?_ _ | refine zD ?_ | refine zB ?_ _)); exact BK530.out⟩, ⟨by (with_reducible repeat (first | refine zC ?_ _ | refine zD ?_ | refine zB ?_ _)); exact BK531.out⟩, ⟨by repeat (first | (with_reducible first | exact HB.out | apply zJ | apply zF | apply zI | refine zE ?_ GE511.out | refine zE ?_ GE530.out | refine zE ?_ GE531.out) | exact HB.out)⟩⟩
          rw [if_neg c77] at H; have c77b0 : decide (x19_4 < (t518.length : Int)) = false := decide_eq_false c77
          clear c77; by_cases c84 : x18_4.length < 17592186044416
          rotate_left
          · rw [if_neg c84] at H
            exact absurd H (by simp)
          rw [if_pos c84] at H; have LMc84 := zA.mk c84; clear c84; obtain ⟨y544, hy544⟩ : ∃ y_ : List Int, y_ = (x18_4 ++ [(t518.length : Int)]) := ⟨_, rfl⟩; replace H : ((l5_all.f k4 t518 t521 y544 t524 t525 t526 t527 t528 t529).bind fun bt547 => (if bt547.2 = true then (if x15_3 = true then (if bt547.1 < x14_3 then (l5_BestLeast.l2 k4 (t518.length : Int) t535 x11_2 bt547.1 true y544 (wrap64 (x17_3 + 1)) t518 t521 t524 t525 t526 t527 t528 t529) else (if bt547.1 = x14_3 then ((l5_sooner.f k4 y544 x16_3).bind fun t549 => (if t549 = true then (l5_BestLeast.l2 k4 (t518.length : Int) t535 x11_2 bt547.1 true y544 (wrap64 (x17_3 + 1)) t518 t521 t524 t525 t526 t527 t528 t529) else (l5_BestLeast.l2 k4 (t518.length : Int) t535 x11_2 x14_3 x15_3 x16_3 (wrap64 (x17_3 + 1)) t518 t521 t524 t525 t526 t527 t528 t529))) else (l5_BestLeast.l2 k4 (t518.length : Int) t535 x11_2 x14_3 x15_3 x16_3 (wrap64 (x17_3 + 1)) t518 t521 t524 t525 t526 t527 t528 t529))) else (l5_BestLeast.l2 k4 (t518.length : Int) t535 x11_2 bt547.1 true y544 (wrap64 (x17_3 + 1)) t518 t521 t524 t525 t526 t527 t528 t529)) else (l5_BestLeast.l2 k4 (t518.length : Int) t535 x11_2 x14_3 x15_3 x16_3 (wrap64 (x17_3 + 1)) t518 t521 t524 t525 t526 t527 t528 t529))) = some r := by first | (rw [hy544]; with_reducible exact H) | (have H2_ := (Option.bind_some _ _).symm.trans H; rw [hy544]; with_reducible exact H2_) | (have H2_ := (Option.bind_some _ _).symm.trans H; with_reducible exact H2_) | with_reducible exact H | (rw [hy544]; exact H) | exact H
          have Ny544 := zA.mk hy544; clear hy544; replace H := Option.bind_eq_some_iff.mp H; obtain ⟨⟨t547, t548⟩, A850, H⟩ := H; replace H : (if t548 = true then (if x15_3 = true then (if t547 < x14_3 then (l5_BestLeast.l2 k4 (t518.length : Int) t535 x11_2 t547 true y544 (wrap64 (x17_3 + 1)) t518 t521 t524 t525 t526 t527 t528 t529) else (if t547 = x14_3 then ((l5_sooner.f k4 y544 x16_3).bind fun t549 => (if t549 = true then (l5_BestLeast.l2 k4 (t518.length : Int) t535 x11_2 t547 true y544 (wrap64 (x17_3 + 1)) t518 t521 t524 t525 t526 t527 t528 t529) else (l5_BestLeast.l2 k4 (t518.length : Int) t535 x11_2 x14_3 x15_3 x16_3 (wrap64 (x17_3 + 1)) t518 t521 t524 t525 t526 t527 t528 t529))) else (l5_BestLeast.l2 k4 (t518.length : Int) t535 x11_2 x14_3 x15_3 x16_3 (wrap64 (x17_3 + 1)) t518 t521 t524 t525 t526 t527 t528 t529))) else (l5_BestLeast.l2 k4 (t518.length : Int) t535 x11_2 t547 true y544 (wrap64 (x17_3 + 1)) t518 t521 t524 t525 t526 t527 t528 t529)) else (l5_BestLeast.l2 k4 (t518.length : Int) t535 x11_2 x14_3 x15_3 x16_3 (wrap64 (x17_3 + 1)) t518 t521 t524 t525 t526 t527 t528 t529)) = some r := H
          have A85 := zA.mk A850; clear A850; by_cases c86 : t548 = true
          rotate_left
          · replace c86 := Bool.eq_false_iff.mpr c86
            subst c86; have H1 : (l5_BestLeast.l2 k4 (t518.length : Int) t535 x11_2 x14_3 x15_3 x16_3 (wrap64 (x17_3 + 1)) t518 t521 t524 t525 t526 t527 t528 t529) = some r := by rw [if_neg (show ¬ (false = true) by decide)] at H; exact H
            clear H; have H := H1; clear H1; have H' := zA.mk H
            clear H; go_wp2_with (first | ((with_reducible refine gate_builtin (b := .append) (xs := #[.tmp 93, .tmp 95]) rfl ?_); (try (refine gate_guard (by rfl) ?_; dsimp only)); at_builtin; refine Kd.R_append (Kd.int .i64) (w0 := w) w.heap.size rfl (.tmp 93) (.tmp 95) 37 3 (.int .i64 0) 8 rfl Try.underlying37 info3 rfl (by decide) (by omega) u18 x18_4 (t518.length : Int) [.int .i64 (t518.length : Int)] (fun k_ => some k_ ≠ (u11 : Value).ownBlock ∧ some k_ ≠ (u16 : Value).ownBlock) (fun _ => False) rfl rfl ?aP (fun _ hk => hk.elim) ?aF ?aO ?aB ?aS ?aL ?_; (case aP => exact rfl); (case aB => exact (by repeat (first | (with_reducible first | exact HB.out | apply zJ | apply zF | apply zI | refine zE ?_ GE511.out | refine zE ?_ GE530.out | refine zE ?_ GE531.out) | exact HB.out))); (case aF => exact (fun k_ hk => ⟨Kd.fresh' (Kd.R_lt (by (with_reducible repeat (first | apply Kd.zL | apply Kd.zM | apply Kd.zN)); exact HO_11.out)) k_ hk, Kd.fresh' (Kd.R_lt (by (with_reducible repeat (first | apply Kd.zL | apply Kd.zM | apply Kd.zN)); exact HO_16.out)) k_ hk⟩)); (case aO => exact (by (with_reducible repeat (first | apply Kd.zL | apply Kd.zM | apply Kd.zN)); exact HO_18.out)); (case aS => exact (below_size (by repeat (first | (with_reducible first | exact HB.out | apply zJ | apply zF | apply zI | refine zE ?_ GE511.out | refine zE ?_ GE530.out | refine zE ?_ GE531.out) | exact HB.out)))); (case aL => have := LMc84.out; omega); intro v545 w134 ho hb hg hat; rw [← Ny544.out] at ho; have n0_ := zA.mk (Kd.R_after (ok := (fun k_ => some k_ ≠ (u16 : Value).ownBlock)) (by (with_reducible repeat (first | apply Kd.zL | apply Kd.zM | apply Kd.zN)); exact HO_11.out) hg hat); have n1_ := zA.mk (Kd.R_after (ok := (fun k_ => some k_ ≠ (u11 : Value).ownBlock)) (by (with_reducible repeat (first | apply Kd.zL | apply Kd.zM | apply Kd.zN)); exact HO_16.out) hg hat); have n2_ := zA.mk (Kd.R_over' (by (with_reducible repeat (first | apply Kd.zL | apply Kd.zM | apply Kd.zN)); exact HO_531000.out) (Kd.R_typed (by (with_reducible repeat (first | apply Kd.zL | apply Kd.zM | apply Kd.zN)); exact HO_18.out)) (by decide) hg); have n3_ := zA.mk (Kd.R_over' (by (with_reducible repeat (first | apply Kd.zL | apply Kd.zM | apply Kd.zN)); exact HO_531001.out) (Kd.R_typed (by (with_reducible repeat (first | apply Kd.zL | apply Kd.zM | apply Kd.zN)); exact HO_18.out)) (by decide) hg); have n4_ := zA.mk (blk_grown (g := gb511) (o := .cells #[.int .u8 a1_0, .int .u8 a1_1, .int .u8 a1_2, .int .u16 a1_3, .int .u16 a1_4, .float .f64 a1_5] 26 (0, 0)) (by (with_reducible repeat (first | refine zC ?_ _ | refine zD ?_ | refine zB ?_ _)); exact BK511.out) hg (Kd.R_ne HO_18.out BK511.out (by decide))); have n5_ := zA.mk (blk_grown (g := gb530) (o := .cells #[.slice Ao44 t518.length co44, .slice Ao46 t521.length co46] 31 (0, 0)) (by (with_reducible repeat (first | refine zC ?_ _ | refine zD ?_ | refine zB ?_ _)); exact BK530.out) hg (Kd.R_ne HO_18.out BK530.out (by decide))); have n6_ := zA.mk (blk_grown (g := gb531) (o := .cells #[.int .i64 t524, .int .i64 t525, .int .u8 t526, .int .i64 t527, .int .i64 t528, .float .f64 t529] 35 (0, 0)) (by (with_reducible repeat (first | refine zC ?_ _ | refine zD ?_ | refine zB ?_ _)); exact BK531.out) hg (Kd.R_ne HO_18.out BK531.out (by decide))); have n7_ := zA.mk (hb); have n8_ := zA.mk (ho); clear HO_11; clear HO_16; clear HO_531000; clear HO_531001; clear BK511; clear BK530; clear BK531; clear HB; clear HO_18; have HO_11 := n0_; have HO_16 := n1_; have HO_531000 := n2_; have HO_531001 := n3_; have BK511 := n4_; have BK530 := n5_; have BK531 := n6_; have HB := n7_; have HO546 := n8_; clear n0_ n1_ n2_ n3_ n4_ n5_ n6_ n7_ n8_; clear ho hb hg hat; have hnb135 := NB530_511.out; have hnc135 := NB511_530.out; have hnb136 := NB530_531.out; have hnc136 := NB531_530.out; have hcz137_0 : w134.cell? ⟨gb530, 0, none⟩ = some (.slice Ao44 t518.length co44) := (zG BK530.out 0).trans rfl; have hcz137_1 : w134.cell? ⟨gb530, 1, none⟩ = some (.slice Ao46 t521.length co46) := (zG BK530.out 1).trans rfl; have hfz137_0 := zH BK530.out 0; have hfz137_1 := zH BK530.out 1; have hnb138 := NB531_511.out; have hnc138 := NB511_531.out; have hcz139_0 : w134.cell? ⟨gb531, 0, none⟩ = some (.int .i64 t524) := (zG BK531.out 0).trans rfl; have hcz139_1 : w134.cell? ⟨gb531, 1, none⟩ = some (.int .i64 t525) := (zG BK531.out 1).trans rfl; have hcz139_2 : w134.cell? ⟨gb531, 2, none⟩ = some (.int .u8 t526) := (zG BK531.out 2).trans rfl; have hcz139_3 : w134.cell? ⟨gb531, 3, none⟩ = some (.int .i64 t527) := (zG BK531.out 3).trans rfl; have hcz139_4 : w134.cell? ⟨gb531, 4, none⟩ = some (.int .i64 t528) := (zG BK531.out 4).trans rfl; have hcz139_5 : w134.cell? ⟨gb531, 5, none⟩ = some (.float .f64 t529) := (zG BK531.out 5).trans rfl; have hfz139_0 := zH BK531.out 0; have hfz139_1 := zH BK531.out 1; have hfz139_2 := zH BK531.out 2; have hfz139_3 := zH BK531.out 3; have hfz139_4 := zH BK531.out 4; have hfz139_5 := zH BK531.out 5; obtain ⟨Ao140, co140, eo140⟩ := Kd.zV HO546.out; subst eo140) | ((with_reducible refine gate_callee (f := 21) rfl ?_); refine goesL_ (some 101) rfl rfl Try.func21 (by kernel_rfl) rfl #[.agg #[.slice Ao44 t518.length co44, .slice Ao46 t521.length co46], .slice Ao140 y544.length co140, .agg #[.int .i64 t524, .int .i64 t525, .int .u8 t526, .int .i64 t527, .int .i64 t528, .float .f64 t529]] rfl (by (try simp only [List.map_toArray, List.map_cons, List.map_nil]); first | done | rfl | (simp only [List.length_drop, List.length_take]; rfl)) ?_; (with_reducible refine (l5_all.calls k4 _ _ t518 _ _ t521 _ _ y544 t524 t525 t526 t527 t528 t529 t547 false _ ?side1 ?side2 ?side3 ?side4 ?side5 ?side6 A85.out).mono ?_); (case side1 => repeat (first | exact (Kd.zS HO_531000.out).2.2 | (with_reducible refine Kd.zO ?_ _) | (with_reducible refine Kd.zP ?_ _) | (with_reducible refine Kd.zQ ?_))); (case side2 => exact (Kd.zS HO_531000.out).2.1); (case side3 => repeat (first | exact (Kd.zS HO_531001.out).2.2 | (with_reducible refine Kd.zO ?_ _) | (with_reducible refine Kd.zP ?_ _) | (with_reducible refine Kd.zQ ?_))); (case side4 => exact (Kd.zS HO_531001.out).2.1); (case side5 => repeat (first | exact (Kd.zS HO546.out).2.2 | (with_reducible refine Kd.zO ?_ _) | (with_reducible refine Kd.zP ?_ _) | (with_reducible refine Kd.zQ ?_))); (case side6 => exact (Kd.zS HO546.out).2.1); rintro e w141 ⟨rfl, hb⟩; refine ⟨_, rfl, ?_⟩; have n0_ := zA.mk (Kd.zT (by (with_reducible repeat (first | apply Kd.zL | apply Kd.zM | apply Kd.zN)); exact HO_11.out) hb); have n1_ := zA.mk (Kd.zT (by (with_reducible repeat (first | apply Kd.zL | apply Kd.zM | apply Kd.zN)); exact HO_16.out) hb); have n2_ := zA.mk (Kd.zT (by (with_reducible repeat (first | apply Kd.zL | apply Kd.zM | apply Kd.zN)); exact HO_531000.out) hb); have n3_ := zA.mk (Kd.zT (by (with_reducible repeat (first | apply Kd.zL | apply Kd.zM | apply Kd.zN)); exact HO_531001.out) hb); have n4_ := zA.mk (Kd.zT (by (with_reducible repeat (first | apply Kd.zL | apply Kd.zM | apply Kd.zN)); exact HO546.out) hb); have n5_ := zA.mk (zK (g := gb511) (o := .cells #[.int .u8 a1_0, .int .u8 a1_1, .int .u8 a1_2, .int .u16 a1_3, .int .u16 a1_4, .float .f64 a1_5] 26 (0, 0)) (by (with_reducible repeat (first | refine zC ?_ _ | refine zD ?_ | refine zB ?_ _)); exact BK511.out) hb); have n6_ := zA.mk (zK (g := gb530) (o := .cells #[.slice Ao44 t518.length co44, .slice Ao46 t521.length co46] 31 (0, 0)) (by (with_reducible repeat (first | refine zC ?_ _ | refine zD ?_ | refine zB ?_ _)); exact BK530.out) hb); have n7_ := zA.mk (zK (g := gb531) (o := .cells #[.int .i64 t524, .int .i64 t525, .int .u8 t526, .int .i64 t527, .int .i64 t528, .float .f64 t529] 35 (0, 0)) (by (with_reducible repeat (first | refine zC ?_ _ | refine zD ?_ | refine zB ?_ _)); exact BK531.out) hb); have n8_ := zA.mk (below_step (by repeat (first | (with_reducible first | exact HB.out | apply zJ | apply zF | apply zI | refine zE ?_ GE511.out | refine zE ?_ GE530.out | refine zE ?_ GE531.out) | exact HB.out)) hb); clear HO_11; clear HO_16; clear HO_531000; clear HO_531001; clear HO546; clear BK511; clear BK530; clear BK531; clear HB; have HO_11 := n0_; have HO_16 := n1_; have HO_531000 := n2_; have HO_531001 := n3_; have HO546 := n4_; have BK511 := n5_; have BK530 := n6_; have BK531 := n7_; have HB := n8_; clear n0_ n1_ n2_ n3_ n4_ n5_ n6_ n7_ n8_; (try clear hb); (try clear hb2); (try clear hk); (try clear hi)))
            go_roundg k4
            case measure => have := HK1.out; have := HK2.out; have := HK3.out; have := HK4.out; omega
            case rel => exact ⟨(x14_3), (x15_3), (x16_3), (wrap64 (x17_3 + 1)), (by first | rfl | (simp; done) | (simp [*]; done)), (by first | rfl | (simp; done) | (simp [*]; done)), (by first | rfl | (simp; done) | (simp [*]; done)), H', ⟨by have := HK1.out; have := HK2.out; have := HK3.out; have := HK4.out; omega⟩, ⟨by (with_reducible repeat (first | apply Kd.zL | apply Kd.zM | apply Kd.zN)); exact Kd.zX HO_11.out (fun _ hk => hk.1)⟩, ⟨by (with_reducible repeat (first | apply Kd.zL | apply Kd.zM | apply Kd.zN)); exact Kd.zX HO_16.out (fun _ hk => hk.1)⟩, ⟨by (with_reducible repeat (first | apply Kd.zL | apply Kd.zM | apply Kd.zN)); exact HO_531000.out⟩, ⟨by (with_reducible repeat (first | apply Kd.zL | apply Kd.zM | apply Kd.zN)); exact HO_531001.out⟩, ⟨by (with_reducible repeat (first | refine zC ?_ _ | refine zD ?_ | refine zB ?_ _)); exact BK511.out⟩, ⟨by (with_reducible repeat (first | refine zC ?_ _ | refine zD ?_ | refine zB ?_ _)); exact BK530.out⟩, ⟨by (with_reducible repeat (first | refine zC ?_ _ | refine zD ?_ | refine zB ?_ _)); exact BK531.out⟩, ⟨by repeat (first | (with_reducible first | exact HB.out | apply zJ | apply zF | apply zI | refine zE ?_ GE511.out | refine zE ?_ GE530.out | refine zE ?_ GE531.out) | exact HB.out)⟩⟩
          subst c86; have H1 : (if x15_3 = true then (if t547 < x14_3 then (l5_BestLeast.l2 k4 (t518.length : Int) t535 x11_2 t547 true y544 (wrap64 (x17_3 + 1)) t518 t521 t524 t525 t526 t527 t528 t529) else (if t547 = x14_3 then ((l5_sooner.f k4 y544 x16_3).bind fun t549 => (if t549 = true then (l5_BestLeast.l2 k4 (t518.length : Int) t535 x11_2 t547 true y544 (wrap64 (x17_3 + 1)) t518 t521 t524 t525 t526 t527 t528 t529) else (l5_BestLeast.l2 k4 (t518.length : Int) t535 x11_2 x14_3 x15_3 x16_3 (wrap64 (x17_3 + 1)) t518 t521 t524 t525 t526 t527 t528 t529))) else (l5_BestLeast.l2 k4 (t518.length : Int) t535 x11_2 x14_3 x15_3 x16_3 (wrap64 (x17_3 + 1)) t518 t521 t524 t525 t526 t527 t528 t529))) else (l5_BestLeast.l2 k4 (t518.length : Int) t535 x11_2 t547 true y544 (wrap64 (x17_3 + 1)) t518 t521 t524 t525 t526 t527 t528 t529)) = some r := by rw [if_pos rfl] at H; exact H
          clear H; have H := H1; clear H1; by_cases c87 : x15_3 = true
          rotate_left
          · replace c87 := Bool.eq_false_iff.mpr c87
            subst c87; have H1 : (l5_BestLeast.l2 k4 (t518.length : Int) t535 x11_2 t547 true y544 (wrap64 (x17_3 + 1)) t518 t521 t524 t525 t526 t527 t528 t529) = some r := by rw [if_neg (show ¬ (false = true) by decide)] at H; exact H
            clear H; have H := H1; clear H1; have H' := zA.mk H
            clear H; go_wp2_with (first | ((with_reducible refine gate_builtin (b := .append) (xs := #[.tmp 93, .tmp 95]) rfl ?_); (try (refine gate_guard (by rfl) ?_; dsimp only)); at_builtin; refine Kd.R_append (Kd.int .i64) (w0 := w) w.heap.size rfl (.tmp 93) (.tmp 95) 37 3 (.int .i64 0) 8 rfl Try.underlying37 info3 rfl (by decide) (by omega) u18 x18_4 (t518.length : Int) [.int .i64 (t518.length : Int)] (fun k_ => some k_ ≠ (u11 : Value).ownBlock ∧ some k_ ≠ (u16 : Value).ownBlock) (fun _ => False) rfl rfl ?aP (fun _ hk => hk.elim) ?aF ?aO ?aB ?aS ?aL ?_; (case aP => exact rfl); (case aB => exact (by repeat (first | (with_reducible first | exact HB.out | apply zJ | apply zF | apply zI | refine zE ?_ GE511.out | refine zE ?_ GE530.out | refine zE ?_ GE531.out) | exact HB.out))); (case aF => exact (fun k_ hk => ⟨Kd.fresh' (Kd.R_lt (by (with_reducible repeat (first | apply Kd.zL | apply Kd.zM | apply Kd.zN)); exact HO_11.out)) k_ hk, Kd.fresh' (Kd.R_lt (by (with_reducible repeat (first | apply Kd.zL | apply Kd.zM | apply Kd.zN)); exact HO_16.out)) k_ hk⟩)); (case aO => exact (by (with_reducible repeat (first | apply Kd.zL | apply Kd.zM | apply Kd.zN)); exact HO_18.out)); (case aS => exact (below_size (by repeat (first | (with_reducible first | exact HB.out | apply zJ | apply zF | apply zI | refine zE ?_ GE511.out | refine zE ?_ GE530.out | refine zE ?_ GE531.out) | exact HB.out)))); (case aL => have := LMc84.out; omega); intro v545 w126 ho hb hg hat; rw [← Ny544.out] at ho; have n0_ := zA.mk (Kd.R_after (ok := (fun k_ => some k_ ≠ (u16 : Value).ownBlock)) (by (with_reducible repeat (first | apply Kd.zL | apply Kd.zM | apply Kd.zN)); exact HO_11.out) hg hat); have n1_ := zA.mk (Kd.R_after (ok := (fun k_ => some k_ ≠ (u11 : Value).ownBlock)) (by (with_reducible repeat (first | apply Kd.zL | apply Kd.zM | apply Kd.zN)); exact HO_16.out) hg hat); have n2_ := zA.mk (Kd.R_over' (by (with_reducible repeat (first | apply Kd.zL | apply Kd.zM | apply Kd.zN)); exact HO_531000.out) (Kd.R_typed (by (with_reducible repeat (first | apply Kd.zL | apply Kd.zM | apply Kd.zN)); exact HO_18.out)) (by decide) hg); have n3_ := zA.mk (Kd.R_over' (by (with_reducible repeat (first | apply Kd.zL | apply Kd.zM | apply Kd.zN)); exact HO_531001.out) (Kd.R_typed (by (with_reducible repeat (first | apply Kd.zL | apply Kd.zM | apply Kd.zN)); exact HO_18.out)) (by decide) hg); have n4_ := zA.mk (blk_grown (g := gb511) (o := .cells #[.int .u8 a1_0, .int .u8 a1_1, .int .u8 a1_2, .int .u16 a1_3, .int .u16 a1_4, .float .f64 a1_5] 26 (0, 0)) (by (with_reducible repeat (first | refine zC ?_ _ | refine zD ?_ | refine zB ?_ _)); exact BK511.out) hg (Kd.R_ne HO_18.out BK511.out (by decide))); have n5_ := zA.mk (blk_grown (g := gb530) (o := .cells #[.slice Ao44 t518.length co44, .slice Ao46 t521.length co46] 31 (0, 0)) (by (with_reducible repeat (first | refine zC ?_ _ | refine zD ?_ | refine zB ?_ _)); exact BK530.out) hg (Kd.R_ne HO_18.out BK530.out (by decide))); have n6_ := zA.mk (blk_grown (g := gb531) (o := .cells #[.int .i64 t524, .int .i64 t525, .int .u8 t526, .int .i64 t527, .int .i64 t528, .float .f64 t529] 35 (0, 0)) (by (with_reducible repeat (first | refine zC ?_ _ | refine zD ?_ | refine zB ?_ _)); exact BK531.out) hg (Kd.R_ne HO_18.out BK531.out (by decide))); have n7_ := zA.mk (hb); have n8_ := zA.mk (ho); clear HO_11; clear HO_16; clear HO_531000; clear HO_531001; clear BK511; clear BK530; clear BK531; clear HB; clear HO_18; have HO_11 := n0_; have HO_16 := n1_; have HO_531000 := n2_; have HO_531001 := n3_; have BK511 := n4_; have BK530 := n5_; have BK531 := n6_; have HB := n7_; have HO546 := n8_; clear n0_ n1_ n2_ n3_ n4_ n5_ n6_ n7_ n8_; clear ho hb hg hat; have hnb127 := NB530_511.out; have hnc127 := NB511_530.out; have hnb128 := NB530_531.out; have hnc128 := NB531_530.out; have hcz129_0 : w126.cell? ⟨gb530, 0, none⟩ = some (.slice Ao44 t518.length co44) := (zG BK530.out 0).trans rfl; have hcz129_1 : w126.cell? ⟨gb530, 1, none⟩ = some (.slice Ao46 t521.length co46) := (zG BK530.out 1).trans rfl; have hfz129_0 := zH BK530.out 0; have hfz129_1 := zH BK530.out 1; have hnb130 := NB531_511.out; have hnc130 := NB511_531.out; have hcz131_0 : w126.cell? ⟨gb531, 0, none⟩ = some (.int .i64 t524) := (zG BK531.out 0).trans rfl; have hcz131_1 : w126.cell? ⟨gb531, 1, none⟩ = some (.int .i64 t525) := (zG BK531.out 1).trans rfl; have hcz131_2 : w126.cell? ⟨gb531, 2, none⟩ = some (.int .u8 t526) := (zG BK531.out 2).trans rfl; have hcz131_3 : w126.cell? ⟨gb531, 3, none⟩ = some (.int .i64 t527) := (zG BK531.out 3).trans rfl; have hcz131_4 : w126.cell? ⟨gb531, 4, none⟩ = some (.int .i64 t528) := (zG BK531.out 4).trans rfl; have hcz131_5 : w126.cell? ⟨gb531, 5, none⟩ = some (.float .f64 t529) := (zG BK531.out 5).trans rfl; have hfz131_0 := zH BK531.out 0; have hfz131_1 := zH BK531.out 1; have hfz131_2 := zH BK531.out 2; have hfz131_3 := zH BK531.out 3; have hfz131_4 := zH BK531.out 4; have hfz131_5 := zH BK531.out 5; obtain ⟨Ao132, co132, eo132⟩ := Kd.zV HO546.out; subst eo132) | ((with_reducible refine gate_callee (f := 21) rfl ?_); refine goesL_ (some 101) rfl rfl Try.func21 (by kernel_rfl) rfl #[.agg #[.slice Ao44 t518.length co44, .slice Ao46 t521.length co46], .slice Ao132 y544.length co132, .agg #[.int .i64 t524, .int .i64 t525, .int .u8 t526, .int .i64 t527, .int .i64 t528, .float .f64 t529]] rfl (by (try simp only [List.map_toArray, List.map_cons, List.map_nil]); first | done | rfl | (simp only [List.length_drop, List.length_take]; rfl)) ?_; (with_reducible refine (l5_all.calls k4 _ _ t518 _ _ t521 _ _ y544 t524 t525 t526 t527 t528 t529 t547 true _ ?side1 ?side2 ?side3 ?side4 ?side5 ?side6 A85.out).mono ?_); (case side1 => repeat (first | exact (Kd.zS HO_531000.out).2.2 | (with_reducible refine Kd.zO ?_ _) | (with_reducible refine Kd.zP ?_ _) | (with_reducible refine Kd.zQ ?_))); (case side2 => exact (Kd.zS HO_531000.out).2.1); (case side3 => repeat (first | exact (Kd.zS HO_531001.out).2.2 | (with_reducible refine Kd.zO ?_ _) | (with_reducible refine Kd.zP ?_ _) | (with_reducible refine Kd.zQ ?_))); (case side4 => exact (Kd.zS HO_531001.out).2.1); (case side5 => repeat (first | exact (Kd.zS HO546.out).2.2 | (with_reducible refine Kd.zO ?_ _) | (with_reducible refine Kd.zP ?_ _) | (with_reducible refine Kd.zQ ?_))); (case side6 => exact (Kd.zS HO546.out).2.1); rintro e w133 ⟨rfl, hb⟩; refine ⟨_, rfl, ?_⟩; have n0_ := zA.mk (Kd.zT (by (with_reducible repeat (first | apply Kd.zL | apply Kd.zM | apply Kd.zN)); exact HO_11.out) hb); have n1_ := zA.mk (Kd.zT (by (with_reducible repeat (first | apply Kd.zL | apply Kd.zM | apply Kd.zN)); exact HO_16.out) hb); have n2_ := zA.mk (Kd.zT (by (with_reducible repeat (first | apply Kd.zL | apply Kd.zM | apply Kd.zN)); exact HO_531000.out) hb); have n3_ := zA.mk (Kd.zT (by (with_reducible repeat (first | apply Kd.zL | apply Kd.zM | apply Kd.zN)); exact HO_531001.out) hb); have n4_ := zA.mk (Kd.zT (by (with_reducible repeat (first | apply Kd.zL | apply Kd.zM | apply Kd.zN)); exact HO546.out) hb); have n5_ := zA.mk (zK (g := gb511) (o := .cells #[.int .u8 a1_0, .int .u8 a1_1, .int .u8 a1_2, .int .u16 a1_3, .int .u16 a1_4, .float .f64 a1_5] 26 (0, 0)) (by (with_reducible repeat (first | refine zC ?_ _ | refine zD ?_ | refine zB ?_ _)); exact BK511.out) hb); have n6_ := zA.mk (zK (g := gb530) (o := .cells #[.slice Ao44 t518.length co44, .slice Ao46 t521.length co46] 31 (0, 0)) (by (with_reducible repeat (first | refine zC ?_ _ | refine zD ?_ | refine zB ?_ _)); exact BK530.out) hb); have n7_ := zA.mk (zK (g := gb531) (o := .cells #[.int .i64 t524, .int .i64 t525, .int .u8 t526, .int .i64 t527, .int .i64 t528, .float .f64 t529] 35 (0, 0)) (by (with_reducible repeat (first | refine zC ?_ _ | refine zD ?_ | refine zB ?_ _)); exact BK531.out) hb); have n8_ := zA.mk (below_step (by repeat (first | (with_reducible first | exact HB.out | apply zJ | apply zF | apply zI | refine zE ?_ GE511.out | refine zE ?_ GE530.out | refine zE ?_ GE531.out) | exact HB.out)) hb); clear HO_11; clear HO_16; clear HO_531000; clear HO_531001; clear HO546; clear BK511; clear BK530; clear BK531; clear HB; have HO_11 := n0_; have HO_16 := n1_; have HO_531000 := n2_; have HO_531001 := n3_; have HO546 := n4_; have BK511 := n5_; have BK530 := n6_; have BK531 := n7_; have HB := n8_; clear n0_ n1_ n2_ n3_ n4_ n5_ n6_ n7_ n8_; (try clear hb); (try clear hb2); (try clear hk); (try clear hi)))
            go_roundg k4
            case measure => have := HK1.out; have := HK2.out; have := HK3.out; have := HK4.out; omega
            case rel => exact ⟨(t547), (true), (y544), (wrap64 (x17_3 + 1)), (by first | rfl | (simp; done) | (simp [*]; done)), (by first | rfl | (simp; done) | (simp [*]; done)), (by first | rfl | (simp; done) | (simp [*]; done)), H', ⟨by have := HK1.out; have := HK2.out; have := HK3.out; have := HK4.out; omega⟩, ⟨by (with_reducible repeat (first | apply Kd.zL | apply Kd.zM | apply Kd.zN)); exact Kd.zX HO_11.out (fun _ hk => hk.2)⟩, ⟨by (with_reducible repeat (first | apply Kd.zL | apply Kd.zM | apply Kd.zN)); exact Kd.zX HO546.out (fun _ hk => hk.1)⟩, ⟨by (with_reducible repeat (first | apply Kd.zL | apply Kd.zM | apply Kd.zN)); exact HO_531000.out⟩, ⟨by (with_reducible repeat (first | apply Kd.zL | apply Kd.zM | apply Kd.zN)); exact HO_531001.out⟩, ⟨by (with_reducible repeat (first | refine zC ?_ _ | refine zD ?_ | refine zB ?_ _)); exact BK511.out⟩, ⟨by (with_reducible repeat (first | refine zC ?_ _ | refine zD ?_ | refine zB ?_ _)); exact BK530.out⟩, ⟨by (with_reducible repeat (first | refine zC ?_ _ | refine zD ?_ | refine zB ?_ _)); exact BK531.out⟩, ⟨by repeat (first | (with_reducible first | exact HB.out | apply zJ | apply zF | apply zI | refine zE ?_ GE511.out | refine zE ?_ GE530.out | refine zE ?_ GE531.out) | exact HB.out)⟩⟩
          subst c87; have H1 : (if t547 < x14_3 then (l5_BestLeast.l2 k4 (t518.length : Int) t535 x11_2 t547 true y544 (wrap64 (x17_3 + 1)) t518 t521 t524 t525 t526 t527 t528 t529) else (if t547 = x14_3 then ((l5_sooner.f k4 y544 x16_3).bind fun t549 => (if t549 = true then (l5_BestLeast.l2 k4 (t518.length : Int) t535 x11_2 t547 true y544 (wrap64 (x17_3 + 1)) t518 t521 t524 t525 t526 t527 t528 t529) else (l5_BestLeast.l2 k4 (t518.length : Int) t535 x11_2 x14_3 true x16_3 (wrap64 (x17_3 + 1)) t518 t521 t524 t525 t526 t527 t528 t529))) else (l5_BestLeast.l2 k4 (t518.length : Int) t535 x11_2 x14_3 true x16_3 (wrap64 (x17_3 + 1)) t518 t521 t524 t525 t526 t527 t528 t529))) = some r := by rw [if_pos rfl] at H; exact H
          clear H; have H := H1; clear H1; by_cases c88 : t547 < x14_3
          · rw [if_pos c88] at H
            have c88b0 : decide (t547 < x14_3) = true := decide_eq_true c88
            clear c88; have H' := zA.mk H
            clear H; go_wp2_with (first | ((with_reducible refine gate_builtin (b := .append) (xs := #[.tmp 93, .tmp 95]) rfl ?_); (try (refine gate_guard (by rfl) ?_; dsimp only)); at_builtin; refine Kd.R_append (Kd.int .i64) (w0 := w) w.heap.size rfl (.tmp 93) (.tmp 95) 37 3 (.int .i64 0) 8 rfl Try.underlying37 info3 rfl (by decide) (by omega) u18 x18_4 (t518.length : Int) [.int .i64 (t518.length : Int)] (fun k_ => some k_ ≠ (u11 : Value).ownBlock ∧ some k_ ≠ (u16 : Value).ownBlock) (fun _ => False) rfl rfl ?aP (fun _ hk => hk.elim) ?aF ?aO ?aB ?aS ?aL ?_; (case aP => exact rfl); (case aB => exact (by repeat (first | (with_reducible first | exact HB.out | apply zJ | apply zF | apply zI | refine zE ?_ GE511.out | refine zE ?_ GE530.out | refine zE ?_ GE531.out) | exact HB.out))); (case aF => exact (fun k_ hk => ⟨Kd.fresh' (Kd.R_lt (by (with_reducible repeat (first | apply Kd.zL | apply Kd.zM | apply Kd.zN)); exact HO_11.out)) k_ hk, Kd.fresh' (Kd.R_lt (by (with_reducible repeat (first | apply Kd.zL | apply Kd.zM | apply Kd.zN)); exact HO_16.out)) k_ hk⟩)); (case aO => exact (by (with_reducible repeat (first | apply Kd.zL | apply Kd.zM | apply Kd.zN)); exact HO_18.out)); (case aS => exact (below_size (by repeat (first | (with_reducible first | exact HB.out | apply zJ | apply zF | apply zI | refine zE ?_ GE511.out | refine zE ?_ GE530.out | refine zE ?_ GE531.out) | exact HB.out)))); (case aL => have := LMc84.out; omega); intro v545 w89 ho hb hg hat; rw [← Ny544.out] at ho; have n0_ := zA.mk (Kd.R_after (ok := (fun k_ => some k_ ≠ (u16 : Value).ownBlock)) (by (with_reducible repeat (first | apply Kd.zL | apply Kd.zM | apply Kd.zN)); exact HO_11.out) hg hat); have n1_ := zA.mk (Kd.R_after (ok := (fun k_ => some k_ ≠ (u11 : Value).ownBlock)) (by (with_reducible repeat (first | apply Kd.zL | apply Kd.zM | apply Kd.zN)); exact HO_16.out) hg hat); have n2_ := zA.mk (Kd.R_over' (by (with_reducible repeat (first | apply Kd.zL | apply Kd.zM | apply Kd.zN)); exact HO_531000.out) (Kd.R_typed (by (with_reducible repeat (first | apply Kd.zL | apply Kd.zM | apply Kd.zN)); exact HO_18.out)) (by decide) hg); have n3_ := zA.mk (Kd.R_over' (by (with_reducible repeat (first | apply Kd.zL | apply Kd.zM | apply Kd.zN)); exact HO_531001.out) (Kd.R_typed (by (with_reducible repeat (first | apply Kd.zL | apply Kd.zM | apply Kd.zN)); exact HO_18.out)) (by decide) hg); have n4_ := zA.mk (blk_grown (g := gb511) (o := .cells #[.int .u8 a1_0, .int .u8 a1_1, .int .u8 a1_2, .int .u16 a1_3, .int .u16 a1_4, .float .f64 a1_5] 26 (0, 0)) (by (with_reducible repeat (first | refine zC ?_ _ | refine zD ?_ | refine zB ?_ _)); exact BK511.out) hg (Kd.R_ne HO_18.out BK511.out (by decide))); have n5_ := zA.mk (blk_grown (g := gb530) (o := .cells #[.slice Ao44 t518.length co44, .slice Ao46 t521.length co46] 31 (0, 0)) (by (with_reducible repeat (first | refine zC ?_ _ | refine zD ?_ | refine zB ?_ _)); exact BK530.out) hg (Kd.R_ne HO_18.out BK530.out (by decide))); have n6_ := zA.mk (blk_grown (g := gb531) (o := .cells #[.int .i64 t524, .int .i64 t525, .int .u8 t526, .int .i64 t527, .int .i64 t528, .float .f64 t529] 35 (0, 0)) (by (with_reducible repeat (first | refine zC ?_ _ | refine zD ?_ | refine zB ?_ _)); exact BK531.out) hg (Kd.R_ne HO_18.out BK531.out (by decide))); have n7_ := zA.mk (hb); have n8_ := zA.mk (ho); clear HO_11; clear HO_16; clear HO_531000; clear HO_531001; clear BK511; clear BK530; clear BK531; clear HB; clear HO_18; have HO_11 := n0_; have HO_16 := n1_; have HO_531000 := n2_; have HO_531001 := n3_; have BK511 := n4_; have BK530 := n5_; have BK531 := n6_; have HB := n7_; have HO546 := n8_; clear n0_ n1_ n2_ n3_ n4_ n5_ n6_ n7_ n8_; clear ho hb hg hat; have hnb90 := NB530_511.out; have hnc90 := NB511_530.out; have hnb91 := NB530_531.out; have hnc91 := NB531_530.out; have hcz92_0 : w89.cell? ⟨gb530, 0, none⟩ = some (.slice Ao44 t518.length co44) := (zG BK530.out 0).trans rfl; have hcz92_1 : w89.cell? ⟨gb530, 1, none⟩ = some (.slice Ao46 t521.length co46) := (zG BK530.out 1).trans rfl; have hfz92_0 := zH BK530.out 0; have hfz92_1 := zH BK530.out 1; have hnb93 := NB531_511.out; have hnc93 := NB511_531.out; have hcz94_0 : w89.cell? ⟨gb531, 0, none⟩ = some (.int .i64 t524) := (zG BK531.out 0).trans rfl; have hcz94_1 : w89.cell? ⟨gb531, 1, none⟩ = some (.int .i64 t525) := (zG BK531.out 1).trans rfl; have hcz94_2 : w89.cell? ⟨gb531, 2, none⟩ = some (.int .u8 t526) := (zG BK531.out 2).trans rfl; have hcz94_3 : w89.cell? ⟨gb531, 3, none⟩ = some (.int .i64 t527) := (zG BK531.out 3).trans rfl; have hcz94_4 : w89.cell? ⟨gb531, 4, none⟩ = some (.int .i64 t528) := (zG BK531.out 4).trans rfl; have hcz94_5 : w89.cell? ⟨gb531, 5, none⟩ = some (.float .f64 t529) := (zG BK531.out 5).trans rfl; have hfz94_0 := zH BK531.out 0; have hfz94_1 := zH BK531.out 1; have hfz94_2 := zH BK531.out 2; have hfz94_3 := zH BK531.out 3; have hfz94_4 := zH BK531.out 4; have hfz94_5 := zH BK531.out 5; obtain ⟨Ao95, co95, eo95⟩ := Kd.zV HO546.out; subst eo95) | ((with_reducible refine gate_callee (f := 21) rfl ?_); refine goesL_ (some 101) rfl rfl Try.func21 (by kernel_rfl) rfl #[.agg #[.slice Ao44 t518.length co44, .slice Ao46 t521.length co46], .slice Ao95 y544.length co95, .agg #[.int .i64 t524, .int .i64 t525, .int .u8 t526, .int .i64 t527, .int .i64 t528, .float .f64 t529]] rfl (by (try simp only [List.map_toArray, List.map_cons, List.map_nil]); first | done | rfl | (simp only [List.length_drop, List.length_take]; rfl)) ?_; (with_reducible refine (l5_all.calls k4 _ _ t518 _ _ t521 _ _ y544 t524 t525 t526 t527 t528 t529 t547 true _ ?side1 ?side2 ?side3 ?side4 ?side5 ?side6 A85.out).mono ?_); (case side1 => repeat (first | exact (Kd.zS HO_531000.out).2.2 | (with_reducible refine Kd.zO ?_ _) | (with_reducible refine Kd.zP ?_ _) | (with_reducible refine Kd.zQ ?_))); (case side2 => exact (Kd.zS HO_531000.out).2.1); (case side3 => repeat (first | exact (Kd.zS HO_531001.out).2.2 | (with_reducible refine Kd.zO ?_ _) | (with_reducible refine Kd.zP ?_ _) | (with_reducible refine Kd.zQ ?_))); (case side4 => exact (Kd.zS HO_531001.out).2.1); (case side5 => repeat (first | exact (Kd.zS HO546.out).2.2 | (with_reducible refine Kd.zO ?_ _) | (with_reducible refine Kd.zP ?_ _) | (with_reducible refine Kd.zQ ?_))); (case side6 => exact (Kd.zS HO546.out).2.1); rintro e w96 ⟨rfl, hb⟩; refine ⟨_, rfl, ?_⟩; have n0_ := zA.mk (Kd.zT (by (with_reducible repeat (first | apply Kd.zL | apply Kd.zM | apply Kd.zN)); exact HO_11.out) hb); have n1_ := zA.mk (Kd.zT (by (with_reducible repeat (first | apply Kd.zL | apply Kd.zM | apply Kd.zN)); exact HO_16.out) hb); have n2_ := zA.mk (Kd.zT (by (with_reducible repeat (first | apply Kd.zL | apply Kd.zM | apply Kd.zN)); exact HO_531000.out) hb); have n3_ := zA.mk (Kd.zT (by (with_reducible repeat (first | apply Kd.zL | apply Kd.zM | apply Kd.zN)); exact HO_531001.out) hb); have n4_ := zA.mk (Kd.zT (by (with_reducible repeat (first | apply Kd.zL | apply Kd.zM | apply Kd.zN)); exact HO546.out) hb); have n5_ := zA.mk (zK (g := gb511) (o := .cells #[.int .u8 a1_0, .int .u8 a1_1, .int .u8 a1_2, .int .u16 a1_3, .int .u16 a1_4, .float .f64 a1_5] 26 (0, 0)) (by (with_reducible repeat (first | refine zC ?_ _ | refine zD ?_ | refine zB ?_ _)); exact BK511.out) hb); have n6_ := zA.mk (zK (g := gb530) (o := .cells #[.slice Ao44 t518.length co44, .slice Ao46 t521.length co46] 31 (0, 0)) (by (with_reducible repeat (first | refine zC ?_ _ | refine zD ?_ | refine zB ?_ _)); exact BK530.out) hb); have n7_ := zA.mk (zK (g := gb531) (o := .cells #[.int .i64 t524, .int .i64 t525, .int .u8 t526, .int .i64 t527, .int .i64 t528, .float .f64 t529] 35 (0, 0)) (by (with_reducible repeat (first | refine zC ?_ _ | refine zD ?_ | refine zB ?_ _)); exact BK531.out) hb); have n8_ := zA.mk (below_step (by repeat (first | (with_reducible first | exact HB.out | apply zJ | apply zF | apply zI | refine zE ?_ GE511.out | refine zE ?_ GE530.out | refine zE ?_ GE531.out) | exact HB.out)) hb); clear HO_11; clear HO_16; clear HO_531000; clear HO_531001; clear HO546; clear BK511; clear BK530; clear BK531; clear HB; have HO_11 := n0_; have HO_16 := n1_; have HO_531000 := n2_; have HO_531001 := n3_; have HO546 := n4_; have BK511 := n5_; have BK530 := n6_; have BK531 := n7_; have HB := n8_; clear n0_ n1_ n2_ n3_ n4_ n5_ n6_ n7_ n8_; (try clear hb); (try clear hb2); (try clear hk); (try clear hi)))
            go_roundg k4
            case measure => have := HK1.out; have := HK2.out; have := HK3.out; have := HK4.out; omega
            case rel => exact ⟨(t547), (true), (y544), (wrap64 (x17_3 + 1)), (by first | rfl | (simp; done) | (simp [*]; done)), (by first | rfl | (simp; done) | (simp [*]; done)), (by first | rfl | (simp; done) | (simp [*]; done)), H', ⟨by have := HK1.out; have := HK2.out; have := HK3.out; have := HK4.out; omega⟩, ⟨by (with_reducible repeat (first | apply Kd.zL | apply Kd.zM | apply Kd.zN)); exact Kd.zX HO_11.out (fun _ hk => hk.2)⟩, ⟨by (with_reducible repeat (first | apply Kd.zL | apply Kd.zM | apply Kd.zN)); exact Kd.zX HO546.out (fun _ hk => hk.1)⟩, ⟨by (with_reducible repeat (first | apply Kd.zL | apply Kd.zM | apply Kd.zN)); exact HO_531000.out⟩, ⟨by (with_reducible repeat (first | apply Kd.zL | apply Kd.zM | apply Kd.zN)); exact HO_531001.out⟩, ⟨by (with_reducible repeat (first | refine zC ?_ _ | refine zD ?_ | refine zB ?_ _)); exact BK511.out⟩, ⟨by (with_reducible repeat (first | refine zC ?_ _ | refine zD ?_ | refine zB ?_ _)); exact BK530.out⟩, ⟨by (with_reducible repeat (first | refine zC ?_ _ | refine zD ?_ | refine zB ?_ _)); exact BK531.out⟩, ⟨by repeat (first | (with_reducible first | exact HB.out | apply zJ | apply zF | apply zI | refine zE ?_ GE511.out | refine zE ?_ GE530.out | refine zE ?_ GE531.out) | exact HB.out)⟩⟩
          rw [if_neg c88] at H; have c88b0 : decide (t547 < x14_3) = false := decide_eq_false c88
          clear c88; by_cases c97 : t547 = x14_3
          rotate_left
          · rw [if_neg c97] at H
            have c97b0 : (t547 == x14_3) = false := beq_eq_false_iff_ne.mpr c97
            have c97b1 : (t547 != x14_3) = true := bne_iff_ne.mpr c97
            have H' := zA.mk H
            clear H; go_wp2_with (first | ((with_reducible refine gate_builtin (b := .append) (xs := #[.tmp 93, .tmp 95]) rfl ?_); (try (refine gate_guard (by rfl) ?_; dsimp only)); at_builtin; refine Kd.R_append (Kd.int .i64) (w0 := w) w.heap.size rfl (.tmp 93) (.tmp 95) 37 3 (.int .i64 0) 8 rfl Try.underlying37 info3 rfl (by decide) (by omega) u18 x18_4 (t518.length : Int) [.int .i64 (t518.length : Int)] (fun k_ => some k_ ≠ (u11 : Value).ownBlock ∧ some k_ ≠ (u16 : Value).ownBlock) (fun _ => False) rfl rfl ?aP (fun _ hk => hk.elim) ?aF ?aO ?aB ?aS ?aL ?_; (case aP => exact rfl); (case aB => exact (by repeat (first | (with_reducible first | exact HB.out | apply zJ | apply zF | apply zI | refine zE ?_ GE511.out | refine zE ?_ GE530.out | refine zE ?_ GE531.out) | exact HB.out))); (case aF => exact (fun k_ hk => ⟨Kd.fresh' (Kd.R_lt (by (with_reducible repeat (first | apply Kd.zL | apply Kd.zM | apply Kd.zN)); exact HO_11.out)) k_ hk, Kd.fresh' (Kd.R_lt (by (with_reducible repeat (first | apply Kd.zL | apply Kd.zM | apply Kd.zN)); exact HO_16.out)) k_ hk⟩)); (case aO => exact (by (with_reducible repeat (first | apply Kd.zL | apply Kd.zM | apply Kd.zN)); exact HO_18.out)); (case aS => exact (below_size (by repeat (first | (with_reducible first | exact HB.out | apply zJ | apply zF | apply zI | refine zE ?_ GE511.out | refine zE ?_ GE530.out | refine zE ?_ GE531.out) | exact HB.out)))); (case aL => have := LMc84.out; omega); intro v545 w118 ho hb hg hat; rw [← Ny544.out] at ho; have n0_ := zA.mk (Kd.R_after (ok := (fun k_ => some k_ ≠ (u16 : Value).ownBlock)) (by (with_reducible repeat (first | apply Kd.zL | apply Kd.zM | apply Kd.zN)); exact HO_11.out) hg hat); have n1_ := zA.mk (Kd.R_after (ok := (fun k_ => some k_ ≠ (u11 : Value).ownBlock)) (by (with_reducible repeat (first | apply Kd.zL | apply Kd.zM | apply Kd.zN)); exact HO_16.out) hg hat); have n2_ := zA.mk (Kd.R_over' (by (with_reducible repeat (first | apply Kd.zL | apply Kd.zM | apply Kd.zN)); exact HO_531000.out) (Kd.R_typed (by (with_reducible repeat (first | apply Kd.zL | apply Kd.zM | apply Kd.zN)); exact HO_18.out)) (by decide) hg); have n3_ := zA.mk (Kd.R_over' (by (with_reducible repeat (first | apply Kd.zL | apply Kd.zM | apply Kd.zN)); exact HO_531001.out) (Kd.R_typed (by (with_reducible repeat (first | apply Kd.zL | apply Kd.zM | apply Kd.zN)); exact HO_18.out)) (by decide) hg); have n4_ := zA.mk (blk_grown (g := gb511) (o := .cells #[.int .u8 a1_0, .int .u8 a1_1, .int .u8 a1_2, .int .u16 a1_3, .int .u16 a1_4, .float .f64 a1_5] 26 (0, 0)) (by (with_reducible repeat (first | refine zC ?_ _ | refine zD ?_ | refine zB ?_ _)); exact BK511.out) hg (Kd.R_ne HO_18.out BK511.out (by decide))); have n5_ := zA.mk (blk_grown (g := gb530) (o := .cells #[.slice Ao44 t518.length co44, .slice Ao46 t521.length co46] 31 (0, 0)) (by (with_reducible repeat (first | refine zC ?_ _ | refine zD ?_ | refine zB ?_ _)); exact BK530.out) hg (Kd.R_ne HO_18.out BK530.out (by decide))); have n6_ := zA.mk (blk_grown (g := gb531) (o := .cells #[.int .i64 t524, .int .i64 t525, .int .u8 t526, .int .i64 t527, .int .i64 t528, .float .f64 t529] 35 (0, 0)) (by (with_reducible repeat (first | refine zC ?_ _ | refine zD ?_ | refine zB ?_ _)); exact BK531.out) hg (Kd.R_ne HO_18.out BK531.out (by decide))); have n7_ := zA.mk (hb); have n8_ := zA.mk (ho); clear HO_11; clear HO_16; clear HO_531000; clear HO_531001; clear BK511; clear BK530; clear BK531; clear HB; clear HO_18; have HO_11 := n0_; have HO_16 := n1_; have HO_531000 := n2_; have HO_531001 := n3_; have BK511 := n4_; have BK530 := n5_; have BK531 := n6_; have HB := n7_; have HO546 := n8_; clear n0_ n1_ n2_ n3_ n4_ n5_ n6_ n7_ n8_; clear ho hb hg hat; have hnb119 := NB530_511.out; have hnc119 := NB511_530.out; have hnb120 := NB530_531.out; have hnc120 := NB531_530.out; have hcz121_0 : w118.cell? ⟨gb530, 0, none⟩ = some (.slice Ao44 t518.length co44) := (zG BK530.out 0).trans rfl; have hcz121_1 : w118.cell? ⟨gb530, 1, none⟩ = some (.slice Ao46 t521.length co46) := (zG BK530.out 1).trans rfl; have hfz121_0 := zH BK530.out 0; have hfz121_1 := zH BK530.out 1; have hnb122 := NB531_511.out; have hnc122 := NB511_531.out; have hcz123_0 : w118.cell? ⟨gb531, 0, none⟩ = some (.int .i64 t524) := (zG BK531.out 0).trans rfl; have hcz123_1 : w118.cell? ⟨gb531, 1, none⟩ = some (.int .i64 t525) := (zG BK531.out 1).trans rfl; have hcz123_2 : w118.cell? ⟨gb531, 2, none⟩ = some (.int .u8 t526) := (zG BK531.out 2).trans rfl; have hcz123_3 : w118.cell? ⟨gb531, 3, none⟩ = some (.int .i64 t527) := (zG BK531.out 3).trans rfl; have hcz123_4 : w118.cell? ⟨gb531, 4, none⟩ = some (.int .i64 t528) := (zG BK531.out 4).trans rfl; have hcz123_5 : w118.cell? ⟨gb531, 5, none⟩ = some (.float .f64 t529) := (zG BK531.out 5).trans rfl; have hfz123_0 := zH BK531.out 0; have hfz123_1 := zH BK531.out 1; have hfz123_2 := zH BK531.out 2; have hfz123_3 := zH BK531.out 3; have hfz123_4 := zH BK531.out 4; have hfz123_5 := zH BK531.out 5; obtain ⟨Ao124, co124, eo124⟩ := Kd.zV HO546.out; subst eo124) | ((with_reducible refine gate_callee (f := 21) rfl ?_); refine goesL_ (some 101) rfl rfl Try.func21 (by kernel_rfl) rfl #[.agg #[.slice Ao44 t518.length co44, .slice Ao46 t521.length co46], .slice Ao124 y544.length co124, .agg #[.int .i64 t524, .int .i64 t525, .int .u8 t526, .int .i64 t527, .int .i64 t528, .float .f64 t529]] rfl (by (try simp only [List.map_toArray, List.map_cons, List.map_nil]); first | done | rfl | (simp only [List.length_drop, List.length_take]; rfl)) ?_; (with_reducible refine (l5_all.calls k4 _ _ t518 _ _ t521 _ _ y544 t524 t525 t526 t527 t528 t529 t547 true _ ?side1 ?side2 ?side3 ?side4 ?side5 ?side6 A85.out).mono ?_); (case side1 => repeat (first | exact (Kd.zS HO_531000.out).2.2 | (with_reducible refine Kd.zO ?_ _) | (with_reducible refine Kd.zP ?_ _) | (with_reducible refine Kd.zQ ?_))); (case side2 => exact (Kd.zS HO_531000.out).2.1); (case side3 => repeat (first | exact (Kd.zS HO_531001.out).2.2 | (with_reducible refine Kd.zO ?_ _) | (with_reducible refine Kd.zP ?_ _) | (with_reducible refine Kd.zQ ?_))); (case side4 => exact (Kd.zS HO_531001.out).2.1); (case side5 => repeat (first | exact (Kd.zS HO546.out).2.2 | (with_reducible refine Kd.zO ?_ _) | (with_reducible refine Kd.zP ?_ _) | (with_reducible refine Kd.zQ ?_))); (case side6 => exact (Kd.zS HO546.out).2.1); rintro e w125 ⟨rfl, hb⟩; refine ⟨_, rfl, ?_⟩; have n0_ := zA.mk (Kd.zT (by (with_reducible repeat (first | apply Kd.zL | apply Kd.zM | apply Kd.zN)); exact HO_11.out) hb); have n1_ := zA.mk (Kd.zT (by (with_reducible repeat (first | apply Kd.zL | apply Kd.zM | apply Kd.zN)); exact HO_16.out) hb); have n2_ := zA.mk (Kd.zT (by (with_reducible repeat (first | apply Kd.zL | apply Kd.zM | apply Kd.zN)); exact HO_531000.out) hb); have n3_ := zA.mk (Kd.zT (by (with_reducible repeat (first | apply Kd.zL | apply Kd.zM | apply Kd.zN)); exact HO_531001.out) hb); have n4_ := zA.mk (Kd.zT (by (with_reducible repeat (first | apply Kd.zL | apply Kd.zM | apply Kd.zN)); exact HO546.out) hb); have n5_ := zA.mk (zK (g := gb511) (o := .cells #[.int .u8 a1_0, .int .u8 a1_1, .int .u8 a1_2, .int .u16 a1_3, .int .u16 a1_4, .float .f64 a1_5] 26 (0, 0)) (by (with_reducible repeat (first | refine zC ?_ _ | refine zD ?_ | refine zB ?_ _)); exact BK511.out) hb); have n6_ := zA.mk (zK (g := gb530) (o := .cells #[.slice Ao44 t518.length co44, .slice Ao46 t521.length co46] 31 (0, 0)) (by (with_reducible repeat (first | refine zC ?_ _ | refine zD ?_ | refine zB ?_ _)); exact BK530.out) hb); have n7_ := zA.mk (zK (g := gb531) (o := .cells #[.int .i64 t524, .int .i64 t525, .int .u8 t526, .int .i64 t527, .int .i64 t528, .float .f64 t529] 35 (0, 0)) (by (with_reducible repeat (first | refine zC ?_ _ | refine zD ?_ | refine zB ?_ _)); exact BK531.out) hb); have n8_ := zA.mk (below_step (by repeat (first | (with_reducible first | exact HB.out | apply zJ | apply zF | apply zI | refine zE ?_ GE511.out | refine zE ?_ GE530.out | refine zE ?_ GE531.out) | exact HB.out)) hb); clear HO_11; clear HO_16; clear HO_531000; clear HO_531001; clear HO546; clear BK511; clear BK530; clear BK531; clear HB; have HO_11 := n0_; have HO_16 := n1_; have HO_531000 := n2_; have HO_531001 := n3_; have HO546 := n4_; have BK511 := n5_; have BK530 := n6_; have BK531 := n7_; have HB := n8_; clear n0_ n1_ n2_ n3_ n4_ n5_ n6_ n7_ n8_; (try clear hb); (try clear hb2); (try clear hk); (try clear hi)))
            go_roundg k4
            case measure => have := HK1.out; have := HK2.out; have := HK3.out; have := HK4.out; omega
            case rel => exact ⟨(x14_3), (true), (x16_3), (wrap64 (x17_3 + 1)), (by first | rfl | (simp; done) | (simp [*]; done)), (by first | rfl | (simp; done) | (simp [*]; done)), (by first | rfl | (simp; done) | (simp [*]; done)), H', ⟨by have := HK1.out; have := HK2.out; have := HK3.out; have := HK4.out; omega⟩, ⟨by (with_reducible repeat (first | apply Kd.zL | apply Kd.zM | apply Kd.zN)); exact Kd.zX HO_11.out (fun _ hk => hk.1)⟩, ⟨by (with_reducible repeat (first | apply Kd.zL | apply Kd.zM | apply Kd.zN)); exact Kd.zX HO_16.out (fun _ hk => hk.1)⟩, ⟨by (with_reducible repeat (first | apply Kd.zL | apply Kd.zM | apply Kd.zN)); exact HO_531000.out⟩, ⟨by (with_reducible repeat (first | apply Kd.zL | apply Kd.zM | apply Kd.zN)); exact HO_531001.out⟩, ⟨by (with_reducible repeat (first | refine zC ?_ _ | refine zD ?_ | refine zB ?_ _)); exact BK511.out⟩, ⟨by (with_reducible repeat (first | refine zC ?_ _ | refine zD ?_ | refine zB ?_ _)); exact BK530.out⟩, ⟨by (with_reducible repeat (first | refine zC ?_ _ | refine zD ?_ | refine zB ?_ _)); exact BK531.out⟩, ⟨by repeat (first | (with_reducible first | exact HB.out | apply zJ | apply zF | apply zI | refine zE ?_ GE511.out | refine zE ?_ GE530.out | refine zE ?_ GE531.out) | exact HB.out)⟩⟩
          rw [if_pos c97] at H; have c97b0 : (t547 == x14_3) = true := beq_iff_eq.mpr c97
          have c97b1 : (t547 != x14_3) = false := bne_eq_false_iff_eq.mpr c97
          clear c97; replace H := Option.bind_eq_some_iff.mp H; obtain ⟨t549, A980, H⟩ := H; replace H : (if t549 = true then (l5_BestLeast.l2 k4 (t518.length : Int) t535 x11_2 t547 true y544 (wrap64 (x17_3 + 1)) t518 t521 t524 t525 t526 t527 t528 t529) else (l5_BestLeast.l2 k4 (t518.length : Int) t535 x11_2 x14_3 true x16_3 (wrap64 (x17_3 + 1)) t518 t521 t524 t525 t526 t527 t528 t529)) = some r := H; have A98 := zA.mk A980; clear A980; by_cases c99 : t549 = true
          · subst c99
            have H1 : (l5_BestLeast.l2 k4 (t518.length : Int) t535 x11_2 t547 true y544 (wrap64 (x17_3 + 1)) t518 t521 t524 t525 t526 t527 t528 t529) = some r := by rw [if_pos rfl] at H; exact H
            clear H; have H := H1; clear H1; have H' := zA.mk H
            clear H; go_wp2_with (first | ((with_reducible refine gate_builtin (b := .append) (xs := #[.tmp 93, .tmp 95]) rfl ?_); (try (refine gate_guard (by rfl) ?_; dsimp only)); at_builtin; refine Kd.R_append (Kd.int .i64) (w0 := w) w.heap.size rfl (.tmp 93) (.tmp 95) 37 3 (.int .i64 0) 8 rfl Try.underlying37 info3 rfl (by decide) (by omega) u18 x18_4 (t518.length : Int) [.int .i64 (t518.length : Int)] (fun k_ => some k_ ≠ (u11 : Value).ownBlock ∧ some k_ ≠ (u16 : Value).ownBlock) (fun _ => False) rfl rfl ?aP (fun _ hk => hk.elim) ?aF ?aO ?aB ?aS ?aL ?_; (case aP => exact rfl); (case aB => exact (by repeat (first | (with_reducible first | exact HB.out | apply zJ | apply zF | apply zI | refine zE ?_ GE511.out | refine zE ?_ GE530.out | refine zE ?_ GE531.out) | exact HB.out))); (case aF => exact (fun k_ hk => ⟨Kd.fresh' (Kd.R_lt (by (with_reducible repeat (first | apply Kd.zL | apply Kd.zM | apply Kd.zN)); exact HO_11.out)) k_ hk, Kd.fresh' (Kd.R_lt (by (with_reducible repeat (first | apply Kd.zL | apply Kd.zM | apply Kd.zN)); exact HO_16.out)) k_ hk⟩)); (case aO => exact (by (with_reducible repeat (first | apply Kd.zL | apply Kd.zM | apply Kd.zN)); exact HO_18.out)); (case aS => exact (below_size (by repeat (first | (with_reducible first | exact HB.out | apply zJ | apply zF | apply zI | refine zE ?_ GE511.out | refine zE ?_ GE530.out | refine zE ?_ GE531.out) | exact HB.out)))); (case aL => have := LMc84.out; omega); intro v545 w100 ho hb hg hat; rw [← Ny544.out] at ho; have n0_ := zA.mk (Kd.R_after (ok := (fun k_ => some k_ ≠ (u16 : Value).ownBlock)) (by (with_reducible repeat (first | apply Kd.zL | apply Kd.zM | apply Kd.zN)); exact HO_11.out) hg hat); have n1_ := zA.mk (Kd.R_after (ok := (fun k_ => some k_ ≠ (u11 : Value).ownBlock)) (by (with_reducible repeat (first | apply Kd.zL | apply Kd.zM | apply Kd.zN)); exact HO_16.out) hg hat); have n2_ := zA.mk (Kd.R_over' (by (with_reducible repeat (first | apply Kd.zL | apply Kd.zM | apply Kd.zN)); exact HO_531000.out) (Kd.R_typed (by (with_reducible repeat (first | apply Kd.zL | apply Kd.zM | apply Kd.zN)); exact HO_18.out)) (by decide) hg); have n3_ := zA.mk (Kd.R_over' (by (with_reducible repeat (first | apply Kd.zL | apply Kd.zM | apply Kd.zN)); exact HO_531001.out) (Kd.R_typed (by (with_reducible repeat (first | apply Kd.zL | apply Kd.zM | apply Kd.zN)); exact HO_18.out)) (by decide) hg); have n4_ := zA.mk (blk_grown (g := gb511) (o := .cells #[.int .u8 a1_0, .int .u8 a1_1, .int .u8 a1_2, .int .u16 a1_3, .int .u16 a1_4, .float .f64 a1_5] 26 (0, 0)) (by (with_reducible repeat (first | refine zC ?_ _ | refine zD ?_ | refine zB ?_ _)); exact BK511.out) hg (Kd.R_ne HO_18.out BK511.out (by decide))); have n5_ := zA.mk (blk_grown (g := gb530) (o := .cells #[.slice Ao44 t518.length co44, .slice Ao46 t521.length co46] 31 (0, 0)) (by (with_reducible repeat (first | refine zC ?_ _ | refine zD ?_ | refine zB ?_ _)); exact BK530.out) hg (Kd.R_ne HO_18.out BK530.out (by decide))); have n6_ := zA.mk (blk_grown (g := gb531) (o := .cells #[.int .i64 t524, .int .i64 t525, .int .u8 t526, .int .i64 t527, .int .i64 t528, .float .f64 t529] 35 (0, 0)) (by (with_reducible repeat (first | refine zC ?_ _ | refine zD ?_ | refine zB ?_ _)); exact BK531.out) hg (Kd.R_ne HO_18.out BK531.out (by decide))); have n7_ := zA.mk (hb); have n8_ := zA.mk (ho); clear HO_11; clear HO_16; clear HO_531000; clear HO_531001; clear BK511; clear BK530; clear BK531; clear HB; clear HO_18; have HO_11 := n0_; have HO_16 := n1_; have HO_531000 := n2_; have HO_531001 := n3_; have BK511 := n4_; have BK530 := n5_; have BK531 := n6_; have HB := n7_; have HO546 := n8_; clear n0_ n1_ n2_ n3_ n4_ n5_ n6_ n7_ n8_; clear ho hb hg hat; have hnb101 := NB530_511.out; have hnc101 := NB511_530.out; have hnb102 := NB530_531.out; have hnc102 := NB531_530.out; have hcz103_0 : w100.cell? ⟨gb530, 0, none⟩ = some (.slice Ao44 t518.length co44) := (zG BK530.out 0).trans rfl; have hcz103_1 : w100.cell? ⟨gb530, 1, none⟩ = some (.slice Ao46 t521.length co46) := (zG BK530.out 1).trans rfl; have hfz103_0 := zH BK530.out 0; have hfz103_1 := zH BK530.out 1; have hnb104 := NB531_511.out; have hnc104 := NB511_531.out; have hcz105_0 : w100.cell? ⟨gb531, 0, none⟩ = some (.int .i64 t524) := (zG BK531.out 0).trans rfl; have hcz105_1 : w100.cell? ⟨gb531, 1, none⟩ = some (.int .i64 t525) := (zG BK531.out 1).trans rfl; have hcz105_2 : w100.cell? ⟨gb531, 2, none⟩ = some (.int .u8 t526) := (zG BK531.out 2).trans rfl; have hcz105_3 : w100.cell? ⟨gb531, 3, none⟩ = some (.int .i64 t527) := (zG BK531.out 3).trans rfl; have hcz105_4 : w100.cell? ⟨gb531, 4, none⟩ = some (.int .i64 t528) := (zG BK531.out 4).trans rfl; have hcz105_5 : w100.cell? ⟨gb531, 5, none⟩ = some (.float .f64 t529) := (zG BK531.out 5).trans rfl; have hfz105_0 := zH BK531.out 0; have hfz105_1 := zH BK531.out 1; have hfz105_2 := zH BK531.out 2; have hfz105_3 := zH BK531.out 3; have hfz105_4 := zH BK531.out 4; have hfz105_5 := zH BK531.out 5; obtain ⟨Ao106, co106, eo106⟩ := Kd.zV HO546.out; subst eo106) | ((with_reducible refine gate_callee (f := 21) rfl ?_); refine goesL_ (some 101) rfl rfl Try.func21 (by kernel_rfl) rfl #[.agg #[.slice Ao44 t518.length co44, .slice Ao46 t521.length co46], .slice Ao106 y544.length co106, .agg #[.int .i64 t524, .int .i64 t525, .int .u8 t526, .int .i64 t527, .int .i64 t528, .float .f64 t529]] rfl (by (try simp only [List.map_toArray, List.map_cons, List.map_nil]); first | done | rfl | (simp only [List.length_drop, List.length_take]; rfl)) ?_; (with_reducible refine (l5_all.calls k4 _ _ t518 _ _ t521 _ _ y544 t524 t525 t526 t527 t528 t529 t547 true _ ?side1 ?side2 ?side3 ?side4 ?side5 ?side6 A85.out).mono ?_); (case side1 => repeat (first | exact (Kd.zS HO_531000.out).2.2 | (with_reducible refine Kd.zO ?_ _) | (with_reducible refine Kd.zP ?_ _) | (with_reducible refine Kd.zQ ?_))); (case side2 => exact (Kd.zS HO_531000.out).2.1); (case side3 => repeat (first | exact (Kd.zS HO_531001.out).2.2 | (with_reducible refine Kd.zO ?_ _) | (with_reducible refine Kd.zP ?_ _) | (with_reducible refine Kd.zQ ?_))); (case side4 => exact (Kd.zS HO_531001.out).2.1); (case side5 => repeat (first | exact (Kd.zS HO546.out).2.2 | (with_reducible refine Kd.zO ?_ _) | (with_reducible refine Kd.zP ?_ _) | (with_reducible refine Kd.zQ ?_))); (case side6 => exact (Kd.zS HO546.out).2.1); rintro e w107 ⟨rfl, hb⟩; refine ⟨_, rfl, ?_⟩; have n0_ := zA.mk (Kd.zT (by (with_reducible repeat (first | apply Kd.zL | apply Kd.zM | apply Kd.zN)); exact HO_11.out) hb); have n1_ := zA.mk (Kd.zT (by (with_reducible repeat (first | apply Kd.zL | apply Kd.zM | apply Kd.zN)); exact HO_16.out) hb); have n2_ := zA.mk (Kd.zT (by (with_reducible repeat (first | apply Kd.zL | apply Kd.zM | apply Kd.zN)); exact HO_531000.out) hb); have n3_ := zA.mk (Kd.zT (by (with_reducible repeat (first | apply Kd.zL | apply Kd.zM | apply Kd.zN)); exact HO_531001.out) hb); have n4_ := zA.mk (Kd.zT (by (with_reducible repeat (first | apply Kd.zL | apply Kd.zM | apply Kd.zN)); exact HO546.out) hb); have n5_ := zA.mk (zK (g := gb511) (o := .cells #[.int .u8 a1_0, .int .u8 a1_1, .int .u8 a1_2, .int .u16 a1_3, .int .u16 a1_4, .float .f64 a1_5] 26 (0, 0)) (by (with_reducible repeat (first | refine zC ?_ _ | refine zD ?_ | refine zB ?_ _)); exact BK511.out) hb); have n6_ := zA.mk (zK (g := gb530) (o := .cells #[.slice Ao44 t518.length co44, .slice Ao46 t521.length co46] 31 (0, 0)) (by (with_reducible repeat (first | refine zC ?_ _ | refine zD ?_ | refine zB ?_ _)); exact BK530.out) hb); have n7_ := zA.mk (zK (g := gb531) (o := .cells #[.int .i64 t524, .int .i64 t525, .int .u8 t526, .int .i64 t527, .int .i64 t528, .float .f64 t529] 35 (0, 0)) (by (with_reducible repeat (first | refine zC ?_ _ | refine zD ?_ | refine zB ?_ _)); exact BK531.out) hb); have n8_ := zA.mk (below_step (by repeat (first | (with_reducible first | exact HB.out | apply zJ | apply zF | apply zI | refine zE ?_ GE511.out | refine zE ?_ GE530.out | refine zE ?_ GE531.out) | exact HB.out)) hb); clear HO_11; clear HO_16; clear HO_531000; clear HO_531001; clear HO546; clear BK511; clear BK530; clear BK531; clear HB; have HO_11 := n0_; have HO_16 := n1_; have HO_531000 := n2_; have HO_531001 := n3_; have HO546 := n4_; have BK511 := n5_; have BK530 := n6_; have BK531 := n7_; have HB := n8_; clear n0_ n1_ n2_ n3_ n4_ n5_ n6_ n7_ n8_; (try clear hb); (try clear hb2); (try clear hk); (try clear hi); obtain ⟨Ao108, co108, eo108⟩ := Kd.zV HO_16.out; subst eo108) | (go_at_call 22; (with_reducible refine (l5_sooner.calls k4 _ _ y544 _ _ x16_3 true _ ?side1 ?side2 ?side3 ?side4 A98.out).mono ?_); (case side1 => repeat (first | exact (Kd.zS HO546.out).2.2 | (with_reducible refine Kd.zO ?_ _) | (with_reducible refine Kd.zP ?_ _) | (with_reducible refine Kd.zQ ?_))); (case side2 => exact (Kd.zS HO546.out).2.1); (case side3 => repeat (first | exact (Kd.zS HO_16.out).2.2 | (with_reducible refine Kd.zO ?_ _) | (with_reducible refine Kd.zP ?_ _) | (with_reducible refine Kd.zQ ?_))); (case side4 => exact (Kd.zS HO_16.out).2.1); rintro e w' ⟨rfl, ⟨nd, rfl⟩⟩))
            go_roundg k4
            case measure => have := HK1.out; have := HK2.out; have := HK3.out; have := HK4.out; omega
            case rel => exact ⟨(t547), (true), (y544), (wrap64 (x17_3 + 1)), (by first | rfl | (simp; done) | (simp [*]; done)), (by first | rfl | (simp; done) | (simp [*]; done)), (by first | rfl | (simp; done) | (simp [*]; done)), H', ⟨by have := HK1.out; have := HK2.out; have := HK3.out; have := HK4.out; omega⟩, ⟨by (with_reducible repeat (first | apply Kd.zL | apply Kd.zM | apply Kd.zN)); exact Kd.zX HO_11.out (fun _ hk => hk.2)⟩, ⟨by (with_reducible repeat (first | apply Kd.zL | apply Kd.zM | apply Kd.zN)); exact Kd.zX HO546.out (fun _ hk => hk.1)⟩, ⟨by (with_reducible repeat (first | apply Kd.zL | apply Kd.zM | apply Kd.zN)); exact HO_531000.out⟩, ⟨by (with_reducible repeat (first | apply Kd.zL | apply Kd.zM | apply Kd.zN)); exact HO_531001.out⟩, ⟨by (with_reducible repeat (first | refine zC ?_ _ | refine zD ?_ | refine zB ?_ _)); exact BK511.out⟩, ⟨by (with_reducible repeat (first | refine zC ?_ _ | refine zD ?_ | refine zB ?_ _)); exact BK530.out⟩, ⟨by (with_reducible repeat (first | refine zC ?_ _ | refine zD ?_ | refine zB ?_ _)); exact BK531.out⟩, ⟨by repeat (first | (with_reducible first | exact HB.out | apply zJ | apply zF | apply zI | refine zE ?_ GE511.out | refine zE ?_ GE530.out | refine zE ?_ GE531.out) | exact HB.out)⟩⟩
          replace c99 := Bool.eq_false_iff.mpr c99; subst c99; have H1 : (l5_BestLeast.l2 k4 (t518.length : Int) t535 x11_2 x14_3 true x16_3 (wrap64 (x17_3 + 1)) t518 t521 t524 t525 t526 t527 t528 t529) = some r := by rw [if_neg (show ¬ (false = true) by decide)] at H; exact H
          clear H; have H := H1; clear H1; have H' := zA.mk H
          clear H; go_wp2_with (first | ((with_reducible refine gate_builtin (b := .append) (xs := #[.tmp 93, .tmp 95]) rfl ?_); (try (refine gate_guard (by rfl) ?_; dsimp only)); at_builtin; refine Kd.R_append (Kd.int .i64) (w0 := w) w.heap.size rfl (.tmp 93) (.tmp 95) 37 3 (.int .i64 0) 8 rfl Try.underlying37 info3 rfl (by decide) (by omega) u18 x18_4 (t518.length : Int) [.int .i64 (t518.length : Int)] (fun k_ => some k_ ≠ (u11 : Value).ownBlock ∧ some k_ ≠ (u16 : Value).ownBlock) (fun _ => False) rfl rfl ?aP (fun _ hk => hk.elim) ?aF ?aO ?aB ?aS ?aL ?_; (case aP => exact rfl); (case aB => exact (by repeat (first | (with_reducible first | exact HB.out | apply zJ | apply zF | apply zI | refine zE ?_ GE511.out | refine zE ?_ GE530.out | refine zE ?_ GE531.out) | exact HB.out))); (case aF => exact (fun k_ hk => ⟨Kd.fresh' (Kd.R_lt (by (with_reducible repeat (first | apply Kd.zL | apply Kd.zM | apply Kd.zN)); exact HO_11.out)) k_ hk, Kd.fresh' (Kd.R_lt (by (with_reducible repeat (first | apply Kd.zL | apply Kd.zM | apply Kd.zN)); exact HO_16.out)) k_ hk⟩)); (case aO => exact (by (with_reducible repeat (first | apply Kd.zL | apply Kd.zM | apply Kd.zN)); exact HO_18.out)); (case aS => exact (below_size (by repeat (first | (with_reducible first | exact HB.out | apply zJ | apply zF | apply zI | refine zE ?_ GE511.out | refine zE ?_ GE530.out | refine zE ?_ GE531.out) | exact HB.out)))); (case aL => have := LMc84.out; omega); intro v545 w109 ho hb hg hat; rw [← Ny544.out] at ho; have n0_ := zA.mk (Kd.R_after (ok := (fun k_ => some k_ ≠ (u16 : Value).ownBlock)) (by (with_reducible repeat (first | apply Kd.zL | apply Kd.zM | apply Kd.zN)); exact HO_11.out) hg hat); have n1_ := zA.mk (Kd.R_after (ok := (fun k_ => some k_ ≠ (u11 : Value).ownBlock)) (by (with_reducible repeat (first | apply Kd.zL | apply Kd.zM | apply Kd.zN)); exact HO_16.out) hg hat); have n2_ := zA.mk (Kd.R_over' (by (with_reducible repeat (first | apply Kd.zL | apply Kd.zM | apply Kd.zN)); exact HO_531000.out) (Kd.R_typed (by (with_reducible repeat (first | apply Kd.zL | apply Kd.zM | apply Kd.zN)); exact HO_18.out)) (by decide) hg); have n3_ := zA.mk (Kd.R_over' (by (with_reducible repeat (first | apply Kd.zL | apply Kd.zM | apply Kd.zN)); exact HO_531001.out) (Kd.R_typed (by (with_reducible repeat (first | apply Kd.zL | apply Kd.zM | apply Kd.zN)); exact HO_18.out)) (by decide) hg); have n4_ := zA.mk (blk_grown (g := gb511) (o := .cells #[.int .u8 a1_0, .int .u8 a1_1, .int .u8 a1_2, .int .u16 a1_3, .int .u16 a1_4, .float .f64 a1_5] 26 (0, 0)) (by (with_reducible repeat (first | refine zC ?_ _ | refine zD ?_ | refine zB ?_ _)); exact BK511.out) hg (Kd.R_ne HO_18.out BK511.out (by decide))); have n5_ := zA.mk (blk_grown (g := gb530) (o := .cells #[.slice Ao44 t518.length co44, .slice Ao46 t521.length co46] 31 (0, 0)) (by (with_reducible repeat (first | refine zC ?_ _ | refine zD ?_ | refine zB ?_ _)); exact BK530.out) hg (Kd.R_ne HO_18.out BK530.out (by decide))); have n6_ := zA.mk (blk_grown (g := gb531) (o := .cells #[.int .i64 t524, .int .i64 t525, .int .u8 t526, .int .i64 t527, .int .i64 t528, .float .f64 t529] 35 (0, 0)) (by (with_reducible repeat (first | refine zC ?_ _ | refine zD ?_ | refine zB ?_ _)); exact BK531.out) hg (Kd.R_ne HO_18.out BK531.out (by decide))); have n7_ := zA.mk (hb); have n8_ := zA.mk (ho); clear HO_11; clear HO_16; clear HO_531000; clear HO_531001; clear BK511; clear BK530; clear BK531; clear HB; clear HO_18; have HO_11 := n0_; have HO_16 := n1_; have HO_531000 := n2_; have HO_531001 := n3_; have BK511 := n4_; have BK530 := n5_; have BK531 := n6_; have HB := n7_; have HO546 := n8_; clear n0_ n1_ n2_ n3_ n4_ n5_ n6_ n7_ n8_; clear ho hb hg hat; have hnb110 := NB530_511.out; have hnc110 := NB511_530.out; have hnb111 := NB530_531.out; have hnc111 := NB531_530.out; have hcz112_0 : w109.cell? ⟨gb530, 0, none⟩ = some (.slice Ao44 t518.length co44) := (zG BK530.out 0).trans rfl; have hcz112_1 : w109.cell? ⟨gb530, 1, none⟩ = some (.slice Ao46 t521.length co46) := (zG BK530.out 1).trans rfl; have hfz112_0 := zH BK530.out 0; have hfz112_1 := zH BK530.out 1; have hnb113 := NB531_511.out; have hnc113 := NB511_531.out; have hcz114_0 : w109.cell? ⟨gb531, 0, none⟩ = some (.int .i64 t524) := (zG BK531.out 0).trans rfl; have hcz114_1 : w109.cell? ⟨gb531, 1, none⟩ = some (.int .i64 t525) := (zG BK531.out 1).trans rfl; have hcz114_2 : w109.cell? ⟨gb531, 2, none⟩ = some (.int .u8 t526) := (zG BK531.out 2).trans rfl; have hcz114_3 : w109.cell? ⟨gb531, 3, none⟩ = some (.int .i64 t527) := (zG BK531.out 3).trans rfl; have hcz114_4 : w109.cell? ⟨gb531, 4, none⟩ = some (.int .i64 t528) := (zG BK531.out 4).trans rfl; have hcz114_5 : w109.cell? ⟨gb531, 5, none⟩ = some (.float .f64 t529) := (zG BK531.out 5).trans rfl; have hfz114_0 := zH BK531.out 0; have hfz114_1 := zH BK531.out 1; have hfz114_2 := zH BK531.out 2; have hfz114_3 := zH BK531.out 3; have hfz114_4 := zH BK531.out 4; have hfz114_5 := zH BK531.out 5; obtain ⟨Ao115, co115, eo115⟩ := Kd.zV HO546.out; subst eo115) | ((with_reducible refine gate_callee (f := 21) rfl ?_); refine goesL_ (some 101) rfl rfl Try.func21 (by kernel_rfl) rfl #[.agg #[.slice Ao44 t518.length co44, .slice Ao46 t521.length co46], .slice Ao115 y544.length co115, .agg #[.int .i64 t524, .int .i64 t525, .int .u8 t526, .int .i64 t527, .int .i64 t528, .float .f64 t529]] rfl (by (try simp only [List.map_toArray, List.map_cons, List.map_nil]); first | done | rfl | (simp only [List.length_drop, List.length_take]; rfl)) ?_; (with_reducible refine (l5_all.calls k4 _ _ t518 _ _ t521 _ _ y544 t524 t525 t526 t527 t528 t529 t547 true _ ?side1 ?side2 ?side3 ?side4 ?side5 ?side6 A85.out).mono ?_); (case side1 => repeat (first | exact (Kd.zS HO_531000.out).2.2 | (with_reducible refine Kd.zO ?_ _) | (with_reducible refine Kd.zP ?_ _) | (with_reducible refine Kd.zQ ?_))); (case side2 => exact (Kd.zS HO_531000.out).2.1); (case side3 => repeat (first | exact (Kd.zS HO_531001.out).2.2 | (with_reducible refine Kd.zO ?_ _) | (with_reducible refine Kd.zP ?_ _) | (with_reducible refine Kd.zQ ?_))); (case side4 => exact (Kd.zS HO_531001.out).2.1); (case side5 => repeat (first | exact (Kd.zS HO546.out).2.2 | (with_reducible refine Kd.zO ?_ _) | (with_reducible refine Kd.zP ?_ _) | (with_reducible refine Kd.zQ ?_))); (case side6 => exact (Kd.zS HO546.out).2.1); rintro e w116 ⟨rfl, hb⟩; refine ⟨_, rfl, ?_⟩; have n0_ := zA.mk (Kd.zT (by (with_reducible repeat (first | apply Kd.zL | apply Kd.zM | apply Kd.zN)); exact HO_11.out) hb); have n1_ := zA.mk (Kd.zT (by (with_reducible repeat (first | apply Kd.zL | apply Kd.zM | apply Kd.zN)); exact HO_16.out) hb); have n2_ := zA.mk (Kd.zT (by (with_reducible repeat (first | apply Kd.zL | apply Kd.zM | apply Kd.zN)); exact HO_531000.out) hb); have n3_ := zA.mk (Kd.zT (by (with_reducible repeat (first | apply Kd.zL | apply Kd.zM | apply Kd.zN)); exact HO_531001.out) hb); have n4_ := zA.mk (Kd.zT (by (with_reducible repeat (first | apply Kd.zL | apply Kd.zM | apply Kd.zN)); exact HO546.out) hb); have n5_ := zA.mk (zK (g := gb511) (o := .cells #[.int .u8 a1_0, .int .u8 a1_1, .int .u8 a1_2, .int .u16 a1_3, .int .u16 a1_4, .float .f64 a1_5] 26 (0, 0)) (by (with_reducible repeat (first | refine zC ?_ _ | refine zD ?_ | refine zB ?_ _)); exact BK511.out) hb); have n6_ := zA.mk (zK (g := gb530) (o := .cells #[.slice Ao44 t518.length co44, .slice Ao46 t521.length co46] 31 (0, 0)) (by (with_reducible repeat (first | refine zC ?_ _ | refine zD ?_ | refine zB ?_ _)); exact BK530.out) hb); have n7_ := zA.mk (zK (g := gb531) (o := .cells #[.int .i64 t524, .int .i64 t525, .int .u8 t526, .int .i64 t527, .int .i64 t528, .float .f64 t529] 35 (0, 0)) (by (with_reducible repeat (first | refine zC ?_ _ | refine zD ?_ | refine zB ?_ _)); exact BK531.out) hb); have n8_ := zA.mk (below_step (by repeat (first | (with_reducible first | exact HB.out | apply zJ | apply zF | apply zI | refine zE ?_ GE511.out | refine zE ?_ GE530.out | refine zE ?_ GE531.out) | exact HB.out)) hb); clear HO_11; clear HO_16; clear HO_531000; clear HO_531001; clear HO546; clear BK511; clear BK530; clear BK531; clear HB; have HO_11 := n0_; have HO_16 := n1_; have HO_531000 := n2_; have HO_531001 := n3_; have HO546 := n4_; have BK511 := n5_; have BK530 := n6_; have BK531 := n7_; have HB := n8_; clear n0_ n1_ n2_ n3_ n4_ n5_ n6_ n7_ n8_; (try clear hb); (try clear hb2); (try clear hk); (try clear hi); obtain ⟨Ao117, co117, eo117⟩ := Kd.zV HO_16.out; subst eo117) | (go_at_call 22; (with_reducible refine (l5_sooner.calls k4 _ _ y544 _ _ x16_3 false _ ?side1 ?side2 ?side3 ?side4 A98.out).mono ?_); (case side1 => repeat (first | exact (Kd.zS HO546.out).2.2 | (with_reducible refine Kd.zO ?_ _) | (with_reducible refine Kd.zP ?_ _) | (with_reducible refine Kd.zQ ?_))); (case side2 => exact (Kd.zS HO546.out).2.1); (case side3 => repeat (first | exact (Kd.zS HO_16.out).2.2 | (with_reducible refine Kd.zO ?_ _) | (with_reducible refine Kd.zP ?_ _) | (with_reducible refine Kd.zQ ?_))); (case side4 => exact (Kd.zS HO_16.out).2.1); rintro e w' ⟨rfl, ⟨nd, rfl⟩⟩))
          go_roundg k4
          case measure => have := HK1.out; have := HK2.out; have := HK3.out; have := HK4.out; omega
          case rel => exact ⟨(x14_3), (true), (x16_3), (wrap64 (x17_3 + 1)), (by first | rfl | (simp; done) | (simp [*]; done)), (by first | rfl | (simp; done) | (simp [*]; done)), (by first | rfl | (simp; done) | (simp [*]; done)), H', ⟨by have := HK1.out; have := HK2.out; have := HK3.out; have := HK4.out; omega⟩, ⟨by (with_reducible repeat (first | apply Kd.zL | apply Kd.zM | apply Kd.zN)); exact Kd.zX HO_11.out (fun _ hk => hk.1)⟩, ⟨by (with_reducible repeat (first | apply Kd.zL | apply Kd.zM | apply Kd.zN)); exact Kd.zX HO_16.out (fun _ hk => hk.1)⟩, ⟨by (with_reducible repeat (first | apply Kd.zL | apply Kd.zM | apply Kd.zN)); exact HO_531000.out⟩, ⟨by (with_reducible repeat (first | apply Kd.zL | apply Kd.zM | apply Kd.zN)); exact HO_531001.out⟩, ⟨by (with_reducible repeat (first | refine zC ?_ _ | refine zD ?_ | refine zB ?_ _)); exact BK511.out⟩, ⟨by (with_reducible repeat (first | refine zC ?_ _ | refine zD ?_ | refine zB ?_ _)); exact BK530.out⟩, ⟨by (with_reducible repeat (first | refine zC ?_ _ | refine zD ?_ | refine zB ?_ _)); exact BK531.out⟩, ⟨by repeat (first | (with_reducible first | exact HB.out | apply zJ | apply zF | apply zI | refine zE ?_ GE511.out | refine zE ?_ GE530.out | refine zE ?_ GE531.out) | exact HB.out)⟩⟩
def l5_BestLeast.Pure : Prop := ∀ (l0 : List (S45)) (a1_0 : Int) (a1_1 : Int) (a1_2 : Int) (a1_3 : Int) (a1_4 : Int) (a1_5 : Nat), (l0.length * 4 ≤ 140737488351232 ∧ ∀ y0 ∈ l0, ((Lit.int .u8 y0.f0).wf = true ∧ ((Lit.int .u8 y0.f1).wf = true ∧ ((Lit.int .u8 y0.f2).wf = true ∧ (Lit.int .u8 y0.f3).wf = true)))) → ((Lit.int .u8 a1_0).wf = true ∧ ((Lit.int .u8 a1_1).wf = true ∧ ((Lit.int .u8 a1_2).wf = true ∧ ((Lit.int .u16 a1_3).wf = true ∧ ((Lit.int .u16 a1_4).wf = true ∧ (Lit.float .f64 a1_5).wf = true))))) → ∃ k, l5_BestLeast.f k l0 a1_0 a1_1 a1_2 a1_3 a1_4 a1_5 = some true
end Go.Proofs.Ytlgclhhkgohanaa.F
end
