/- Printed by a program of this session (wip/fork): Lean functions that answer as the Go functions do, and the proofs that the Go code comes to them; no condition but those that each statement tells. -/
import Derived.Test.YtbnoeeflpegcoaaF0
import Derived.Test.YtbnoeeflpegcoaaF9
import Derived.Test.YtbnoeeflpegcoaaF11
import Derived.Test.YtbnoeeflpegcoaaF16
import Derived.Test.YtbnoeeflpegcoaaF17
namespace Go.Proofs.Ytbnoeeflpegcoaa.F
open Go.RowKit Go.Proofs.YtbnoeeflpegcoaaW.PrintWords Go.Proofs.YtbnoeeflpegcoaaW.PrintLast Go.Proofs.YtbnoeeflpegcoaaW.PrintMore
attribute [local go_sem] max2_int min2_int max_two min_two max_three min_three max_four min_four   -- for this text's walks alone
set_option linter.unusedVariables false
set_option linter.unusedSimpArgs false

/-! ### stanzalaw13_SpanJoins: function 8 -/
mutual
def stanzalaw13_SpanJoins.l0 : Nat → List (S50) → Int → Int → Int → Int → Int → Option (Bool)
  | 0, _, _, _, _, _, _ => none
  | k + 1, x0, x1, x2, x3, x23, x24 => if x24 < x23 then (if 0 ≤ x24 then (if x24 < (x0.length : Int) then (if (Int.tmod ((rd_T50 x0 x24).f1) 3) = 2 then (some true) else (stanzalaw13_SpanJoins.l0 k x0 x1 x2 x3 x23 (wrap64 (x24 + 1)))) else (none)) else (none)) else ((stanzahand03_Para.f k x0).bind fun bt271 => ((stanzalaw13_cut.f bt271.1 bt271.2 x1 x2).bind fun bt278 => (if (IntKind.u64.wrap (wrap64 ((wrap64 (bt278.2 - bt278.1)) + 1))) = 0 then (none) else ((span_Columns.f k bt271.1 bt271.2 bt278.1 bt278.2 8).bind fun t280 => ((span_Columns.f k bt271.1 bt271.2 (wrap64 (bt278.1 + (wrap64 (Int.tmod (IntKind.u64.wrap (x3)) (IntKind.u64.wrap (wrap64 ((wrap64 (bt278.2 - bt278.1)) + 1))))))) bt278.2 8).bind fun t283 => (if (t280.length : Int) = (wrap64 ((wrap64 (bt278.2 - bt278.1)) + 1)) then (stanzalaw13_SpanJoins.j1 k bt278.1 (wrap64 (bt278.1 + (wrap64 (Int.tmod (IntKind.u64.wrap (x3)) (IntKind.u64.wrap (wrap64 ((wrap64 (bt278.2 - bt278.1)) + 1))))))) t280 t283 ((t283.length : Int) != (wrap64 ((wrap64 (bt278.2 - (wrap64 (bt278.1 + (wrap64 (Int.tmod (IntKind.u64.wrap (x3)) (IntKind.u64.wrap (wrap64 ((wrap64 (bt278.2 - bt278.1)) + 1))))))))) + 1)))) else (stanzalaw13_SpanJoins.j1 k bt278.1 (wrap64 (bt278.1 + (wrap64 (Int.tmod (IntKind.u64.wrap (x3)) (IntKind.u64.wrap (wrap64 ((wrap64 (bt278.2 - bt278.1)) + 1))))))) t280 t283 true)))))))
def stanzalaw13_SpanJoins.j1 : Nat → Int → Int → List Int → List Int → Bool → Option (Bool)
  | 0, _, _, _, _, _ => none
  | k + 1, x11, x13, x14, x15, x78 => if x78 = true then (some false) else (stanzalaw13_SpanJoins.l1 k x11 x13 x14 x15 (x15.length : Int) 0)
def stanzalaw13_SpanJoins.l1 : Nat → Int → Int → List Int → List Int → Int → Int → Option (Bool)
  | 0, _, _, _, _, _, _ => none
  | k + 1, x11, x13, x14, x15, x80, x81 => if x81 < x80 then (if 0 ≤ x81 then (if x81 < (x15.length : Int) then (if 0 ≤ (wrap64 ((wrap64 (x13 - x11)) + x81)) then (if (wrap64 ((wrap64 (x13 - x11)) + x81)) < (x14.length : Int) then (if 0 ≤ (wrap64 (x13 - x11)) then (if (wrap64 (x13 - x11)) < (x14.length : Int) then (if (rd x15 x81) = (wrap64 ((rd x14 (wrap64 ((wrap64 (x13 - x11)) + x81))) - (rd x14 (wrap64 (x13 - x11))))) then (stanzalaw13_SpanJoins.l1 k x11 x13 x14 x15 x80 (wrap64 (x81 + 1))) else (some false)) else (none)) else (none)) else (none)) else (none)) else (none)) else (none)) else (some true)
end
def stanzalaw13_SpanJoins.f (k : Nat) (l0 : List (S50)) (a1 : Int) (a2 : Int) (a3 : Int) : Option (Bool) := (stanzalaw13_Awake.f k).bind fun t269 => (if t269 = true then (if (l0.length : Int) > 500 then (some true) else (stanzalaw13_SpanJoins.l0 k l0 a1 a2 a3 (l0.length : Int) 0)) else (some false))
theorem stanzalaw13_SpanJoins.mono_l : ∀ k, (∀ y0 y1 y2 y3 y4 y5, LeO (stanzalaw13_SpanJoins.l0 k y0 y1 y2 y3 y4 y5) (stanzalaw13_SpanJoins.l0 (k + 1) y0 y1 y2 y3 y4 y5)) ∧ (∀ y0 y1 y2 y3 y4, LeO (stanzalaw13_SpanJoins.j1 k y0 y1 y2 y3 y4) (stanzalaw13_SpanJoins.j1 (k + 1) y0 y1 y2 y3 y4)) ∧ (∀ y0 y1 y2 y3 y4 y5, LeO (stanzalaw13_SpanJoins.l1 k y0 y1 y2 y3 y4 y5) (stanzalaw13_SpanJoins.l1 (k + 1) y0 y1 y2 y3 y4 y5))
  | 0 => ⟨fun _ _ _ _ _ _ r h => by simp [stanzalaw13_SpanJoins.l0] at h, fun _ _ _ _ _ r h => by simp [stanzalaw13_SpanJoins.j1] at h, fun _ _ _ _ _ _ r h => by simp [stanzalaw13_SpanJoins.l1] at h⟩
  | k + 1 => by
    obtain ⟨ih0, ih1, ih2⟩ := stanzalaw13_SpanJoins.mono_l k
    refine ⟨?_, ?_, ?_⟩
    · intro y0 y1 y2 y3 y4 y5
      unfold stanzalaw13_SpanJoins.l0
      repeat' first
      | (with_reducible exact ih0 _ _ _ _ _ _)
      | (with_reducible exact ih1 _ _ _ _ _)
      | (with_reducible exact ih2 _ _ _ _ _ _)
      | (with_reducible exact span_Columns.mono _ _ _ _ _ _)
      | (with_reducible exact stanzahand03_Para.mono _ _)
      | (with_reducible exact stanzalaw13_Awake.mono _)
      | (with_reducible exact LeO.refl _)
      | (with_reducible exact LeO.none _)
      | (with_reducible refine LeO.ite ?_ ?_)
      | (with_reducible refine LeO.bind ?_ (fun _ => ?_))
      | exact ih0 _ _ _ _ _ _
      | exact ih1 _ _ _ _ _
      | exact ih2 _ _ _ _ _ _
      | exact span_Columns.mono _ _ _ _ _ _
      | exact stanzahand03_Para.mono _ _
      | exact stanzalaw13_Awake.mono _
      | exact LeO.none _
      | refine LeO.ite ?_ ?_
      | refine LeO.bind ?_ (fun _ => ?_)
    · intro y0 y1 y2 y3 y4
      unfold stanzalaw13_SpanJoins.j1
      repeat' first
      | (with_reducible exact ih0 _ _ _ _ _ _)
      | (with_reducible exact ih1 _ _ _ _ _)
      | (with_reducible exact ih2 _ _ _ _ _ _)
      | (with_reducible exact span_Columns.mono _ _ _ _ _ _)
      | (with_reducible exact stanzahand03_Para.mono _ _)
      | (with_reducible exact stanzalaw13_Awake.mono _)
      | (with_reducible exact LeO.refl _)
      | (with_reducible exact LeO.none _)
      | (with_reducible refine LeO.ite ?_ ?_)
      | (with_reducible refine LeO.bind ?_ (fun _ => ?_))
      | exact ih0 _ _ _ _ _ _
      | exact ih1 _ _ _ _ _
      | exact ih2 _ _ _ _ _ _
      | exact span_Columns.mono _ _ _ _ _ _
      | exact stanzahand03_Para.mono _ _
      | exact stanzalaw13_Awake.mono _
      | exact LeO.none _
      | refine LeO.ite ?_ ?_
      | refine LeO.bind ?_ (fun _ => ?_)
    · intro y0 y1 y2 y3 y4 y5
      unfold stanzalaw13_SpanJoins.l1
      repeat' first
      | (with_reducible exact ih0 _ _ _ _ _ _)
      | (with_reducible exact ih1 _ _ _ _ _)
      | (with_reducible exact ih2 _ _ _ _ _ _)
      | (with_reducible exact span_Columns.mono _ _ _ _ _ _)
      | (with_reducible exact stanzahand03_Para.mono _ _)
      | (with_reducible exact stanzalaw13_Awake.mono _)
      | (with_reducible exact LeO.refl _)
      | (with_reducible exact LeO.none _)
      | (with_reducible refine LeO.ite ?_ ?_)
      | (with_reducible refine LeO.bind ?_ (fun _ => ?_))
      | exact ih0 _ _ _ _ _ _
      | exact ih1 _ _ _ _ _
      | exact ih2 _ _ _ _ _ _
      | exact span_Columns.mono _ _ _ _ _ _
      | exact stanzahand03_Para.mono _ _
      | exact stanzalaw13_Awake.mono _
      | exact LeO.none _
      | refine LeO.ite ?_ ?_
      | refine LeO.bind ?_ (fun _ => ?_)
theorem stanzalaw13_SpanJoins.mono : ∀ a0 a1 a2 a3 k, LeO (stanzalaw13_SpanJoins.f k a0 a1 a2 a3) (stanzalaw13_SpanJoins.f (k + 1) a0 a1 a2 a3) := by
  intro a0 a1 a2 a3 k
  obtain ⟨ih0, ih1, ih2⟩ := stanzalaw13_SpanJoins.mono_l k
  unfold stanzalaw13_SpanJoins.f
  repeat' first
      | (with_reducible exact ih0 _ _ _ _ _ _)
      | (with_reducible exact ih1 _ _ _ _ _)
      | (with_reducible exact ih2 _ _ _ _ _ _)
      | (with_reducible exact span_Columns.mono _ _ _ _ _ _)
      | (with_reducible exact stanzahand03_Para.mono _ _)
      | (with_reducible exact stanzalaw13_Awake.mono _)
      | (with_reducible exact LeO.refl _)
      | (with_reducible exact LeO.none _)
      | (with_reducible refine LeO.ite ?_ ?_)
      | (with_reducible refine LeO.bind ?_ (fun _ => ?_))
      | exact ih0 _ _ _ _ _ _
      | exact ih1 _ _ _ _ _
      | exact ih2 _ _ _ _ _ _
      | exact span_Columns.mono _ _ _ _ _ _
      | exact stanzahand03_Para.mono _ _
      | exact stanzalaw13_Awake.mono _
      | exact LeO.none _
      | refine LeO.ite ?_ ?_
      | refine LeO.bind ?_ (fun _ => ?_)
def stanzalaw13_SpanJoins.T14 : Bool × List (List Nat × List Nat) := (true, [([], []), ([], []), ([], []), ([0, 1, 2], [0, 1, 2]), ([], []), ([], []), ([], []), ([4, 5, 6, 3], [4, 5, 6]), ([3, 7, 0, 1, 2, 3], [3]), ([7, 8, 0, 1, 2, 3, 4, 5, 6, 7, 8], [7])])
def stanzalaw13_SpanJoins.B14 : List Nat := [0, 0, 0, 7, 0, 0, 0, 127, 255, 511]
theorem stanzalaw13_SpanJoins.tab14 : rtab .any (opsOf Try.f8 14) = stanzalaw13_SpanJoins.T14 := by kernel_rfl
theorem stanzalaw13_SpanJoins.bits14 : waitsOk stanzalaw13_SpanJoins.T14.2 stanzalaw13_SpanJoins.B14 = true := by kernel_rfl
def stanzalaw13_SpanJoins.T20 : Bool × List (List Nat × List Nat) := (true, [([], []), ([], []), ([0, 1], [0, 1]), ([2], [2]), ([], []), ([], []), ([], []), ([5, 6], [5, 6]), ([], []), ([7, 8], [7, 8]), ([4, 9], [4, 9]), ([10], [10]), ([], []), ([], []), ([], []), ([13, 14], [13, 14]), ([12, 15], [12, 15]), ([16], [16]), ([11, 17], [11, 17]), ([3, 18], [3, 18])])
def stanzalaw13_SpanJoins.B20 : List Nat := [0, 0, 3, 7, 0, 0, 0, 96, 0, 480, 1008, 2032, 0, 0, 0, 24576, 61440, 126976, 262128, 524287]
theorem stanzalaw13_SpanJoins.tab20 : rtab .any (opsOf Try.f8 20) = stanzalaw13_SpanJoins.T20 := by kernel_rfl
theorem stanzalaw13_SpanJoins.bits20 : waitsOk stanzalaw13_SpanJoins.T20.2 stanzalaw13_SpanJoins.B20 = true := by kernel_rfl
set_option maxHeartbeats 8000000 in
set_option maxRecDepth 100000 in
theorem stanzalaw13_SpanJoins.calls (k : Nat) (A0 : Option Addr) (c0 : Nat) (l0 : List (S50)) (a1 : Int) (a2 : Int) (a3 : Int) (r : Bool) (w : World) (hr0 : Kd.C k50 w A0 l0.length l0) (hc0 : l0.length ≤ c0) (h : stanzalaw13_SpanJoins.f k l0 a1 a2 a3 = some r) (hrt_ : Aside0 (r = true)) :
    Calls Try.prog 8 #[.slice A0 l0.length c0, .int .i64 a1, .int .i64 a2, .int .i64 a3] w fun e w' => e = .returned (.bool r) ∧ Below w.heap.size w w' := by
  have hu35 := Try.underlying35
  have HR0 := Aside0.mk hr0
  have HC0 := Aside0.mk hc0
  clear hr0 hc0
  have HB := Aside0.mk (Below.refl w.heap.size w)
  have H : ((stanzalaw13_Awake.f k).bind fun t269 => (if t269 = true then (if (l0.length : Int) > 500 then (some true) else (stanzalaw13_SpanJoins.l0 k l0 a1 a2 a3 (l0.length : Int) 0)) else (some false))) = some r := h
  clear h
  replace H := Option.bind_eq_some_iff.mp H
  obtain ⟨t269, A50, H⟩ := H
  replace H : (if t269 = true then (if (l0.length : Int) > 500 then (some true) else (stanzalaw13_SpanJoins.l0 k l0 a1 a2 a3 (l0.length : Int) 0)) else (some false)) = some r := H
  have A5 := Aside0.mk A50
  clear A50
  by_cases c6 : t269 = true
  · subst c6
    have H1 : (if (l0.length : Int) > 500 then (some true) else (stanzalaw13_SpanJoins.l0 k l0 a1 a2 a3 (l0.length : Int) 0)) = some r := by rw [if_pos rfl] at H; exact H
    clear H
    have H := H1
    clear H1
    by_cases c7 : (l0.length : Int) > 500
    · rw [if_pos c7] at H
      have c7b0 : decide (500 < (l0.length : Int)) = true := decide_eq_true c7
      have c7b1 : decide (500 < l0.length) = true := decide_eq_true (by omega)
      clear c7
      obtain rfl := Option.some.inj H
      go_enter Try.func8, Try.ntmps8
      go_wp2_with (first | ((with_reducible refine gate_callee (f := 18) rfl ?_); refine goesL_ (some 17) rfl rfl Try.func18 (by kernel_rfl) rfl #[] rfl (by (try simp only [List.map_toArray, List.map_cons, List.map_nil]); first | done | rfl | (simp only [List.length_drop, List.length_take]; rfl)) ?_; (with_reducible refine (stanzalaw13_Awake.calls k  true _ A5.out (by first | exact ⟨rfl⟩ | exact hrt_)).mono ?_); rintro e w8 ⟨rfl, hb⟩; refine ⟨_, rfl, ?_⟩; have n0_ := Aside0.mk (below_step (by repeat (first | (with_reducible first | exact HB.out | apply below_alloc | apply pw_below_drewN | apply below_drew1) | exact HB.out)) hb); clear HB; have HB := n0_; clear n0_; (try clear hb); (try clear hb2); (try clear hk); (try clear hi)))
      go_ret
      exact ⟨by first | rfl | (simp [errW_none, errW_some] <;> rfl) | (simp [*, errW_none, errW_some] <;> rfl), by repeat (first | (with_reducible first | exact HB.out | apply below_alloc | apply pw_below_drewN | apply below_drew1) | exact HB.out)⟩
    · rw [if_neg c7] at H
      have c7b0 : decide (500 < (l0.length : Int)) = false := decide_eq_false c7
      have c7b1 : decide (500 < l0.length) = false := decide_eq_false (by omega)
      clear c7
      have H' := Aside0.mk H
      clear H
      go_enter Try.func8, Try.ntmps8
      go_wp2_with (first | ((with_reducible refine gate_callee (f := 18) rfl ?_); refine goesL_ (some 17) rfl rfl Try.func18 (by kernel_rfl) rfl #[] rfl (by (try simp only [List.map_toArray, List.map_cons, List.map_nil]); first | done | rfl | (simp only [List.length_drop, List.length_take]; rfl)) ?_; (with_reducible refine (stanzalaw13_Awake.calls k  true _ A5.out (by first | exact ⟨rfl⟩ | exact hrt_)).mono ?_); rintro e w9 ⟨rfl, hb⟩; refine ⟨_, rfl, ?_⟩; have n0_ := Aside0.mk (below_step (by repeat (first | (with_reducible first | exact HB.out | apply below_alloc | apply pw_below_drewN | apply below_drew1) | exact HB.out)) hb); clear HB; have HB := n0_; clear n0_; (try clear hb); (try clear hb2); (try clear hk); (try clear hi)))
      go_loopg [24] k (fun kq v24 w' => ∃ (x24_1 : Int), v24 = .int .i64 x24_1 ∧ Aside0 (stanzalaw13_SpanJoins.l0 kq l0 a1 a2 a3 (l0.length : Int) x24_1 = some r) ∧ Aside0 (kq ≤ k) ∧ Aside0 (Below w.heap.size w w'))
      case atStart => exact ⟨(0), (by first | rfl | (simp; done) | (simp [*]; done)), H', ⟨Nat.le_refl _⟩, ⟨by repeat (first | (with_reducible first | exact HB.out | apply below_alloc | apply pw_below_drewN | apply below_drew1) | exact HB.out)⟩⟩
      case round =>
        clear H'
        try clear c1
        try clear p2
        try clear c6
        try clear c7
        try clear c7b0
        try clear c7b1
        try clear c8
        obtain ⟨x24_1, rfl, HA, HK1, HB⟩ := hrel
        cases gk with
        | zero => exact absurd HA.out (by simp [stanzalaw13_SpanJoins.l0])
        | succ k1 =>
          have H := HA.out
          clear HA
          simp only [stanzalaw13_SpanJoins.l0] at H
          by_cases c10 : x24_1 < (l0.length : Int)
          · rw [if_pos c10] at H
            have c10b0 : decide (x24_1 < (l0.length : Int)) = true := decide_eq_true c10
            clear c10
            by_cases c11 : 0 ≤ x24_1
            · rw [if_pos c11] at H
              have c11b0 : decide (0 ≤ x24_1) = true := decide_eq_true c11
              clear c11
              by_cases c12 : x24_1 < (l0.length : Int)
              · rw [if_pos c12] at H
                have c12b0 : decide (x24_1 < (l0.length : Int)) = true := decide_eq_true c12
                clear c12
                by_cases c13 : (Int.tmod ((rd_T50 l0 x24_1).f1) 3) = 2
                · rw [if_pos c13] at H
                  have c13b0 : ((Int.tmod ((rd_T50 l0 x24_1).f1) 3) == 2) = true := beq_iff_eq.mpr c13
                  have c13b1 : ((Int.tmod ((rd_T50 l0 x24_1).f1) 3) != 2) = false := bne_eq_false_iff_eq.mpr c13
                  clear c13
                  obtain rfl := Option.some.inj H
                  have p270 : 0 ≤ (x24_1 : Int) := of_decide_eq_true (by first | (with_reducible assumption) | assumption)
                  have q270 : x24_1 < (l0.length : Int) := of_decide_eq_true (by first | (with_reducible assumption) | assumption)
                  obtain ⟨ad270, e270, hx270_0, hx270_1, hx270_2, hx270_3⟩ := at_T50 HR0.out x24_1 p270 q270
                  cases e270
                  replace hx270_0 := (HB.out.cell (World.block_lt_of_cell? w _ hx270_0)).trans hx270_0
                  replace hx270_1 := (HB.out.cell (World.block_lt_of_cell? w _ hx270_1)).trans hx270_1
                  replace hx270_2 := (HB.out.cell (World.block_lt_of_cell? w _ hx270_2)).trans hx270_2
                  replace hx270_3 := (HB.out.cell (World.block_lt_of_cell? w _ hx270_3)).trans hx270_3
                  replace p270 := eq_true p270
                  replace q270 := eq_true q270
                  go_wp2
                  go_ret
                  exact ⟨by first | rfl | (simp [errW_none, errW_some] <;> rfl) | (simp [*, errW_none, errW_some] <;> rfl), by repeat (first | (with_reducible first | exact HB.out | apply below_alloc | apply pw_below_drewN | apply below_drew1) | exact HB.out)⟩
                · rw [if_neg c13] at H
                  have c13b0 : ((Int.tmod ((rd_T50 l0 x24_1).f1) 3) == 2) = false := beq_eq_false_iff_ne.mpr c13
                  have c13b1 : ((Int.tmod ((rd_T50 l0 x24_1).f1) 3) != 2) = true := bne_iff_ne.mpr c13
                  have H' := Aside0.mk H
                  clear H
                  have p270 : 0 ≤ (x24_1 : Int) := of_decide_eq_true (by first | (with_reducible assumption) | assumption)
                  have q270 : x24_1 < (l0.length : Int) := of_decide_eq_true (by first | (with_reducible assumption) | assumption)
                  obtain ⟨ad270, e270, hx270_0, hx270_1, hx270_2, hx270_3⟩ := at_T50 HR0.out x24_1 p270 q270
                  cases e270
                  replace hx270_0 := (HB.out.cell (World.block_lt_of_cell? w _ hx270_0)).trans hx270_0
                  replace hx270_1 := (HB.out.cell (World.block_lt_of_cell? w _ hx270_1)).trans hx270_1
                  replace hx270_2 := (HB.out.cell (World.block_lt_of_cell? w _ hx270_2)).trans hx270_2
                  replace hx270_3 := (HB.out.cell (World.block_lt_of_cell? w _ hx270_3)).trans hx270_3
                  replace p270 := eq_true p270
                  replace q270 := eq_true q270
                  go_wp2
                  go_roundg k1
                  case measure => have := HK1.out; omega
                  case rel => exact ⟨(wrap64 (x24_1 + 1)), (by first | rfl | (simp; done) | (simp [*]; done)), H', ⟨by have := HK1.out; omega⟩, ⟨by repeat (first | (with_reducible first | exact HB.out | apply below_alloc | apply pw_below_drewN | apply below_drew1) | exact HB.out)⟩⟩
              · rw [if_neg c12] at H
                exact absurd H (by simp)
            · rw [if_neg c11] at H
              exact absurd H (by simp)
          · rw [if_neg c10] at H
            have c10b0 : decide (x24_1 < (l0.length : Int)) = false := decide_eq_false c10
            clear c10
            replace H := Option.bind_eq_some_iff.mp H
            obtain ⟨⟨t271, t274⟩, A140, H⟩ := H
            replace H : ((stanzalaw13_cut.f t271 t274 a1 a2).bind fun bt278 => (if (IntKind.u64.wrap (wrap64 ((wrap64 (bt278.2 - bt278.1)) + 1))) = 0 then (none) else ((span_Columns.f k1 t271 t274 bt278.1 bt278.2 8).bind fun t280 => ((span_Columns.f k1 t271 t274 (wrap64 (bt278.1 + (wrap64 (Int.tmod (IntKind.u64.wrap (a3)) (IntKind.u64.wrap (wrap64 ((wrap64 (bt278.2 - bt278.1)) + 1))))))) bt278.2 8).bind fun t283 => (if (t280.length : Int) = (wrap64 ((wrap64 (bt278.2 - bt278.1)) + 1)) then (stanzalaw13_SpanJoins.j1 k1 bt278.1 (wrap64 (bt278.1 + (wrap64 (Int.tmod (IntKind.u64.wrap (a3)) (IntKind.u64.wrap (wrap64 ((wrap64 (bt278.2 - bt278.1)) + 1))))))) t280 t283 ((t283.length : Int) != (wrap64 ((wrap64 (bt278.2 - (wrap64 (bt278.1 + (wrap64 (Int.tmod (IntKind.u64.wrap (a3)) (IntKind.u64.wrap (wrap64 ((wrap64 (bt278.2 - bt278.1)) + 1))))))))) + 1)))) else (stanzalaw13_SpanJoins.j1 k1 bt278.1 (wrap64 (bt278.1 + (wrap64 (Int.tmod (IntKind.u64.wrap (a3)) (IntKind.u64.wrap (wrap64 ((wrap64 (bt278.2 - bt278.1)) + 1))))))) t280 t283 true)))))) = some r := H
            have A14 := Aside0.mk A140
            clear A140
            replace H := Option.bind_eq_some_iff.mp H
            obtain ⟨⟨t278, t279⟩, A150, H⟩ := H
            replace H : (if (IntKind.u64.wrap (wrap64 ((wrap64 (t279 - t278)) + 1))) = 0 then (none) else ((span_Columns.f k1 t271 t274 t278 t279 8).bind fun t280 => ((span_Columns.f k1 t271 t274 (wrap64 (t278 + (wrap64 (Int.tmod (IntKind.u64.wrap (a3)) (IntKind.u64.wrap (wrap64 ((wrap64 (t279 - t278)) + 1))))))) t279 8).bind fun t283 => (if (t280.length : Int) = (wrap64 ((wrap64 (t279 - t278)) + 1)) then (stanzalaw13_SpanJoins.j1 k1 t278 (wrap64 (t278 + (wrap64 (Int.tmod (IntKind.u64.wrap (a3)) (IntKind.u64.wrap (wrap64 ((wrap64 (t279 - t278)) + 1))))))) t280 t283 ((t283.length : Int) != (wrap64 ((wrap64 (t279 - (wrap64 (t278 + (wrap64 (Int.tmod (IntKind.u64.wrap (a3)) (IntKind.u64.wrap (wrap64 ((wrap64 (t279 - t278)) + 1))))))))) + 1)))) else (stanzalaw13_SpanJoins.j1 k1 t278 (wrap64 (t278 + (wrap64 (Int.tmod (IntKind.u64.wrap (a3)) (IntKind.u64.wrap (wrap64 ((wrap64 (t279 - t278)) + 1))))))) t280 t283 true))))) = some r := H
            have A15 := Aside0.mk A150
            clear A150
            by_cases c16 : (IntKind.u64.wrap (wrap64 ((wrap64 (t279 - t278)) + 1))) = 0
            · rw [if_pos c16] at H
              exact absurd H (by simp)
            · rw [if_neg c16] at H
              have c16b0 : ((IntKind.u64.wrap (wrap64 ((wrap64 (t279 - t278)) + 1))) == 0) = false := beq_eq_false_iff_ne.mpr c16
              have c16b1 : ((IntKind.u64.wrap (wrap64 ((wrap64 (t279 - t278)) + 1))) != 0) = true := bne_iff_ne.mpr c16
              replace H := Option.bind_eq_some_iff.mp H
              obtain ⟨t280, A170, H⟩ := H
              replace H : ((span_Columns.f k1 t271 t274 (wrap64 (t278 + (wrap64 (Int.tmod (IntKind.u64.wrap (a3)) (IntKind.u64.wrap (wrap64 ((wrap64 (t279 - t278)) + 1))))))) t279 8).bind fun t283 => (if (t280.length : Int) = (wrap64 ((wrap64 (t279 - t278)) + 1)) then (stanzalaw13_SpanJoins.j1 k1 t278 (wrap64 (t278 + (wrap64 (Int.tmod (IntKind.u64.wrap (a3)) (IntKind.u64.wrap (wrap64 ((wrap64 (t279 - t278)) + 1))))))) t280 t283 ((t283.length : Int) != (wrap64 ((wrap64 (t279 - (wrap64 (t278 + (wrap64 (Int.tmod (IntKind.u64.wrap (a3)) (IntKind.u64.wrap (wrap64 ((wrap64 (t279 - t278)) + 1))))))))) + 1)))) else (stanzalaw13_SpanJoins.j1 k1 t278 (wrap64 (t278 + (wrap64 (Int.tmod (IntKind.u64.wrap (a3)) (IntKind.u64.wrap (wrap64 ((wrap64 (t279 - t278)) + 1))))))) t280 t283 true))) = some r := H
              have A17 := Aside0.mk A170
              clear A170
              replace H := Option.bind_eq_some_iff.mp H
              obtain ⟨t283, A180, H⟩ := H
              replace H : (if (t280.length : Int) = (wrap64 ((wrap64 (t279 - t278)) + 1)) then (stanzalaw13_SpanJoins.j1 k1 t278 (wrap64 (t278 + (wrap64 (Int.tmod (IntKind.u64.wrap (a3)) (IntKind.u64.wrap (wrap64 ((wrap64 (t279 - t278)) + 1))))))) t280 t283 ((t283.length : Int) != (wrap64 ((wrap64 (t279 - (wrap64 (t278 + (wrap64 (Int.tmod (IntKind.u64.wrap (a3)) (IntKind.u64.wrap (wrap64 ((wrap64 (t279 - t278)) + 1))))))))) + 1)))) else (stanzalaw13_SpanJoins.j1 k1 t278 (wrap64 (t278 + (wrap64 (Int.tmod (IntKind.u64.wrap (a3)) (IntKind.u64.wrap (wrap64 ((wrap64 (t279 - t278)) + 1))))))) t280 t283 true)) = some r := H
              have A18 := Aside0.mk A180
              clear A180
              have HC19 := Aside0.mk H
              clear H
              try go_wp2_with (first | ((with_reducible refine gate_callee (f := 19) rfl ?_); refine goesL_ (some 36) rfl rfl Try.func19 (by kernel_rfl) rfl #[.slice A0 l0.length c0] rfl (by (try simp only [List.map_toArray, List.map_cons, List.map_nil]); first | done | rfl | (simp only [List.length_drop, List.length_take]; rfl)) ?_; (with_reducible refine (stanzahand03_Para.calls k1 _ _ l0 t271 t274 _ ?side1 ?side2 A14.out).mono ?_); (case side1 => repeat (first | exact (Kd.C_below HR0.out HB.out) | (with_reducible refine Kd.C_alloc ?_ _) | (with_reducible refine Kd.C_drewN ?_ _) | (with_reducible refine Kd.C_drew ?_))); (case side2 => exact HC0.out); rintro e w20 ⟨v272, v275, rfl, ho0, ho1, hb⟩; refine ⟨_, rfl, ?_⟩; have n0_ := Aside0.mk (Kd.R_lower ho0 (below_size (by repeat (first | (with_reducible first | exact HB.out | apply below_alloc | apply pw_below_drewN | apply below_drew1) | exact HB.out)))); have n1_ := Aside0.mk (Kd.R_lower ho1 (below_size (by repeat (first | (with_reducible first | exact HB.out | apply below_alloc | apply pw_below_drewN | apply below_drew1) | exact HB.out)))); have n2_ := Aside0.mk (below_step (by repeat (first | (with_reducible first | exact HB.out | apply below_alloc | apply pw_below_drewN | apply below_drew1) | exact HB.out)) hb); clear HB; have HO273 := n0_; have HO276 := n1_; have HB := n2_; clear n0_ n1_ n2_; (try clear hb); (try clear hb2); (try clear hk); (try clear hi); (try clear ho0); (try clear ho1)) | ((with_reducible refine gate_dst (N := 10) rfl ?_); (try (refine gate_guard (by rfl) ?_; dsimp only)); refine box_event ?hg (N := 10) ?hd (cs := #[.slice none 0 0, .slice none 0 0]) (t := 35) ?hr ?_; (case hd => rfl); (case hg => rfl); (case hr => first | (go_simp; done) | (go_simp; rfl)); intro gb277 hg w21 hbox hb; have n0_ := Aside0.mk (Kd.R_below (by (with_reducible repeat (first | apply Kd.R_alloc | apply Kd.R_drewN | apply Kd.R_drew)); exact HO273.out) hb); have n1_ := Aside0.mk (Kd.R_below (by (with_reducible repeat (first | apply Kd.R_alloc | apply Kd.R_drewN | apply Kd.R_drew)); exact HO276.out) hb); have n2_ := Aside0.mk (below_step (by repeat (first | (with_reducible first | exact HB.out | apply below_alloc | apply pw_below_drewN | apply below_drew1) | exact HB.out)) hb); have n3_ := Aside0.mk (hbox); have n4_ := Aside0.mk ((by rw [hg]; exact (below_size (by repeat (first | (with_reducible first | exact HB.out | apply below_alloc | apply pw_below_drewN | apply below_drew1) | exact HB.out))) : w.heap.size ≤ gb277)); have n5_ := Aside0.mk ((by rw [hg]; exact (below_size (by repeat (first | (with_reducible first | exact HB.out | apply below_alloc | apply pw_below_drewN | apply below_drew1) | exact HB.out))) : w.heap.size ≤ gb277)); clear HO273; clear HO276; clear HB; have HO273 := n0_; have HO276 := n1_; have HB := n2_; have BK277 := n3_; have GW277 := n4_; have GE277 := n5_; clear n0_ n1_ n2_ n3_ n4_ n5_; clear hb hbox hg; obtain ⟨Ao22, co22, eo22⟩ := Kd.R_slice HO273.out; subst eo22; have hcz23_0 : w21.cell? ⟨gb277, 0, none⟩ = some (.slice none 0 0) := (blk_cell BK277.out 0).trans rfl; have hcz23_1 : w21.cell? ⟨gb277, 1, none⟩ = some (.slice none 0 0) := (blk_cell BK277.out 1).trans rfl; have hfz23_0 := blk_frozen BK277.out 0; have hfz23_1 := blk_frozen BK277.out 1; obtain ⟨Ao24, co24, eo24⟩ := Kd.R_slice HO276.out; subst eo24) | ((with_reducible refine gate_store (t := 35) (p := 10) rfl ?_); refine store_event (t := 35) (p := 10) (v := ?vo_w25) (w1 := ((w21.setCell ⟨gb277, 0, none⟩ (.slice Ao22 t271.length co22)).setCell ⟨gb277, 1, none⟩ (.slice Ao24 t274.length co24))) ?hg ?ho ?hn ?hr ?_; (case ho => rfl); (case hg => rfl); (case hn => rfl); (case hr => first | (go_simp; done) | (go_simp; rfl)); intro w25 hw; have n0_ : Aside0 (Kd.R k41 41 w25 w.heap.size (fun _ => True) (.slice Ao22 t271.length co22) t271) := ⟨(by rw [hw]; exact (by (with_reducible repeat (first | apply Kd.R_alloc | apply Kd.R_drewN | apply Kd.R_drew)); exact Kd.R_mono (Kd.R_far (p := ⟨gb277, 1, none⟩) (Kd.R_far (p := ⟨gb277, 0, none⟩) (Kd.R_types HO273.out BK277.out (by decide)) (fun _ hk => hk.2) (.slice Ao22 t271.length co22)) (fun _ hk => hk.2) (.slice Ao24 t274.length co24)) (fun _ hk => trivial)))⟩; have n1_ : Aside0 (Kd.R (Kd.int .u8) 46 w25 w.heap.size (fun _ => True) (.slice Ao24 t274.length co24) t274) := ⟨(by rw [hw]; exact (by (with_reducible repeat (first | apply Kd.R_alloc | apply Kd.R_drewN | apply Kd.R_drew)); exact Kd.R_mono (Kd.R_far (p := ⟨gb277, 1, none⟩) (Kd.R_far (p := ⟨gb277, 0, none⟩) (Kd.R_types HO276.out BK277.out (by decide)) (fun _ hk => hk.2) (.slice Ao22 t271.length co22)) (fun _ hk => hk.2) (.slice Ao24 t274.length co24)) (fun _ hk => trivial)))⟩; have n2_ : Aside0 (w25.heap[gb277]? = some (.cells #[.slice Ao22 t271.length co22, .slice Ao24 t274.length co24] 35 (0, 0))) := ⟨(by rw [hw]; exact (by (with_reducible repeat (first | refine blk_drewN ?_ _ | refine blk_drew ?_ | refine blk_alloc ?_ _)); refine blk_put (cs := #[.slice Ao22 t271.length co22, .slice none 0 0]) ?_ 1 _ rfl; (with_reducible repeat (first | refine blk_drewN ?_ _ | refine blk_drew ?_ | refine blk_alloc ?_ _)); refine blk_put (cs := #[.slice none 0 0, .slice none 0 0]) ?_ 0 _ rfl; (with_reducible repeat (first | refine blk_drewN ?_ _ | refine blk_drew ?_ | refine blk_alloc ?_ _)); exact BK277.out))⟩; have n3_ : Aside0 (Below w.heap.size w w25) := ⟨(by rw [hw]; exact (by repeat (first | (with_reducible first | exact HB.out | apply below_alloc | apply pw_below_drewN | apply below_drew1 | refine below_set ?_ GE277.out) | exact HB.out)))⟩; clear hw; clear HO273; clear HO276; clear BK277; clear HB; have HO273 := n0_; have HO276 := n1_; have BK277 := n2_; have HB := n3_; clear n0_ n1_ n2_ n3_; have hcz26_0 : w25.cell? ⟨gb277, 0, none⟩ = some (.slice Ao22 t271.length co22) := (blk_cell BK277.out 0).trans rfl; have hcz26_1 : w25.cell? ⟨gb277, 1, none⟩ = some (.slice Ao24 t274.length co24) := (blk_cell BK277.out 1).trans rfl; have hfz26_0 := blk_frozen BK277.out 0; have hfz26_1 := blk_frozen BK277.out 1) | ((with_reducible refine gate_callee (f := 20) rfl ?_); refine goesL_ (some 41) rfl rfl Try.func20 (by kernel_rfl) rfl #[.agg #[.slice Ao22 t271.length co22, .slice Ao24 t274.length co24], .int .i64 a1, .int .i64 a2] rfl (by (try simp only [List.map_toArray, List.map_cons, List.map_nil]); first | done | rfl | (simp only [List.length_drop, List.length_take]; rfl)) ?_; (with_reducible refine (stanzalaw13_cut.calls _ _ t271 _ _ t274 a1 a2 t278 t279 _ ?side1 ?side2 ?side3 ?side4 A15.out).mono ?_); (case side1 => repeat (first | exact (Kd.R_reads' HO273.out).2.2 | (with_reducible refine Kd.C_alloc ?_ _) | (with_reducible refine Kd.C_drewN ?_ _) | (with_reducible refine Kd.C_drew ?_))); (case side2 => exact (Kd.R_reads' HO273.out).2.1); (case side3 => repeat (first | exact (Kd.R_reads' HO276.out).2.2 | (with_reducible refine Kd.C_alloc ?_ _) | (with_reducible refine Kd.C_drewN ?_ _) | (with_reducible refine Kd.C_drew ?_))); (case side4 => exact (Kd.R_reads' HO276.out).2.1); rintro e w27 ⟨rfl, hb⟩; refine ⟨_, rfl, ?_⟩; have n0_ := Aside0.mk (Kd.R_below (by (with_reducible repeat (first | apply Kd.R_alloc | apply Kd.R_drewN | apply Kd.R_drew)); exact HO273.out) hb); have n1_ := Aside0.mk (Kd.R_below (by (with_reducible repeat (first | apply Kd.R_alloc | apply Kd.R_drewN | apply Kd.R_drew)); exact HO276.out) hb); have n2_ := Aside0.mk (blk_below (g := gb277) (o := .cells #[.slice Ao22 t271.length co22, .slice Ao24 t274.length co24] 35 (0, 0)) (by (with_reducible repeat (first | refine blk_drewN ?_ _ | refine blk_drew ?_ | refine blk_alloc ?_ _)); exact BK277.out) hb); have n3_ := Aside0.mk (below_step (by repeat (first | (with_reducible first | exact HB.out | apply below_alloc | apply pw_below_drewN | apply below_drew1 | refine below_set ?_ GE277.out) | exact HB.out)) hb); clear HO273; clear HO276; clear BK277; clear HB; have HO273 := n0_; have HO276 := n1_; have BK277 := n2_; have HB := n3_; clear n0_ n1_ n2_ n3_; (try clear hb); (try clear hb2); (try clear hk); (try clear hi)))
              have n0_ := Aside0.mk (Kd.R_drew HO273.out)
              have n1_ := Aside0.mk (Kd.R_drew HO276.out)
              have n2_ := Aside0.mk (blk_drew BK277.out)
              have n3_ := Aside0.mk (below_drew1 HB.out)
              clear HO273
              clear HO276
              clear BK277
              clear HB
              have HO273 := n0_
              have HO276 := n1_
              have BK277 := n2_
              have HB := n3_
              clear n0_ n1_ n2_ n3_
              refine start_ (n := 10) (S := fun w' => w'.cell? ⟨gb277, 0, none⟩ = some (.slice Ao22 t271.length co22) ∧ w'.cell? ⟨gb277, 1, none⟩ = some (.slice Ao24 t274.length co24)) (ds := []) #[false, false, false, false, false, false, false, false, false, false] (by kernel_rfl) rfl rfl ⟨(blk_cell BK277.out 0).trans rfl, (blk_cell BK277.out 1).trans rfl⟩ (fun hHeld => ?_); refine with_tabW stanzalaw13_SpanJoins.tab14 stanzalaw13_SpanJoins.bits14 (fun HT_ HW_ => ?_)
              generalize w27.drew = w28 at HO273 HO276 BK277 HB hHeld ⊢
              refine pure_ (i := 1) (N := some 56) (v := ?_) (a' := ?_) #[false, true, false, false, false, false, false, false, false, false] rfl rfl (any_of HT_.out (by kernel_rfl)) (fun _ _ _ h => h) (Or.inl ⟨by rfl, ?_⟩) ?_ ?_
              rotate_left
              · intro w'
                go_simp
                with_reducible rfl
              rotate_left
              · simp only [Act.put, List.setIfInBounds_toArray, List.set_cons_zero, List.set_cons_succ, i64_w, i32_w]
                rfl
              refine pure_ (i := 2) (N := some 57) (v := ?_) (a' := ?_) #[false, true, true, false, false, false, false, false, false, false] rfl rfl (any_of HT_.out (by kernel_rfl)) (fun _ _ _ h => h) (Or.inl ⟨by rfl, ?_⟩) ?_ ?_
              rotate_left
              · intro w'
                go_simp
                with_reducible rfl
              rotate_left
              · simp only [Act.put, List.setIfInBounds_toArray, List.set_cons_zero, List.set_cons_succ, i64_w, i32_w]
                rfl
              refine pure_ (i := 5) (N := some 60) (v := ?_) (a' := ?_) #[false, true, true, false, false, true, false, false, false, false] rfl rfl (any_of HT_.out (by kernel_rfl)) (fun _ _ _ h => h) (Or.inl ⟨by rfl, ?_⟩) ?_ ?_
              rotate_left
              · intro w'
                go_simp
                with_reducible rfl
              rotate_left
              · simp only [Act.put, List.setIfInBounds_toArray, List.set_cons_zero, List.set_cons_succ, i64_w, i32_w]
                rfl
              refine pure_ (i := 6) (N := some 61) (v := ?_) (a' := ?_) #[false, true, true, false, false, true, true, false, false, false] rfl rfl (any_of HT_.out (by kernel_rfl)) (fun _ _ _ h => h) (Or.inl ⟨by rfl, ?_⟩) ?_ ?_
              rotate_left
              · intro w'
                go_simp
                with_reducible rfl
              rotate_left
              · simp only [Act.put, List.setIfInBounds_toArray, List.set_cons_zero, List.set_cons_succ, i64_w, i32_w]
                rfl
              refine take_ (i := 0) (N := some 55) (v := ?_) (a' := ?_) #[true, true, true, false, false, true, true, false, false, false] rfl rfl (take_ofW HT_.out HW_.out (by kernel_rfl)) (fun _ _ _ h => h) (Or.inl ⟨by rfl, ?_⟩) hHeld ?_ ?_
              rotate_left
              · rintro w' ⟨s0, s1⟩
                go_simp
                with_reducible rfl
              rotate_left
              · simp only [Act.put, List.setIfInBounds_toArray, List.set_cons_zero, List.set_cons_succ, i64_w, i32_w]
                rfl
              refine take_ (i := 4) (N := some 59) (v := ?_) (a' := ?_) #[true, true, true, false, true, true, true, false, false, false] rfl rfl (take_ofW HT_.out HW_.out (by kernel_rfl)) (fun _ _ _ h => h) (Or.inl ⟨by rfl, ?_⟩) hHeld ?_ ?_
              rotate_left
              · rintro w' ⟨s0, s1⟩
                go_simp
                with_reducible rfl
              rotate_left
              · simp only [Act.put, List.setIfInBounds_toArray, List.set_cons_zero, List.set_cons_succ, i64_w, i32_w]
                rfl
              refine one_ (i := 3) (N := some 58) #[true, true, true, true, true, true, true, false, false, false] rfl rfl (one_of HT_.out (by kernel_rfl)) (by decide) (fun K hK => ?_)
              refine goes_ Try.func23 (by kernel_rfl) rfl #[.agg #[.slice Ao22 t271.length co22, .slice Ao24 t274.length co24], .int .i64 t278, .int .i64 t279, .int .i64 8] (by rfl) rfl rfl (by (try simp only [List.map_toArray, List.map_cons, List.map_nil]); first | done | rfl | (simp only [List.length_drop, List.length_take]; rfl)) ?_
              with_reducible refine (span_Columns.calls k1 _ _ t271 _ _ t274 t278 t279 8 t280 _ ?side1 ?side2 ?side3 ?side4 A17.out).mono ?_
              (case side1 => repeat (first | exact (Kd.R_reads' HO273.out).2.2 | (with_reducible refine Kd.C_alloc ?_ _) | (with_reducible refine Kd.C_drewN ?_ _) | (with_reducible refine Kd.C_drew ?_)))
              (case side2 => exact (Kd.R_reads' HO273.out).2.1)
              (case side3 => repeat (first | exact (Kd.R_reads' HO276.out).2.2 | (with_reducible refine Kd.C_alloc ?_ _) | (with_reducible refine Kd.C_drewN ?_ _) | (with_reducible refine Kd.C_drew ?_)))
              (case side4 => exact (Kd.R_reads' HO276.out).2.1)
              rintro e w29 ⟨v281, rfl, ho0, hb⟩
              refine ⟨_, rfl, ?_⟩
              have n0_ := Aside0.mk (Kd.R_below (by (with_reducible repeat (first | apply Kd.R_alloc | apply Kd.R_drewN | apply Kd.R_drew)); exact HO273.out) hb)
              have n1_ := Aside0.mk (Kd.R_below (by (with_reducible repeat (first | apply Kd.R_alloc | apply Kd.R_drewN | apply Kd.R_drew)); exact HO276.out) hb)
              have n2_ := Aside0.mk (Kd.R_lower ho0 (below_size (by repeat (first | (with_reducible first | exact HB.out | apply below_alloc | apply pw_below_drewN | apply below_drew1 | refine below_set ?_ GE277.out) | exact HB.out))))
              have n3_ := Aside0.mk (blk_below (g := gb277) (o := .cells #[.slice Ao22 t271.length co22, .slice Ao24 t274.length co24] 35 (0, 0)) (by (with_reducible repeat (first | refine blk_drewN ?_ _ | refine blk_drew ?_ | refine blk_alloc ?_ _)); exact BK277.out) hb)
              have n4_ := Aside0.mk (below_step (by repeat (first | (with_reducible first | exact HB.out | apply below_alloc | apply pw_below_drewN | apply below_drew1 | refine below_set ?_ GE277.out) | exact HB.out)) hb)
              clear HO273
              clear HO276
              clear BK277
              clear HB
              have HO273 := n0_
              have HO276 := n1_
              have HO282 := n2_
              have BK277 := n3_
              have HB := n4_
              clear n0_ n1_ n2_ n3_ n4_
              (try clear hb)
              (try clear hb2)
              (try clear hk)
              (try clear hi)
              (try clear ho0)
              refine hK.out _ _ ⟨(blk_cell BK277.out 0).trans rfl, (blk_cell BK277.out 1).trans rfl⟩ (fun hHeld => ?_)
              clear hK K
              refine norm_ (a' := ?_) ?_ ?_
              rotate_left
              · show Act.put _ (some 58) _ = _
                simp only [Act.put, List.setIfInBounds_toArray, List.set_cons_zero, List.set_cons_succ, i64_w, i32_w]
                rfl
              refine one_ (i := 7) (N := some 62) #[true, true, true, true, true, true, true, true, false, false] rfl rfl (one_of HT_.out (by kernel_rfl)) (by decide) (fun K hK => ?_)
              refine goes_ Try.func23 (by kernel_rfl) rfl #[.agg #[.slice Ao22 t271.length co22, .slice Ao24 t274.length co24], .int .i64 (wrap64 (t278 + (wrap64 (Int.tmod (IntKind.u64.wrap (a3)) (IntKind.u64.wrap (wrap64 ((wrap64 (t279 - t278)) + 1))))))), .int .i64 t279, .int .i64 8] (by rfl) rfl rfl (by (try simp only [List.map_toArray, List.map_cons, List.map_nil]); first | done | rfl | (simp only [List.length_drop, List.length_take]; rfl)) ?_
              with_reducible refine (span_Columns.calls k1 _ _ t271 _ _ t274 (wrap64 (t278 + (wrap64 (Int.tmod (IntKind.u64.wrap (a3)) (IntKind.u64.wrap (wrap64 ((wrap64 (t279 - t278)) + 1))))))) t279 8 t283 _ ?side1 ?side2 ?side3 ?side4 A18.out).mono ?_
              (case side1 => repeat (first | exact (Kd.R_reads' HO273.out).2.2 | (with_reducible refine Kd.C_alloc ?_ _) | (with_reducible refine Kd.C_drewN ?_ _) | (with_reducible refine Kd.C_drew ?_)))
              (case side2 => exact (Kd.R_reads' HO273.out).2.1)
              (case side3 => repeat (first | exact (Kd.R_reads' HO276.out).2.2 | (with_reducible refine Kd.C_alloc ?_ _) | (with_reducible refine Kd.C_drewN ?_ _) | (with_reducible refine Kd.C_drew ?_)))
              (case side4 => exact (Kd.R_reads' HO276.out).2.1)
              rintro e w30 ⟨v284, rfl, ho0, hb⟩
              refine ⟨_, rfl, ?_⟩
              have n0_ := Aside0.mk (Kd.R_below (by (with_reducible repeat (first | apply Kd.R_alloc | apply Kd.R_drewN | apply Kd.R_drew)); exact HO273.out) hb)
              have n1_ := Aside0.mk (Kd.R_below (by (with_reducible repeat (first | apply Kd.R_alloc | apply Kd.R_drewN | apply Kd.R_drew)); exact HO276.out) hb)
              have n2_ := Aside0.mk (Kd.R_elder' (by (with_reducible repeat (first | apply Kd.R_alloc | apply Kd.R_drewN | apply Kd.R_drew)); exact HO282.out) (Kd.R_base ho0) hb)
              have n3_ := Aside0.mk (Kd.R_lower (Kd.R_new' ho0 (Kd.R_lt (by (with_reducible repeat (first | apply Kd.R_alloc | apply Kd.R_drewN | apply Kd.R_drew)); exact HO282.out))) (below_size (by repeat (first | (with_reducible first | exact HB.out | apply below_alloc | apply pw_below_drewN | apply below_drew1 | refine below_set ?_ GE277.out) | exact HB.out))))
              have n4_ := Aside0.mk (blk_below (g := gb277) (o := .cells #[.slice Ao22 t271.length co22, .slice Ao24 t274.length co24] 35 (0, 0)) (by (with_reducible repeat (first | refine blk_drewN ?_ _ | refine blk_drew ?_ | refine blk_alloc ?_ _)); exact BK277.out) hb)
              have n5_ := Aside0.mk (below_step (by repeat (first | (with_reducible first | exact HB.out | apply below_alloc | apply pw_below_drewN | apply below_drew1 | refine below_set ?_ GE277.out) | exact HB.out)) hb)
              clear HO273
              clear HO276
              clear HO282
              clear BK277
              clear HB
              have HO273 := n0_
              have HO276 := n1_
              have HO282 := n2_
              have HO285 := n3_
              have BK277 := n4_
              have HB := n5_
              clear n0_ n1_ n2_ n3_ n4_ n5_
              (try clear hb)
              (try clear hb2)
              (try clear hk)
              (try clear hi)
              (try clear ho0)
              refine hK.out _ _ ⟨(blk_cell BK277.out 0).trans rfl, (blk_cell BK277.out 1).trans rfl⟩ (fun hHeld => ?_)
              clear hK K
              refine norm_ (a' := ?_) ?_ ?_
              rotate_left
              · show Act.put _ (some 62) _ = _
                simp only [Act.put, List.setIfInBounds_toArray, List.set_cons_zero, List.set_cons_succ, i64_w, i32_w]
                rfl
              refine pure_ (i := 8) (N := some 14) (v := ?_) (a' := ?_) #[true, true, true, true, true, true, true, true, true, false] rfl rfl (any_of HT_.out (by kernel_rfl)) (fun _ _ _ h => h) (Or.inl ⟨by rfl, ?_⟩) ?_ ?_
              rotate_left
              · intro w'
                go_simp
                with_reducible rfl
              rotate_left
              · simp only [Act.put, List.setIfInBounds_toArray, List.set_cons_zero, List.set_cons_succ, i64_w, i32_w]
                rfl
              refine pure_ (i := 9) (N := some 15) (v := ?_) (a' := ?_) #[true, true, true, true, true, true, true, true, true, true] rfl rfl (any_of HT_.out (by kernel_rfl)) (fun _ _ _ h => h) (Or.inl ⟨by rfl, ?_⟩) ?_ ?_
              rotate_left
              · intro w'
                go_simp
                with_reducible rfl
              rotate_left
              · simp only [Act.put, List.setIfInBounds_toArray, List.set_cons_zero, List.set_cons_succ, i64_w, i32_w]
                rfl
              refine done_ (done_of HT_.out (by kernel_rfl)) ?_
              go_upto_region 15 with (fail)
              go_cut [78] (fun v78 wc => ∃ (kq : Nat) (x78_18 : Bool), v78 = .bool x78_18 ∧ Aside0 (stanzalaw13_SpanJoins.j1 kq t278 (wrap64 (t278 + (wrap64 (Int.tmod (IntKind.u64.wrap (a3)) (IntKind.u64.wrap (wrap64 ((wrap64 (t279 - t278)) + 1))))))) t280 t283 x78_18 = some r) ∧ Aside0 (kq ≤ k1) ∧ Aside0 (Kd.R (Kd.int .i64) 3 wc w.heap.size (fun k_ => some k_ ≠ (v284 : Value).ownBlock) v281 t280) ∧ Aside0 (Kd.R (Kd.int .i64) 3 wc w.heap.size (fun k_ => some k_ ≠ (v281 : Value).ownBlock) v284 t283) ∧ Aside0 (Kd.R k41 41 wc w.heap.size (fun _ => True) (.slice Ao22 t271.length co22) t271) ∧ Aside0 (Kd.R (Kd.int .u8) 46 wc w.heap.size (fun _ => True) (.slice Ao24 t274.length co24) t274) ∧ Aside0 (wc.heap[gb277]? = some (.cells #[(.slice Ao22 t271.length co22), (.slice Ao24 t274.length co24)] 35 (0, 0))) ∧ Aside0 (Below w.heap.size w wc))
              case first =>
                have H := HC19.out
                clear HC19
                by_cases c31 : (t280.length : Int) = (wrap64 ((wrap64 (t279 - t278)) + 1))
                · rw [if_pos c31] at H
                  have c31b0 : ((t280.length : Int) == (wrap64 ((wrap64 (t279 - t278)) + 1))) = true := beq_iff_eq.mpr c31
                  have c31b1 : ((t280.length : Int) != (wrap64 ((wrap64 (t279 - t278)) + 1))) = false := bne_eq_false_iff_eq.mpr c31
                  clear c31
                  (first | rw [c31b0] | (simp only [i64_w, i32_w]; rw [c31b0]) | skip)
                  have H' := Aside0.mk H
                  clear H
                  obtain ⟨Ao32, co32, eo32⟩ := Kd.R_slice HO282.out
                  subst eo32
                  obtain ⟨Ao33, co33, eo33⟩ := Kd.R_slice HO285.out
                  subst eo33
                  go_wp2
                  go_meet
                  case rel => exact ⟨_, (((t283.length : Int) != (wrap64 ((wrap64 (t279 - (wrap64 (t278 + (wrap64 (Int.tmod (IntKind.u64.wrap (a3)) (IntKind.u64.wrap (wrap64 ((wrap64 (t279 - t278)) + 1))))))))) + 1)))), (by first | rfl | (simp; done) | (simp [*]; done)), H', ⟨by have := HK1.out; first | omega | exact Nat.le_refl _⟩, ⟨by (with_reducible repeat (first | apply Kd.R_alloc | apply Kd.R_drewN | apply Kd.R_drew)); exact Kd.R_mono HO282.out (fun _ hk => hk.2)⟩, ⟨by (with_reducible repeat (first | apply Kd.R_alloc | apply Kd.R_drewN | apply Kd.R_drew)); exact Kd.R_mono HO285.out (fun _ hk => hk.2)⟩, ⟨by (with_reducible repeat (first | apply Kd.R_alloc | apply Kd.R_drewN | apply Kd.R_drew)); exact HO273.out⟩, ⟨by (with_reducible repeat (first | apply Kd.R_alloc | apply Kd.R_drewN | apply Kd.R_drew)); exact HO276.out⟩, ⟨by (with_reducible repeat (first | refine blk_drewN ?_ _ | refine blk_drew ?_ | refine blk_alloc ?_ _)); exact BK277.out⟩, ⟨by repeat (first | (with_reducible first | exact HB.out | apply below_alloc | apply pw_below_drewN | apply below_drew1 | refine below_set ?_ GE277.out) | exact HB.out)⟩⟩
                · rw [if_neg c31] at H
                  have c31b0 : ((t280.length : Int) == (wrap64 ((wrap64 (t279 - t278)) + 1))) = false := beq_eq_false_iff_ne.mpr c31
                  have c31b1 : ((t280.length : Int) != (wrap64 ((wrap64 (t279 - t278)) + 1))) = true := bne_iff_ne.mpr c31
                  (first | rw [c31b0] | (simp only [i64_w, i32_w]; rw [c31b0]) | skip)
                  have H' := Aside0.mk H
                  clear H
                  obtain ⟨Ao34, co34, eo34⟩ := Kd.R_slice HO282.out
                  subst eo34
                  go_wp2
                  go_meet
                  case rel => exact ⟨_, (true), (by first | rfl | (simp; done) | (simp [*]; done)), H', ⟨by have := HK1.out; first | omega | exact Nat.le_refl _⟩, ⟨by (with_reducible repeat (first | apply Kd.R_alloc | apply Kd.R_drewN | apply Kd.R_drew)); exact Kd.R_mono HO282.out (fun _ hk => hk.2)⟩, ⟨by (with_reducible repeat (first | apply Kd.R_alloc | apply Kd.R_drewN | apply Kd.R_drew)); exact Kd.R_mono HO285.out (fun _ hk => hk.2)⟩, ⟨by (with_reducible repeat (first | apply Kd.R_alloc | apply Kd.R_drewN | apply Kd.R_drew)); exact HO273.out⟩, ⟨by (with_reducible repeat (first | apply Kd.R_alloc | apply Kd.R_drewN | apply Kd.R_drew)); exact HO276.out⟩, ⟨by (with_reducible repeat (first | refine blk_drewN ?_ _ | refine blk_drew ?_ | refine blk_alloc ?_ _)); exact BK277.out⟩, ⟨by repeat (first | (with_reducible first | exact HB.out | apply below_alloc | apply pw_below_drewN | apply below_drew1 | refine below_set ?_ GE277.out) | exact HB.out)⟩⟩
              case rest =>
                clear HC19
                try clear c1
                try clear c2
                try clear p2
                try clear q2
                try clear hx2
                try clear c3
                try clear c6
                try clear p6
                try clear c7
                try clear c7b0
                try clear c7b1
                try clear c8
                try clear c10
                try clear c10b0
                try clear c11
                try clear c11b0
                try clear c12
                try clear c12b0
                try clear c13
                try clear c13b0
                try clear c13b1
                try clear c16
                try clear c16b0
                try clear c16b1
                try clear c18
                try clear c19
                try clear c20
                try clear c23
                try clear p27
                try clear q27
                try clear hx27
                try clear c31
                try clear c31b0
                try clear c31b1
                try clear hcz23_0
                try clear hcz23_1
                try clear hcz26_0
                try clear hcz26_1
                try clear hfz23_0
                try clear hfz23_1
                try clear hfz26_0
                try clear hfz26_1
                try clear hx270_0
                try clear hx270_1
                try clear hx270_2
                try clear hx270_3
                try clear p2
                try clear p270
                try clear q270
                obtain ⟨kq, x78_18, rfl, HA, HJ18, HO_14, HO_15, HO_278000, HO_278001, BK277, HB⟩ := hcut
                cases kq with
                | zero => exact absurd HA.out (by simp [stanzalaw13_SpanJoins.j1])
                | succ kj18 =>
                  have H := HA.out
                  clear HA
                  simp only [stanzalaw13_SpanJoins.j1] at H
                  by_cases c35 : x78_18 = true
                  · subst c35
                    have H1 : (some false) = some r := by rw [if_pos rfl] at H; exact H
                    clear H
                    have H := H1
                    clear H1
                    exact absurd ((Option.some.inj H).trans hrt_.out) (by decide)
                  · replace c35 := Bool.eq_false_iff.mpr c35
                    subst c35
                    have H1 : (stanzalaw13_SpanJoins.l1 kj18 t278 (wrap64 (t278 + (wrap64 (Int.tmod (IntKind.u64.wrap (a3)) (IntKind.u64.wrap (wrap64 ((wrap64 (t279 - t278)) + 1))))))) t280 t283 (t283.length : Int) 0) = some r := by rw [if_neg (show ¬ (false = true) by decide)] at H; exact H
                    clear H
                    have H := H1
                    clear H1
                    have H' := Aside0.mk H
                    clear H
                    obtain ⟨Ao36, co36, eo36⟩ := Kd.R_slice HO_15.out
                    subst eo36
                    go_wp2
                    go_loopg [81] kj18 (fun kq v81 w' => ∃ (x81_3 : Int), v81 = .int .i64 x81_3 ∧ Aside0 (stanzalaw13_SpanJoins.l1 kq t278 (wrap64 (t278 + (wrap64 (Int.tmod (IntKind.u64.wrap (a3)) (IntKind.u64.wrap (wrap64 ((wrap64 (t279 - t278)) + 1))))))) t280 t283 (t283.length : Int) x81_3 = some r) ∧ Aside0 (kq ≤ kj18) ∧ Aside0 (Kd.R (Kd.int .i64) 3 w' w.heap.size (fun k_ => some k_ ≠ ((.slice Ao36 t283.length co36) : Value).ownBlock) v281 t280) ∧ Aside0 (Kd.R (Kd.int .i64) 3 w' w.heap.size (fun k_ => some k_ ≠ (v281 : Value).ownBlock) (.slice Ao36 t283.length co36) t283) ∧ Aside0 (Kd.R k41 41 w' w.heap.size (fun _ => True) (.slice Ao22 t271.length co22) t271) ∧ Aside0 (Kd.R (Kd.int .u8) 46 w' w.heap.size (fun _ => True) (.slice Ao24 t274.length co24) t274) ∧ Aside0 (w'.heap[gb277]? = some (.cells #[(.slice Ao22 t271.length co22), (.slice Ao24 t274.length co24)] 35 (0, 0))) ∧ Aside0 (Below w.heap.size w w'))
                    case atStart => exact ⟨(0), (by first | rfl | (simp; done) | (simp [*]; done)), H', ⟨Nat.le_refl _⟩, ⟨by (with_reducible repeat (first | apply Kd.R_alloc | apply Kd.R_drewN | apply Kd.R_drew)); exact HO_14.out⟩, ⟨by (with_reducible repeat (first | apply Kd.R_alloc | apply Kd.R_drewN | apply Kd.R_drew)); exact HO_15.out⟩, ⟨by (with_reducible repeat (first | apply Kd.R_alloc | apply Kd.R_drewN | apply Kd.R_drew)); exact HO_278000.out⟩, ⟨by (with_reducible repeat (first | apply Kd.R_alloc | apply Kd.R_drewN | apply Kd.R_drew)); exact HO_278001.out⟩, ⟨by (with_reducible repeat (first | refine blk_drewN ?_ _ | refine blk_drew ?_ | refine blk_alloc ?_ _)); exact BK277.out⟩, ⟨by repeat (first | (with_reducible first | exact HB.out | apply below_alloc | apply pw_below_drewN | apply below_drew1 | refine below_set ?_ GE277.out) | exact HB.out)⟩⟩
                    case round =>
                      clear H'
                      try clear c1
                      try clear c2
                      try clear p2
                      try clear q2
                      try clear hx2
                      try clear c3
                      try clear c6
                      try clear p6
                      try clear c7
                      try clear c7b0
                      try clear c7b1
                      try clear c8
                      try clear c10
                      try clear c10b0
                      try clear c11
                      try clear c11b0
                      try clear c12
                      try clear c12b0
                      try clear c13
                      try clear c13b0
                      try clear c13b1
                      try clear c16
                      try clear c16b0
                      try clear c16b1
                      try clear c18
                      try clear c19
                      try clear c20
                      try clear c23
                      try clear p27
                      try clear q27
                      try clear hx27
                      try clear c31
                      try clear c31b0
                      try clear c31b1
                      try clear c35
                      try clear hcz23_0
                      try clear hcz23_1
                      try clear hcz26_0
                      try clear hcz26_1
                      try clear hfz23_0
                      try clear hfz23_1
                      try clear hfz26_0
                      try clear hfz26_1
                      try clear hx270_0
                      try clear hx270_1
                      try clear hx270_2
                      try clear hx270_3
                      try clear p2
                      try clear p27
                      try clear p270
                      try clear p6
                      try clear q2
                      try clear q27
                      try clear q270
                      obtain ⟨x81_3, rfl, HA, HK3, HO_14, HO_15, HO_278000, HO_278001, BK277, HB⟩ := hrel
                      cases gk with
                      | zero => exact absurd HA.out (by simp [stanzalaw13_SpanJoins.l1])
                      | succ k3 =>
                        have H := HA.out
                        clear HA
                        simp only [stanzalaw13_SpanJoins.l1] at H
                        by_cases c37 : x81_3 < (t283.length : Int)
                        · rw [if_pos c37] at H
                          have c37b0 : decide (x81_3 < (t283.length : Int)) = true := decide_eq_true c37
                          clear c37
                          by_cases c38 : 0 ≤ x81_3
                          · rw [if_pos c38] at H
                            have c38b0 : decide (0 ≤ x81_3) = true := decide_eq_true c38
                            clear c38
                            by_cases c39 : x81_3 < (t283.length : Int)
                            · rw [if_pos c39] at H
                              have c39b0 : decide (x81_3 < (t283.length : Int)) = true := decide_eq_true c39
                              clear c39
                              obtain ⟨ji40, hji40⟩ : ∃ j_ : Int, (wrap64 ((wrap64 ((wrap64 (t278 + (wrap64 (Int.tmod (IntKind.u64.wrap (a3)) (IntKind.u64.wrap (wrap64 ((wrap64 (t279 - t278)) + 1))))))) - t278)) + x81_3)) = j_ := ⟨_, rfl⟩
                              replace H : (if 0 ≤ (ji40) then (if (ji40) < (t280.length : Int) then (if 0 ≤ (wrap64 ((wrap64 (t278 + (wrap64 (Int.tmod (IntKind.u64.wrap (a3)) (IntKind.u64.wrap (wrap64 ((wrap64 (t279 - t278)) + 1))))))) - t278)) then (if (wrap64 ((wrap64 (t278 + (wrap64 (Int.tmod (IntKind.u64.wrap (a3)) (IntKind.u64.wrap (wrap64 ((wrap64 (t279 - t278)) + 1))))))) - t278)) < (t280.length : Int) then (if (rd t283 x81_3) = (wrap64 ((rd t280 (ji40)) - (rd t280 (wrap64 ((wrap64 (t278 + (wrap64 (Int.tmod (IntKind.u64.wrap (a3)) (IntKind.u64.wrap (wrap64 ((wrap64 (t279 - t278)) + 1))))))) - t278))))) then (stanzalaw13_SpanJoins.l1 k3 t278 (wrap64 (t278 + (wrap64 (Int.tmod (IntKind.u64.wrap (a3)) (IntKind.u64.wrap (wrap64 ((wrap64 (t279 - t278)) + 1))))))) t280 t283 (t283.length : Int) (wrap64 (x81_3 + 1))) else (some false)) else (none)) else (none)) else (none)) else (none)) = some r := by first | (rw [hji40] at H; exact H) | (simp only [hji40] at H ⊢; exact H)
                              have hji40w : (IntKind.i64.wrap ((wrap64 ((wrap64 (t278 + (wrap64 (Int.tmod (IntKind.u64.wrap (a3)) (IntKind.u64.wrap (wrap64 ((wrap64 (t279 - t278)) + 1))))))) - t278)) + x81_3)) = ji40 := (i64_w _).trans hji40
                              by_cases c41 : 0 ≤ (ji40)
                              · rw [if_pos c41] at H
                                have c41b0 : decide (0 ≤ (ji40)) = true := decide_eq_true c41
                                clear c41
                                by_cases c42 : (ji40) < (t280.length : Int)
                                · rw [if_pos c42] at H
                                  have c42b0 : decide ((ji40) < (t280.length : Int)) = true := decide_eq_true c42
                                  clear c42
                                  obtain ⟨ji43, hji43⟩ : ∃ j_ : Int, (wrap64 ((wrap64 (t278 + (wrap64 (Int.tmod (IntKind.u64.wrap (a3)) (IntKind.u64.wrap (wrap64 ((wrap64 (t279 - t278)) + 1))))))) - t278)) = j_ := ⟨_, rfl⟩
                                  replace H : (if 0 ≤ (ji43) then (if (ji43) < (t280.length : Int) then (if (rd t283 x81_3) = (wrap64 ((rd t280 (ji40)) - (rd t280 (ji43)))) then (stanzalaw13_SpanJoins.l1 k3 t278 (wrap64 (t278 + (wrap64 (Int.tmod (IntKind.u64.wrap (a3)) (IntKind.u64.wrap (wrap64 ((wrap64 (t279 - t278)) + 1))))))) t280 t283 (t283.length : Int) (wrap64 (x81_3 + 1))) else (some false)) else (none)) else (none)) = some r := by first | (rw [hji43] at H; exact H) | (simp only [hji43] at H ⊢; exact H)
                                  have hji43w : (IntKind.i64.wrap ((wrap64 (t278 + (wrap64 (Int.tmod (IntKind.u64.wrap (a3)) (IntKind.u64.wrap (wrap64 ((wrap64 (t279 - t278)) + 1))))))) - t278)) = ji43 := (i64_w _).trans hji43
                                  (try rw [hji43] at hji40)
                                  (try rw [hji43] at hji40w)
                                  by_cases c44 : 0 ≤ (ji43)
                                  · rw [if_pos c44] at H
                                    have c44b0 : decide (0 ≤ (ji43)) = true := decide_eq_true c44
                                    clear c44
                                    by_cases c45 : (ji43) < (t280.length : Int)
                                    · rw [if_pos c45] at H
                                      have c45b0 : decide ((ji43) < (t280.length : Int)) = true := decide_eq_true c45
                                      clear c45
                                      by_cases c46 : (rd t283 x81_3) = (wrap64 ((rd t280 (ji40)) - (rd t280 (ji43))))
                                      · rw [if_pos c46] at H
                                        have c46b0 : ((rd t283 x81_3) == (wrap64 ((rd t280 (ji40)) - (rd t280 (ji43))))) = true := beq_iff_eq.mpr c46
                                        have c46b1 : ((rd t283 x81_3) != (wrap64 ((rd t280 (ji40)) - (rd t280 (ji43))))) = false := bne_eq_false_iff_eq.mpr c46
                                        clear c46
                                        have H' := Aside0.mk H
                                        clear H
                                        try go_wp2
                                        have n0_ := Aside0.mk (Kd.R_drew HO_14.out)
                                        have n1_ := Aside0.mk (Kd.R_drew HO_15.out)
                                        have n2_ := Aside0.mk (Kd.R_drew HO_278000.out)
                                        have n3_ := Aside0.mk (Kd.R_drew HO_278001.out)
                                        have n4_ := Aside0.mk (blk_drew BK277.out)
                                        have n5_ := Aside0.mk (below_drew1 HB.out)
                                        clear HO_14
                                        clear HO_15
                                        clear HO_278000
                                        clear HO_278001
                                        clear BK277
                                        clear HB
                                        have HO_14 := n0_
                                        have HO_15 := n1_
                                        have HO_278000 := n2_
                                        have HO_278001 := n3_
                                        have BK277 := n4_
                                        have HB := n5_
                                        clear n0_ n1_ n2_ n3_ n4_ n5_
                                        have p286 : 0 ≤ (x81_3 : Int) := of_decide_eq_true (by first | (with_reducible assumption) | assumption)
                                        have q286 : x81_3 < (t283.length : Int) := of_decide_eq_true (by first | (with_reducible assumption) | assumption)
                                        obtain ⟨ad286, e286, hx286_0⟩ := Kd.at_int (Kd.R_reads' HO_15.out).2.2 x81_3 p286 q286
                                        cases e286
                                        replace p286 := eq_true p286
                                        replace q286 := eq_true q286
                                        obtain ⟨Ao48, co48, eo48⟩ := Kd.R_slice HO_14.out
                                        (first | subst eo48 | (injection eo48 with f1_ f2_ f3_; have f4_ := f1_.symm; have f5_ := f3_.symm; clear f1_ f2_ f3_; subst f4_; subst f5_))
                                        have p287 : 0 ≤ ((ji40) : Int) := of_decide_eq_true (by first | (with_reducible assumption) | assumption)
                                        have q287 : (ji40) < (t280.length : Int) := of_decide_eq_true (by first | (with_reducible assumption) | assumption)
                                        obtain ⟨ad287, e287, hx287_0⟩ := Kd.at_int (Kd.R_reads' HO_14.out).2.2 (ji40) p287 q287
                                        cases e287
                                        replace p287 := eq_true p287
                                        replace q287 := eq_true q287
                                        have p288 : 0 ≤ ((ji43) : Int) := of_decide_eq_true (by first | (with_reducible assumption) | assumption)
                                        have q288 : (ji43) < (t280.length : Int) := of_decide_eq_true (by first | (with_reducible assumption) | assumption)
                                        obtain ⟨ad288, e288, hx288_0⟩ := Kd.at_int (Kd.R_reads' HO_14.out).2.2 (ji43) p288 q288
                                        obtain rfl : ad287 = ad288 := (by injection e288)
                                        replace p288 := eq_true p288
                                        replace q288 := eq_true q288
                                        refine start_ (n := 20) (S := fun w' => w'.cell? (ad286.add (x81_3).toNat) = some (.int .i64 (rd t283 x81_3)) ∧ w'.cell? (ad287.add ((ji40)).toNat) = some (.int .i64 (rd t280 (ji40))) ∧ w'.cell? (ad287.add ((ji43)).toNat) = some (.int .i64 (rd t280 (ji43)))) (ds := []) #[false, false, false, false, false, false, false, false, false, false, false, false, false, false, false, false, false, false, false, false] (by kernel_rfl) rfl rfl ⟨hx286_0, hx287_0, hx288_0⟩ (fun hHeld => ?_); refine with_tabW stanzalaw13_SpanJoins.tab20 stanzalaw13_SpanJoins.bits20 (fun HT_ HW_ => ?_)
                                        generalize wr.drew = w47 at HO_14 HO_15 HO_278000 HO_278001 BK277 HB hx286_0 hx287_0 hx288_0 hHeld ⊢
                                        refine pure_ (i := 0) (N := some 84) (v := ?_) (a' := ?_) #[true, false, false, false, false, false, false, false, false, false, false, false, false, false, false, false, false, false, false, false] rfl rfl (any_of HT_.out (by kernel_rfl)) (fun _ _ _ h => h) (Or.inl ⟨by rfl, ?_⟩) ?_ ?_
                                        rotate_left
                                        · intro w'
                                          go_simp
                                          with_reducible rfl
                                        rotate_left
                                        · simp only [Act.put, List.setIfInBounds_toArray, List.set_cons_zero, List.set_cons_succ, i64_w, i32_w]
                                          rfl
                                        refine pure_ (i := 1) (N := some 85) (v := ?_) (a' := ?_) #[true, true, false, false, false, false, false, false, false, false, false, false, false, false, false, false, false, false, false, false] rfl rfl (any_of HT_.out (by kernel_rfl)) (fun _ _ _ h => h) (Or.inl ⟨by rfl, ?_⟩) ?_ ?_
                                        rotate_left
                                        · intro w'
                                          go_simp
                                          with_reducible rfl
                                        rotate_left
                                        · simp only [Act.put, List.setIfInBounds_toArray, List.set_cons_zero, List.set_cons_succ, i64_w, i32_w]
                                          rfl
                                        refine pure_ (i := 2) (N := some 86) (v := ?_) (a' := ?_) #[true, true, true, false, false, false, false, false, false, false, false, false, false, false, false, false, false, false, false, false] rfl rfl (any_of HT_.out (by kernel_rfl)) (fun _ _ _ h => h) (Or.inl ⟨by rfl, ?_⟩) ?_ ?_
                                        rotate_left
                                        · intro w'
                                          go_simp
                                          with_reducible rfl
                                        rotate_left
                                        · simp only [Act.put, List.setIfInBounds_toArray, List.set_cons_zero, List.set_cons_succ, i64_w, i32_w]
                                          rfl
                                        refine pure_ (i := 4) (N := some 88) (v := ?_) (a' := ?_) #[true, true, true, false, true, false, false, false, false, false, false, false, false, false, false, false, false, false, false, false] rfl rfl (any_of HT_.out (by kernel_rfl)) (fun _ _ _ h => h) (Or.inl ⟨by rfl, ?_⟩) ?_ ?_
                                        rotate_left
                                        · intro w'
                                          go_simp
                                          with_reducible rfl
                                        rotate_left
                                        · simp only [Act.put, List.setIfInBounds_toArray, List.set_cons_zero, List.set_cons_succ, i64_w, i32_w]
                                          rfl
                                        refine pure_ (i := 5) (N := some 89) (v := ?_) (a' := ?_) #[true, true, true, false, true, true, false, false, false, false, false, false, false, false, false, false, false, false, false, false] rfl rfl (any_of HT_.out (by kernel_rfl)) (fun _ _ _ h => h) (Or.inl ⟨by rfl, ?_⟩) ?_ ?_
                                        rotate_left
                                        · intro w'
                                          go_simp
                                          with_reducible rfl
                                        rotate_left
                                        · simp only [Act.put, List.setIfInBounds_toArray, List.set_cons_zero, List.set_cons_succ, i64_w, i32_w]
                                          rfl
                                        refine pure_ (i := 6) (N := some 90) (v := ?_) (a' := ?_) #[true, true, true, false, true, true, true, false, false, false, false, false, false, false, false, false, false, false, false, false] rfl rfl (any_of HT_.out (by kernel_rfl)) (fun _ _ _ h => h) (Or.inl ⟨by rfl, ?_⟩) ?_ ?_
                                        rotate_left
                                        · intro w'
                                          go_simp
                                          with_reducible rfl
                                        rotate_left
                                        · simp only [Act.put, List.setIfInBounds_toArray, List.set_cons_zero, List.set_cons_succ, i64_w, i32_w]
                                          rfl
                                        refine pure_ (i := 7) (N := some 91) (v := ?_) (a' := ?_) #[true, true, true, false, true, true, true, true, false, false, false, false, false, false, false, false, false, false, false, false] rfl rfl (any_of HT_.out (by kernel_rfl)) (fun _ _ _ h => h) (Or.inl ⟨by rfl, ?_⟩) ?_ ?_
                                        rotate_left
                                        · intro w'
                                          go_simp
                                          with_reducible rfl
                                        rotate_left
                                        · simp only [Act.put, List.setIfInBounds_toArray, List.set_cons_zero, List.set_cons_succ, i64_w, i32_w]
                                          rfl
                                        refine pure_ (i := 8) (N := some 92) (v := ?_) (a' := ?_) #[true, true, true, false, true, true, true, true, true, false, false, false, false, false, false, false, false, false, false, false] rfl rfl (any_of HT_.out (by kernel_rfl)) (fun _ _ _ h => h) (Or.inl ⟨by rfl, ?_⟩) ?_ ?_
                                        rotate_left
                                        · intro w'
                                          go_simp
                                          with_reducible rfl
                                        rotate_left
                                        · simp only [Act.put, List.setIfInBounds_toArray, List.set_cons_zero, List.set_cons_succ, i64_w, i32_w]
                                          rfl
                                        refine pure_ (i := 9) (N := some 93) (v := ?_) (a' := ?_) #[true, true, true, false, true, true, true, true, true, true, false, false, false, false, false, false, false, false, false, false] rfl rfl (any_of HT_.out (by kernel_rfl)) (fun _ _ _ h => h) (Or.inl ⟨by rfl, ?_⟩) ?_ ?_
                                        rotate_left
                                        · intro w'
                                          go_simp
                                          with_reducible rfl
                                        rotate_left
                                        · simp only [Act.put, List.setIfInBounds_toArray, List.set_cons_zero, List.set_cons_succ, i64_w, i32_w]
                                          rfl
                                        refine pure_ (i := 10) (N := some 94) (v := ?_) (a' := ?_) #[true, true, true, false, true, true, true, true, true, true, true, false, false, false, false, false, false, false, false, false] rfl rfl (any_of HT_.out (by kernel_rfl)) (fun _ _ _ h => h) (Or.inl ⟨by rfl, ?_⟩) ?_ ?_
                                        rotate_left
                                        · intro w'
                                          go_simp
                                          with_reducible rfl
                                        rotate_left
                                        · simp only [Act.put, List.setIfInBounds_toArray, List.set_cons_zero, List.set_cons_succ, i64_w, i32_w]
                                          rfl
                                        refine pure_ (i := 12) (N := some 96) (v := ?_) (a' := ?_) #[true, true, true, false, true, true, true, true, true, true, true, false, true, false, false, false, false, false, false, false] rfl rfl (any_of HT_.out (by kernel_rfl)) (fun _ _ _ h => h) (Or.inl ⟨by rfl, ?_⟩) ?_ ?_
                                        rotate_left
                                        · intro w'
                                          go_simp
                                          with_reducible rfl
                                        rotate_left
                                        · simp only [Act.put, List.setIfInBounds_toArray, List.set_cons_zero, List.set_cons_succ, i64_w, i32_w]
                                          rfl
                                        refine pure_ (i := 13) (N := some 97) (v := ?_) (a' := ?_) #[true, true, true, false, true, true, true, true, true, true, true, false, true, true, false, false, false, false, false, false] rfl rfl (any_of HT_.out (by kernel_rfl)) (fun _ _ _ h => h) (Or.inl ⟨by rfl, ?_⟩) ?_ ?_
                                        rotate_left
                                        · intro w'
                                          go_simp
                                          with_reducible rfl
                                        rotate_left
                                        · simp only [Act.put, List.setIfInBounds_toArray, List.set_cons_zero, List.set_cons_succ, i64_w, i32_w]
                                          rfl
                                        refine pure_ (i := 14) (N := some 98) (v := ?_) (a' := ?_) #[true, true, true, false, true, true, true, true, true, true, true, false, true, true, true, false, false, false, false, false] rfl rfl (any_of HT_.out (by kernel_rfl)) (fun _ _ _ h => h) (Or.inl ⟨by rfl, ?_⟩) ?_ ?_
                                        rotate_left
                                        · intro w'
                                          go_simp
                                          with_reducible rfl
                                        rotate_left
                                        · simp only [Act.put, List.setIfInBounds_toArray, List.set_cons_zero, List.set_cons_succ, i64_w, i32_w]
                                          rfl
                                        refine pure_ (i := 15) (N := some 99) (v := ?_) (a' := ?_) #[true, true, true, false, true, true, true, true, true, true, true, false, true, true, true, true, false, false, false, false] rfl rfl (any_of HT_.out (by kernel_rfl)) (fun _ _ _ h => h) (Or.inl ⟨by rfl, ?_⟩) ?_ ?_
                                        rotate_left
                                        · intro w'
                                          go_simp
                                          with_reducible rfl
                                        rotate_left
                                        · simp only [Act.put, List.setIfInBounds_toArray, List.set_cons_zero, List.set_cons_succ, i64_w, i32_w]
                                          rfl
                                        refine pure_ (i := 16) (N := some 100) (v := ?_) (a' := ?_) #[true, true, true, false, true, true, true, true, true, true, true, false, true, true, true, true, true, false, false, false] rfl rfl (any_of HT_.out (by kernel_rfl)) (fun _ _ _ h => h) (Or.inl ⟨by rfl, ?_⟩) ?_ ?_
                                        rotate_left
                                        · intro w'
                                          go_simp
                                          with_reducible rfl
                                        rotate_left
                                        · simp only [Act.put, List.setIfInBounds_toArray, List.set_cons_zero, List.set_cons_succ, i64_w, i32_w]
                                          rfl
                                        refine take_ (i := 3) (N := some 87) (v := ?_) (a' := ?_) #[true, true, true, true, true, true, true, true, true, true, true, false, true, true, true, true, true, false, false, false] rfl rfl (take_ofW HT_.out HW_.out (by kernel_rfl)) (fun _ _ _ h => h) (Or.inl ⟨by rfl, ?_⟩) hHeld ?_ ?_
                                        rotate_left
                                        · rintro w' ⟨s0, s1, s2⟩
                                          go_simp
                                          with_reducible rfl
                                        rotate_left
                                        · simp only [Act.put, List.setIfInBounds_toArray, List.set_cons_zero, List.set_cons_succ, i64_w, i32_w]
                                          rfl
                                        refine take_ (i := 11) (N := some 95) (v := ?_) (a' := ?_) #[true, true, true, true, true, true, true, true, true, true, true, true, true, true, true, true, true, false, false, false] rfl rfl (take_ofW HT_.out HW_.out (by kernel_rfl)) (fun _ _ _ h => h) (Or.inl ⟨by rfl, ?_⟩) hHeld ?_ ?_
                                        rotate_left
                                        · rintro w' ⟨s0, s1, s2⟩
                                          go_simp
                                          with_reducible rfl
                                        rotate_left
                                        · simp only [Act.put, List.setIfInBounds_toArray, List.set_cons_zero, List.set_cons_succ, i64_w, i32_w]
                                          rfl
                                        refine take_ (i := 17) (N := some 101) (v := ?_) (a' := ?_) #[true, true, true, true, true, true, true, true, true, true, true, true, true, true, true, true, true, true, false, false] rfl rfl (take_ofW HT_.out HW_.out (by kernel_rfl)) (fun _ _ _ h => h) (Or.inl ⟨by rfl, ?_⟩) hHeld ?_ ?_
                                        rotate_left
                                        · rintro w' ⟨s0, s1, s2⟩
                                          go_simp
                                          with_reducible rfl
                                        rotate_left
                                        · simp only [Act.put, List.setIfInBounds_toArray, List.set_cons_zero, List.set_cons_succ, i64_w, i32_w]
                                          rfl
                                        refine pure_ (i := 18) (N := some 102) (v := ?_) (a' := ?_) #[true, true, true, true, true, true, true, true, true, true, true, true, true, true, true, true, true, true, true, false] rfl rfl (any_of HT_.out (by kernel_rfl)) (fun _ _ _ h => h) (Or.inl ⟨by rfl, ?_⟩) ?_ ?_
                                        rotate_left
                                        · intro w'
                                          go_simp
                                          with_reducible rfl
                                        rotate_left
                                        · simp only [Act.put, List.setIfInBounds_toArray, List.set_cons_zero, List.set_cons_succ, i64_w, i32_w]
                                          rfl
                                        refine pure_ (i := 19) (N := some 103) (v := ?_) (a' := ?_) #[true, true, true, true, true, true, true, true, true, true, true, true, true, true, true, true, true, true, true, true] rfl rfl (any_of HT_.out (by kernel_rfl)) (fun _ _ _ h => h) (Or.inl ⟨by rfl, ?_⟩) ?_ ?_
                                        rotate_left
                                        · intro w'
                                          go_simp
                                          with_reducible rfl
                                        rotate_left
                                        · simp only [Act.put, List.setIfInBounds_toArray, List.set_cons_zero, List.set_cons_succ, i64_w, i32_w]
                                          rfl
                                        refine done_ (done_of HT_.out (by kernel_rfl)) ?_
                                        try go_wp2
                                        go_roundg k3
                                        case measure => have := HK1.out; have := HJ18.out; have := HK3.out; omega
                                        case rel => exact ⟨(wrap64 (x81_3 + 1)), (by first | rfl | (simp; done) | (simp [*]; done)), H', ⟨by have := HK1.out; have := HJ18.out; have := HK3.out; omega⟩, ⟨by (with_reducible repeat (first | apply Kd.R_alloc | apply Kd.R_drewN | apply Kd.R_drew)); exact HO_14.out⟩, ⟨by (with_reducible repeat (first | apply Kd.R_alloc | apply Kd.R_drewN | apply Kd.R_drew)); exact HO_15.out⟩, ⟨by (with_reducible repeat (first | apply Kd.R_alloc | apply Kd.R_drewN | apply Kd.R_drew)); exact HO_278000.out⟩, ⟨by (with_reducible repeat (first | apply Kd.R_alloc | apply Kd.R_drewN | apply Kd.R_drew)); exact HO_278001.out⟩, ⟨by (with_reducible repeat (first | refine blk_drewN ?_ _ | refine blk_drew ?_ | refine blk_alloc ?_ _)); exact BK277.out⟩, ⟨by repeat (first | (with_reducible first | exact HB.out | apply below_alloc | apply pw_below_drewN | apply below_drew1 | refine below_set ?_ GE277.out) | exact HB.out)⟩⟩
                                      · rw [if_neg c46] at H
                                        have c46b0 : ((rd t283 x81_3) == (wrap64 ((rd t280 (ji40)) - (rd t280 (ji43))))) = false := beq_eq_false_iff_ne.mpr c46
                                        have c46b1 : ((rd t283 x81_3) != (wrap64 ((rd t280 (ji40)) - (rd t280 (ji43))))) = true := bne_iff_ne.mpr c46
                                        exact absurd ((Option.some.inj H).trans hrt_.out) (by decide)
                                    · rw [if_neg c45] at H
                                      exact absurd H (by simp)
                                  · rw [if_neg c44] at H
                                    exact absurd H (by simp)
                                · rw [if_neg c42] at H
                                  exact absurd H (by simp)
                              · rw [if_neg c41] at H
                                exact absurd H (by simp)
                            · rw [if_neg c39] at H
                              exact absurd H (by simp)
                          · rw [if_neg c38] at H
                            exact absurd H (by simp)
                        · rw [if_neg c37] at H
                          have c37b0 : decide (x81_3 < (t283.length : Int)) = false := decide_eq_false c37
                          clear c37
                          obtain rfl := Option.some.inj H
                          go_wp2
                          go_ret
                          exact ⟨by first | rfl | (simp [errW_none, errW_some] <;> rfl) | (simp [*, errW_none, errW_some] <;> rfl), by repeat (first | (with_reducible first | exact HB.out | apply below_alloc | apply pw_below_drewN | apply below_drew1 | refine below_set ?_ GE277.out) | exact HB.out)⟩
  · replace c6 := Bool.eq_false_iff.mpr c6
    subst c6
    have H1 : (some false) = some r := by rw [if_neg (show ¬ (false = true) by decide)] at H; exact H
    clear H
    have H := H1
    clear H1
    exact absurd ((Option.some.inj H).trans hrt_.out) (by decide)

/-- THE ONE PURE STATEMENT of stanzalaw13_SpanJoins. -/
def stanzalaw13_SpanJoins.Pure : Prop := ∀ (l0 : List (S50)) (a1 : Int) (a2 : Int) (a3 : Int), (l0.length * 4 ≤ 140737488351232 ∧ ∀ y0 ∈ l0, ((Lit.int .u8 y0.f0).wf = true ∧ ((Lit.int .u8 y0.f1).wf = true ∧ ((Lit.int .u8 y0.f2).wf = true ∧ (Lit.int .u8 y0.f3).wf = true)))) → (Lit.int .i64 a1).wf = true → (Lit.int .i64 a2).wf = true → (Lit.int .i64 a3).wf = true → ∃ k, stanzalaw13_SpanJoins.f k l0 a1 a2 a3 = some true

end Go.Proofs.Ytbnoeeflpegcoaa.F
