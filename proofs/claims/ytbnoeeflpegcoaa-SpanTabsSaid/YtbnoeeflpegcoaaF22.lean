/- Printed by a program of this session (wip/fork): Lean functions that answer as the Go functions do, and the proofs that the Go code comes to them; no condition but those that each statement tells. -/
import Derived.Test.YtbnoeeflpegcoaaF0
import Derived.Test.YtbnoeeflpegcoaaF9
import Derived.Test.YtbnoeeflpegcoaaF11
import Derived.Test.YtbnoeeflpegcoaaF16
namespace Go.Proofs.Ytbnoeeflpegcoaa.F
open Go.RowKit Go.Proofs.YtbnoeeflpegcoaaW.PrintWords Go.Proofs.YtbnoeeflpegcoaaW.PrintLast Go.Proofs.YtbnoeeflpegcoaaW.PrintMore
attribute [local go_sem] max2_int min2_int max_two min_two max_three min_three max_four min_four   -- for this text's walks alone
set_option linter.unusedVariables false
set_option linter.unusedSimpArgs false

/-! ### stanzalaw13_SpanTabs: function 9 -/
mutual
def stanzalaw13_SpanTabs.l0 : Nat → Int → Int → List (S50) → List Int → Int → Int → Option (Bool)
  | 0, _, _, _, _, _, _ => none
  | k + 1, x2, x7, x8, x26, x27, x28 => if x28 < x27 then (if 0 ≤ x28 then (if x28 < (x26.length : Int) then (if (Int.tmod (wrap64 (x28 + (wrap64 (x2)))) 3) = 0 then (stanzalaw13_SpanTabs.j1 k x2 x7 x8 x26 x27 x28 (rd x26 x28) 2 0 0) else (stanzalaw13_SpanTabs.j1 k x2 x7 x8 x26 x27 x28 (rd x26 x28) 0 0 0)) else (none)) else (none)) else ((stanzahand03_Para.f k x8).bind fun bt295 => ((span_Columns.f k bt295.1 bt295.2 0 (bt295.1.length : Int) x7).bind fun t302 => (if (t302.length : Int) = (wrap64 ((bt295.1.length : Int) + 1)) then (stanzalaw13_SpanTabs.l1 k x7 t302 bt295.1 (bt295.1.length : Int) 0) else (some false))))
def stanzalaw13_SpanTabs.j1 : Nat → Int → Int → List (S50) → List Int → Int → Int → Int → Int → Int → Int → Option (Bool)
  | 0, _, _, _, _, _, _, _, _, _, _ => none
  | k + 1, x2, x7, x8, x26, x27, x28, x292000, x292001, x292002, x292003 => if x8.length < 35184372088832 then (stanzalaw13_SpanTabs.l0 k x2 x7 (x8 ++ [(⟨x292000, x292001, x292002, x292003⟩ : S50)]) x26 x27 (wrap64 (x28 + 1))) else (none)
def stanzalaw13_SpanTabs.l1 : Nat → Int → List Int → List (S41) → Int → Int → Option (Bool)
  | 0, _, _, _, _, _ => none
  | k + 1, x7, x13, x63, x64, x65 => if x65 < x64 then (if 0 ≤ x65 then (if x65 < (x63.length : Int) then (if 0 ≤ (wrap64 (x65 + 1)) then (if (wrap64 (x65 + 1)) < (x13.length : Int) then (if x65 < (x13.length : Int) then (if ((rd_T41 x63 x65).f3) = 2 then (if x7 = 0 then (none) else (if (Int.tmod (rd x13 (wrap64 (x65 + 1))) x7) = 0 then (if (wrap64 ((rd x13 (wrap64 (x65 + 1))) - (rd x13 x65))) < 1 then (stanzalaw13_SpanTabs.j3 k x7 x13 x63 x64 x65 true) else (if (wrap64 ((rd x13 (wrap64 (x65 + 1))) - (rd x13 x65))) > x7 then (stanzalaw13_SpanTabs.j3 k x7 x13 x63 x64 x65 true) else (if ((rd_T41 x63 x65).f3) = 0 then (stanzalaw13_SpanTabs.j3 k x7 x13 x63 x64 x65 ((wrap64 ((rd x13 (wrap64 (x65 + 1))) - (rd x13 x65))) != ((rd_T41 x63 x65).f2))) else (stanzalaw13_SpanTabs.j3 k x7 x13 x63 x64 x65 false)))) else (stanzalaw13_SpanTabs.j3 k x7 x13 x63 x64 x65 true))) else (if ((rd_T41 x63 x65).f3) = 0 then (stanzalaw13_SpanTabs.j3 k x7 x13 x63 x64 x65 ((wrap64 ((rd x13 (wrap64 (x65 + 1))) - (rd x13 x65))) != ((rd_T41 x63 x65).f2))) else (stanzalaw13_SpanTabs.j3 k x7 x13 x63 x64 x65 false))) else (none)) else (none)) else (none)) else (none)) else (none)) else (some true)
def stanzalaw13_SpanTabs.j3 : Nat → Int → List Int → List (S41) → Int → Int → Bool → Option (Bool)
  | 0, _, _, _, _, _, _ => none
  | k + 1, x7, x13, x63, x64, x65, x112 => if x112 = true then (some false) else (stanzalaw13_SpanTabs.l1 k x7 x13 x63 x64 (wrap64 (x65 + 1)))
end
def stanzalaw13_SpanTabs.f (k : Nat) (l0 : List Int) (a1 : Int) (a2 : Int) : Option (Bool) := (stanzalaw13_Awake.f k).bind fun t289 => (if t289 = true then (if (l0.length : Int) > 300 then (some true) else (stanzalaw13_SpanTabs.l0 k a2 (wrap64 (1 + (wrap64 (Int.tmod a1 64)))) ([] : List (S50)) l0 (l0.length : Int) 0)) else (some false))
theorem stanzalaw13_SpanTabs.mono_l : ∀ k, (∀ y0 y1 y2 y3 y4 y5, LeO (stanzalaw13_SpanTabs.l0 k y0 y1 y2 y3 y4 y5) (stanzalaw13_SpanTabs.l0 (k + 1) y0 y1 y2 y3 y4 y5)) ∧ (∀ y0 y1 y2 y3 y4 y5 y6 y7 y8 y9, LeO (stanzalaw13_SpanTabs.j1 k y0 y1 y2 y3 y4 y5 y6 y7 y8 y9) (stanzalaw13_SpanTabs.j1 (k + 1) y0 y1 y2 y3 y4 y5 y6 y7 y8 y9)) ∧ (∀ y0 y1 y2 y3 y4, LeO (stanzalaw13_SpanTabs.l1 k y0 y1 y2 y3 y4) (stanzalaw13_SpanTabs.l1 (k + 1) y0 y1 y2 y3 y4)) ∧ (∀ y0 y1 y2 y3 y4 y5, LeO (stanzalaw13_SpanTabs.j3 k y0 y1 y2 y3 y4 y5) (stanzalaw13_SpanTabs.j3 (k + 1) y0 y1 y2 y3 y4 y5))
  | 0 => ⟨fun _ _ _ _ _ _ r h => by simp [stanzalaw13_SpanTabs.l0] at h, fun _ _ _ _ _ _ _ _ _ _ r h => by simp [stanzalaw13_SpanTabs.j1] at h, fun _ _ _ _ _ r h => by simp [stanzalaw13_SpanTabs.l1] at h, fun _ _ _ _ _ _ r h => by simp [stanzalaw13_SpanTabs.j3] at h⟩
  | k + 1 => by
    obtain ⟨ih0, ih1, ih2, ih3⟩ := stanzalaw13_SpanTabs.mono_l k
    refine ⟨?_, ?_, ?_, ?_⟩
    · intro y0 y1 y2 y3 y4 y5
      unfold stanzalaw13_SpanTabs.l0
      repeat' first
      | (with_reducible exact ih0 _ _ _ _ _ _)
      | (with_reducible exact ih1 _ _ _ _ _ _ _ _ _ _)
      | (with_reducible exact ih2 _ _ _ _ _)
      | (with_reducible exact ih3 _ _ _ _ _ _)
      | (with_reducible exact span_Columns.mono _ _ _ _ _ _)
      | (with_reducible exact stanzahand03_Para.mono _ _)
      | (with_reducible exact stanzalaw13_Awake.mono _)
      | (with_reducible exact LeO.refl _)
      | (with_reducible exact LeO.none _)
      | (with_reducible refine LeO.ite ?_ ?_)
      | (with_reducible refine LeO.bind ?_ (fun _ => ?_))
      | exact ih0 _ _ _ _ _ _
      | exact ih1 _ _ _ _ _ _ _ _ _ _
      | exact ih2 _ _ _ _ _
      | exact ih3 _ _ _ _ _ _
      | exact span_Columns.mono _ _ _ _ _ _
      | exact stanzahand03_Para.mono _ _
      | exact stanzalaw13_Awake.mono _
      | exact LeO.none _
      | refine LeO.ite ?_ ?_
      | refine LeO.bind ?_ (fun _ => ?_)
    · intro y0 y1 y2 y3 y4 y5 y6 y7 y8 y9
      unfold stanzalaw13_SpanTabs.j1
      repeat' first
      | (with_reducible exact ih0 _ _ _ _ _ _)
      | (with_reducible exact ih1 _ _ _ _ _ _ _ _ _ _)
      | (with_reducible exact ih2 _ _ _ _ _)
      | (with_reducible exact ih3 _ _ _ _ _ _)
      | (with_reducible exact span_Columns.mono _ _ _ _ _ _)
      | (with_reducible exact stanzahand03_Para.mono _ _)
      | (with_reducible exact stanzalaw13_Awake.mono _)
      | (with_reducible exact LeO.refl _)
      | (with_reducible exact LeO.none _)
      | (with_reducible refine LeO.ite ?_ ?_)
      | (with_reducible refine LeO.bind ?_ (fun _ => ?_))
      | exact ih0 _ _ _ _ _ _
      | exact ih1 _ _ _ _ _ _ _ _ _ _
      | exact ih2 _ _ _ _ _
      | exact ih3 _ _ _ _ _ _
      | exact span_Columns.mono _ _ _ _ _ _
      | exact stanzahand03_Para.mono _ _
      | exact stanzalaw13_Awake.mono _
      | exact LeO.none _
      | refine LeO.ite ?_ ?_
      | refine LeO.bind ?_ (fun _ => ?_)
    · intro y0 y1 y2 y3 y4
      unfold stanzalaw13_SpanTabs.l1
      repeat' first
      | (with_reducible exact ih0 _ _ _ _ _ _)
      | (with_reducible exact ih1 _ _ _ _ _ _ _ _ _ _)
      | (with_reducible exact ih2 _ _ _ _ _)
      | (with_reducible exact ih3 _ _ _ _ _ _)
      | (with_reducible exact span_Columns.mono _ _ _ _ _ _)
      | (with_reducible exact stanzahand03_Para.mono _ _)
      | (with_reducible exact stanzalaw13_Awake.mono _)
      | (with_reducible exact LeO.refl _)
      | (with_reducible exact LeO.none _)
      | (with_reducible refine LeO.ite ?_ ?_)
      | (with_reducible refine LeO.bind ?_ (fun _ => ?_))
      | exact ih0 _ _ _ _ _ _
      | exact ih1 _ _ _ _ _ _ _ _ _ _
      | exact ih2 _ _ _ _ _
      | exact ih3 _ _ _ _ _ _
      | exact span_Columns.mono _ _ _ _ _ _
      | exact stanzahand03_Para.mono _ _
      | exact stanzalaw13_Awake.mono _
      | exact LeO.none _
      | refine LeO.ite ?_ ?_
      | refine LeO.bind ?_ (fun _ => ?_)
    · intro y0 y1 y2 y3 y4 y5
      unfold stanzalaw13_SpanTabs.j3
      repeat' first
      | (with_reducible exact ih0 _ _ _ _ _ _)
      | (with_reducible exact ih1 _ _ _ _ _ _ _ _ _ _)
      | (with_reducible exact ih2 _ _ _ _ _)
      | (with_reducible exact ih3 _ _ _ _ _ _)
      | (with_reducible exact span_Columns.mono _ _ _ _ _ _)
      | (with_reducible exact stanzahand03_Para.mono _ _)
      | (with_reducible exact stanzalaw13_Awake.mono _)
      | (with_reducible exact LeO.refl _)
      | (with_reducible exact LeO.none _)
      | (with_reducible refine LeO.ite ?_ ?_)
      | (with_reducible refine LeO.bind ?_ (fun _ => ?_))
      | exact ih0 _ _ _ _ _ _
      | exact ih1 _ _ _ _ _ _ _ _ _ _
      | exact ih2 _ _ _ _ _
      | exact ih3 _ _ _ _ _ _
      | exact span_Columns.mono _ _ _ _ _ _
      | exact stanzahand03_Para.mono _ _
      | exact stanzalaw13_Awake.mono _
      | exact LeO.none _
      | refine LeO.ite ?_ ?_
      | refine LeO.bind ?_ (fun _ => ?_)
theorem stanzalaw13_SpanTabs.mono : ∀ a0 a1 a2 k, LeO (stanzalaw13_SpanTabs.f k a0 a1 a2) (stanzalaw13_SpanTabs.f (k + 1) a0 a1 a2) := by
  intro a0 a1 a2 k
  obtain ⟨ih0, ih1, ih2, ih3⟩ := stanzalaw13_SpanTabs.mono_l k
  unfold stanzalaw13_SpanTabs.f
  repeat' first
      | (with_reducible exact ih0 _ _ _ _ _ _)
      | (with_reducible exact ih1 _ _ _ _ _ _ _ _ _ _)
      | (with_reducible exact ih2 _ _ _ _ _)
      | (with_reducible exact ih3 _ _ _ _ _ _)
      | (with_reducible exact span_Columns.mono _ _ _ _ _ _)
      | (with_reducible exact stanzahand03_Para.mono _ _)
      | (with_reducible exact stanzalaw13_Awake.mono _)
      | (with_reducible exact LeO.refl _)
      | (with_reducible exact LeO.none _)
      | (with_reducible refine LeO.ite ?_ ?_)
      | (with_reducible refine LeO.bind ?_ (fun _ => ?_))
      | exact ih0 _ _ _ _ _ _
      | exact ih1 _ _ _ _ _ _ _ _ _ _
      | exact ih2 _ _ _ _ _
      | exact ih3 _ _ _ _ _ _
      | exact span_Columns.mono _ _ _ _ _ _
      | exact stanzahand03_Para.mono _ _
      | exact stanzalaw13_Awake.mono _
      | exact LeO.none _
      | refine LeO.ite ?_ ?_
      | refine LeO.bind ?_ (fun _ => ?_)
def stanzalaw13_SpanTabs.T22 : Bool × List (List Nat × List Nat) := (true, [([], []), ([], []), ([1], [1]), ([0, 2], [0, 2]), ([3], [3]), ([], []), ([], []), ([5, 6], [5, 6]), ([7], [7]), ([4, 8], [4, 8]), ([9, 0, 1, 2, 3, 4, 5, 6, 7, 8, 9], [9])])
def stanzalaw13_SpanTabs.B22 : List Nat := [0, 0, 2, 7, 15, 0, 0, 96, 224, 511, 1023]
theorem stanzalaw13_SpanTabs.tab22 : rtab .any (opsOf Try.f9 22) = stanzalaw13_SpanTabs.T22 := by kernel_rfl
theorem stanzalaw13_SpanTabs.bits22 : waitsOk stanzalaw13_SpanTabs.T22.2 stanzalaw13_SpanTabs.B22 = true := by kernel_rfl
set_option maxHeartbeats 8000000 in
set_option maxRecDepth 100000 in
theorem stanzalaw13_SpanTabs.calls (k : Nat) (A0 : Option Addr) (c0 : Nat) (l0 : List Int) (a1 : Int) (a2 : Int) (r : Bool) (w : World) (hr0 : Kd.C (Kd.int .u8) w A0 l0.length l0) (hc0 : l0.length ≤ c0) (h : stanzalaw13_SpanTabs.f k l0 a1 a2 = some r) (hrt_ : Aside0 (r = true)) :
    Calls Try.prog 9 #[.slice A0 l0.length c0, .int .u8 a1, .int .u8 a2] w fun e w' => e = .returned (.bool r) ∧ Below w.heap.size w w' := by
  have hu50 := Try.underlying50
  have hu35 := Try.underlying35
  have hu41 := Try.underlying41
  have HR0 := Aside0.mk hr0
  have HC0 := Aside0.mk hc0
  clear hr0 hc0
  have HB := Aside0.mk (Below.refl w.heap.size w)
  have H : ((stanzalaw13_Awake.f k).bind fun t289 => (if t289 = true then (if (l0.length : Int) > 300 then (some true) else (stanzalaw13_SpanTabs.l0 k a2 (wrap64 (1 + (wrap64 (Int.tmod a1 64)))) ([] : List (S50)) l0 (l0.length : Int) 0)) else (some false))) = some r := h
  clear h
  replace H := Option.bind_eq_some_iff.mp H
  obtain ⟨t289, A40, H⟩ := H
  replace H : (if t289 = true then (if (l0.length : Int) > 300 then (some true) else (stanzalaw13_SpanTabs.l0 k a2 (wrap64 (1 + (wrap64 (Int.tmod a1 64)))) ([] : List (S50)) l0 (l0.length : Int) 0)) else (some false)) = some r := H
  have A4 := Aside0.mk A40
  clear A40
  by_cases c5 : t289 = true
  · subst c5
    have H1 : (if (l0.length : Int) > 300 then (some true) else (stanzalaw13_SpanTabs.l0 k a2 (wrap64 (1 + (wrap64 (Int.tmod a1 64)))) ([] : List (S50)) l0 (l0.length : Int) 0)) = some r := by rw [if_pos rfl] at H; exact H
    clear H
    have H := H1
    clear H1
    by_cases c6 : (l0.length : Int) > 300
    · rw [if_pos c6] at H
      have c6b0 : decide (300 < (l0.length : Int)) = true := decide_eq_true c6
      have c6b1 : decide (300 < l0.length) = true := decide_eq_true (by omega)
      clear c6
      obtain rfl := Option.some.inj H
      go_enter Try.func9, Try.ntmps9
      go_wp2_with (first | ((with_reducible refine gate_callee (f := 18) rfl ?_); refine goesL_ (some 17) rfl rfl Try.func18 (by kernel_rfl) rfl #[] rfl (by (try simp only [List.map_toArray, List.map_cons, List.map_nil]); first | done | rfl | (simp only [List.length_drop, List.length_take]; rfl)) ?_; (with_reducible refine (stanzalaw13_Awake.calls k  true _ A4.out (by first | exact ⟨rfl⟩ | exact hrt_)).mono ?_); rintro e w7 ⟨rfl, hb⟩; refine ⟨_, rfl, ?_⟩; have n0_ := Aside0.mk (below_step (by repeat (first | (with_reducible first | exact HB.out | apply below_alloc | apply pw_below_drewN | apply below_drew1) | exact HB.out)) hb); clear HB; have HB := n0_; clear n0_; (try clear hb); (try clear hb2); (try clear hk); (try clear hi)))
      go_ret
      exact ⟨by first | rfl | (simp [errW_none, errW_some] <;> rfl) | (simp [*, errW_none, errW_some] <;> rfl), by repeat (first | (with_reducible first | exact HB.out | apply below_alloc | apply pw_below_drewN | apply below_drew1) | exact HB.out)⟩
    · rw [if_neg c6] at H
      have c6b0 : decide (300 < (l0.length : Int)) = false := decide_eq_false c6
      have c6b1 : decide (300 < l0.length) = false := decide_eq_false (by omega)
      clear c6
      have H' := Aside0.mk H
      clear H
      go_enter Try.func9, Try.ntmps9
      go_wp2_with (first | ((with_reducible refine gate_callee (f := 18) rfl ?_); refine goesL_ (some 17) rfl rfl Try.func18 (by kernel_rfl) rfl #[] rfl (by (try simp only [List.map_toArray, List.map_cons, List.map_nil]); first | done | rfl | (simp only [List.length_drop, List.length_take]; rfl)) ?_; (with_reducible refine (stanzalaw13_Awake.calls k  true _ A4.out (by first | exact ⟨rfl⟩ | exact hrt_)).mono ?_); rintro e w8 ⟨rfl, hb⟩; refine ⟨_, rfl, ?_⟩; have n0_ := Aside0.mk (below_step (by repeat (first | (with_reducible first | exact HB.out | apply below_alloc | apply pw_below_drewN | apply below_drew1) | exact HB.out)) hb); clear HB; have HB := n0_; clear n0_; (try clear hb); (try clear hb2); (try clear hk); (try clear hi)))
      go_loopg [8, 28] k (fun kq v8 v28 w' => ∃ (x8_1 : List (S50)) (x28_1 : Int), v28 = .int .i64 x28_1 ∧ Aside0 (stanzalaw13_SpanTabs.l0 kq a2 (wrap64 (1 + (wrap64 (Int.tmod a1 64)))) x8_1 l0 (l0.length : Int) x28_1 = some r) ∧ Aside0 (kq ≤ k) ∧ Aside0 (Kd.R k50 50 w' w.heap.size (fun _ => True) v8 x8_1) ∧ Aside0 (Below w.heap.size w w'))
      case atStart => exact ⟨(([] : List (S50))), (0), (by first | rfl | (simp; done) | (simp [*]; done)), H', ⟨Nat.le_refl _⟩, ⟨by first | exact Kd.R_nil _ _ _ _ _ | exact Kd.N_nil _ _ _ _ _ | exact Kd.V_nil _ _ _ _ _ | exact Kd.Q_nil _ _ _ _ _ | exact Kd.S_nil _ _ _ _ _⟩, ⟨by repeat (first | (with_reducible first | exact HB.out | apply below_alloc | apply pw_below_drewN | apply below_drew1) | exact HB.out)⟩⟩
      case round =>
        clear H'
        try clear c1
        try clear p2
        try clear c5
        try clear c6
        try clear c6b0
        try clear c6b1
        try clear p6
        obtain ⟨x8_1, x28_1, rfl, HA, HK1, HO_8, HB⟩ := hrel
        cases gk with
        | zero => exact absurd HA.out (by simp [stanzalaw13_SpanTabs.l0])
        | succ k1 =>
          have H := HA.out
          clear HA
          simp only [stanzalaw13_SpanTabs.l0] at H
          by_cases c9 : x28_1 < (l0.length : Int)
          · rw [if_pos c9] at H
            have c9b0 : decide (x28_1 < (l0.length : Int)) = true := decide_eq_true c9
            clear c9
            by_cases c10 : 0 ≤ x28_1
            · rw [if_pos c10] at H
              have c10b0 : decide (0 ≤ x28_1) = true := decide_eq_true c10
              clear c10
              by_cases c11 : x28_1 < (l0.length : Int)
              · rw [if_pos c11] at H
                have c11b0 : decide (x28_1 < (l0.length : Int)) = true := decide_eq_true c11
                clear c11
                have HC12 := Aside0.mk H
                clear H
                have p290 : 0 ≤ (x28_1 : Int) := of_decide_eq_true (by first | (with_reducible assumption) | assumption)
                have q290 : x28_1 < (l0.length : Int) := of_decide_eq_true (by first | (with_reducible assumption) | assumption)
                obtain ⟨ad290, e290, hx290_0⟩ := Kd.at_int HR0.out x28_1 p290 q290
                cases e290
                replace hx290_0 := (HB.out.cell (World.block_lt_of_cell? w _ hx290_0)).trans hx290_0
                replace p290 := eq_true p290
                replace q290 := eq_true q290
                go_upto_if 40 with (first | ((with_reducible refine gate_dst (N := 11) rfl ?_); refine box_event ?hg (N := 11) ?hd (cs := #[.int .u8 0, .int .u8 0, .int .u8 0, .int .u8 0]) (t := 50) ?hr ?_; (case hd => rfl); (case hg => rfl); (case hr => first | (go_simp; done) | (go_simp; rfl)); intro gb291 hg w13 hbox hb; have n0_ := Aside0.mk (Kd.R_below (Kd.R_elderB (by (with_reducible repeat (first | apply Kd.R_alloc | apply Kd.R_drewN | apply Kd.R_drew)); exact HO_8.out) gb291 (Nat.le_of_eq hg.symm)) hb); have n1_ := Aside0.mk (below_step (by repeat (first | (with_reducible first | exact HB.out | apply below_alloc | apply pw_below_drewN | apply below_drew1) | exact HB.out)) hb); have n2_ := Aside0.mk (hbox); have n3_ := Aside0.mk ((by rw [hg]; exact (below_size (by repeat (first | (with_reducible first | exact HB.out | apply below_alloc | apply pw_below_drewN | apply below_drew1) | exact HB.out))) : w.heap.size ≤ gb291)); have n4_ := Aside0.mk ((by rw [hg]; exact (below_size (by repeat (first | (with_reducible first | exact HB.out | apply below_alloc | apply pw_below_drewN | apply below_drew1) | exact HB.out))) : w.heap.size ≤ gb291)); clear HO_8; clear HB; have HO_8 := n0_; have HB := n1_; have BK291 := n2_; have GW291 := n3_; have GE291 := n4_; clear n0_ n1_ n2_ n3_ n4_; clear hb hbox hg; have hcz14_0 : w13.cell? ⟨gb291, 0, none⟩ = some (.int .u8 0) := (blk_cell BK291.out 0).trans rfl; have hcz14_1 : w13.cell? ⟨gb291, 1, none⟩ = some (.int .u8 0) := (blk_cell BK291.out 1).trans rfl; have hcz14_2 : w13.cell? ⟨gb291, 2, none⟩ = some (.int .u8 0) := (blk_cell BK291.out 2).trans rfl; have hcz14_3 : w13.cell? ⟨gb291, 3, none⟩ = some (.int .u8 0) := (blk_cell BK291.out 3).trans rfl; have hfz14_0 := blk_frozen BK291.out 0; have hfz14_1 := blk_frozen BK291.out 1; have hfz14_2 := blk_frozen BK291.out 2; have hfz14_3 := blk_frozen BK291.out 3) | ((with_reducible refine gate_store (t := 50) (p := 11) rfl ?_); refine store_event (t := 50) (p := 11) (v := ?vo_w15) (w1 := ((((w13.setCell ⟨gb291, 0, none⟩ (.int .u8 (rd l0 x28_1))).setCell ⟨gb291, 1, none⟩ (.int .u8 0)).setCell ⟨gb291, 2, none⟩ (.int .u8 0)).setCell ⟨gb291, 3, none⟩ (.int .u8 0))) ?hg ?ho ?hn ?hr ?_; (case ho => rfl); (case hg => rfl); (case hn => rfl); (case hr => first | (go_simp; done) | (go_simp; rfl)); intro w15 hw; have n0_ : Aside0 (Kd.R k50 50 w15 w.heap.size (fun k_ => k_ ≠ gb291) u8 x8_1) := ⟨(by rw [hw]; exact (by (with_reducible repeat (first | apply Kd.R_alloc | apply Kd.R_drewN | apply Kd.R_drew)); exact Kd.R_mono (Kd.R_far (p := ⟨gb291, 3, none⟩) (Kd.R_far (p := ⟨gb291, 2, none⟩) (Kd.R_far (p := ⟨gb291, 1, none⟩) (Kd.R_far (p := ⟨gb291, 0, none⟩) (Kd.R_mono HO_8.out (fun k_ hk => (⟨hk, hk.2⟩ : _ ∧ k_ ≠ gb291))) (fun _ hk => hk.2) (.int .u8 (rd l0 x28_1))) (fun _ hk => hk.2) (.int .u8 0)) (fun _ hk => hk.2) (.int .u8 0)) (fun _ hk => hk.2) (.int .u8 0)) (fun _ hk => hk.1.2)))⟩; have n1_ : Aside0 (w15.heap[gb291]? = some (.cells #[.int .u8 (rd l0 x28_1), .int .u8 0, .int .u8 0, .int .u8 0] 50 (0, 0))) := ⟨(by rw [hw]; exact (by (with_reducible repeat (first | refine blk_drewN ?_ _ | refine blk_drew ?_ | refine blk_alloc ?_ _)); refine blk_put (cs := #[.int .u8 (rd l0 x28_1), .int .u8 0, .int .u8 0, .int .u8 0]) ?_ 3 _ rfl; (with_reducible repeat (first | refine blk_drewN ?_ _ | refine blk_drew ?_ | refine blk_alloc ?_ _)); refine blk_put (cs := #[.int .u8 (rd l0 x28_1), .int .u8 0, .int .u8 0, .int .u8 0]) ?_ 2 _ rfl; (with_reducible repeat (first | refine blk_drewN ?_ _ | refine blk_drew ?_ | refine blk_alloc ?_ _)); refine blk_put (cs := #[.int .u8 (rd l0 x28_1), .int .u8 0, .int .u8 0, .int .u8 0]) ?_ 1 _ rfl; (with_reducible repeat (first | refine blk_drewN ?_ _ | refine blk_drew ?_ | refine blk_alloc ?_ _)); refine blk_put (cs := #[.int .u8 0, .int .u8 0, .int .u8 0, .int .u8 0]) ?_ 0 _ rfl; (with_reducible repeat (first | refine blk_drewN ?_ _ | refine blk_drew ?_ | refine blk_alloc ?_ _)); exact BK291.out))⟩; have n2_ : Aside0 (Below w.heap.size w w15) := ⟨(by rw [hw]; exact (by repeat (first | (with_reducible first | exact HB.out | apply below_alloc | apply pw_below_drewN | apply below_drew1 | refine below_set ?_ GE291.out) | exact HB.out)))⟩; clear hw; clear HO_8; clear BK291; clear HB; have HO_8 := n0_; have BK291 := n1_; have HB := n2_; clear n0_ n1_ n2_))
                (try simp only [Act.put, List.setIfInBounds_toArray, List.set_cons_zero, List.set_cons_succ])
                go_cut [] (fun wc => ∃ (kq : Nat) (x292001_11 : Int), Aside0 (stanzalaw13_SpanTabs.j1 kq a2 (wrap64 (1 + (wrap64 (Int.tmod a1 64)))) x8_1 l0 (l0.length : Int) x28_1 (rd l0 x28_1) x292001_11 0 0 = some r) ∧ Aside0 (kq ≤ k1) ∧ Aside0 (Kd.R k50 50 wc w.heap.size (fun k_ => k_ ≠ gb291) u8 x8_1) ∧ Aside0 (wc.heap[gb291]? = some (.cells #[.int .u8 (rd l0 x28_1), .int .u8 x292001_11, .int .u8 0, .int .u8 0] 50 (0, 0))) ∧ Aside0 (Below w.heap.size w wc))
                case first =>
                  have H := HC12.out
                  clear HC12
                  by_cases c16 : (Int.tmod (wrap64 (x28_1 + (wrap64 (a2)))) 3) = 0
                  · rw [if_pos c16] at H
                    have c16b0 : ((Int.tmod (wrap64 (x28_1 + (wrap64 (a2)))) 3) == 0) = true := beq_iff_eq.mpr c16
                    have c16b1 : ((Int.tmod (wrap64 (x28_1 + (wrap64 (a2)))) 3) != 0) = false := bne_eq_false_iff_eq.mpr c16
                    clear c16
                    (first | rw [c16b0] | (simp only [i64_w, i32_w]; rw [c16b0]) | skip)
                    have H' := Aside0.mk H
                    clear H
                    have hcz17_0 : w15.cell? ⟨gb291, 0, none⟩ = some (.int .u8 (rd l0 x28_1)) := (blk_cell BK291.out 0).trans rfl
                    have hcz17_1 : w15.cell? ⟨gb291, 1, none⟩ = some (.int .u8 0) := (blk_cell BK291.out 1).trans rfl
                    have hcz17_2 : w15.cell? ⟨gb291, 2, none⟩ = some (.int .u8 0) := (blk_cell BK291.out 2).trans rfl
                    have hcz17_3 : w15.cell? ⟨gb291, 3, none⟩ = some (.int .u8 0) := (blk_cell BK291.out 3).trans rfl
                    have hfz17_0 := blk_frozen BK291.out 0
                    have hfz17_1 := blk_frozen BK291.out 1
                    have hfz17_2 := blk_frozen BK291.out 2
                    have hfz17_3 := blk_frozen BK291.out 3
                    go_wp2
                    go_meet
                    case rel => exact ⟨_, (2), H', ⟨by have := HK1.out; first | omega | exact Nat.le_refl _⟩, ⟨by (with_reducible repeat (first | apply Kd.R_alloc | apply Kd.R_drewN | apply Kd.R_drew)); exact Kd.R_mono (Kd.R_far (p := ⟨gb291, 1, none⟩) (Kd.R_mono HO_8.out (fun k_ hk => (⟨hk, hk⟩ : _ ∧ k_ ≠ gb291))) (fun _ hk => hk.2) (.int .u8 2)) (fun _ hk => hk.1)⟩, ⟨by (with_reducible repeat (first | refine blk_drewN ?_ _ | refine blk_drew ?_ | refine blk_alloc ?_ _)); refine blk_put (cs := #[.int .u8 (rd l0 x28_1), .int .u8 0, .int .u8 0, .int .u8 0]) ?_ 1 _ rfl; (with_reducible repeat (first | refine blk_drewN ?_ _ | refine blk_drew ?_ | refine blk_alloc ?_ _)); exact BK291.out⟩, ⟨by repeat (first | (with_reducible first | exact HB.out | apply below_alloc | apply pw_below_drewN | apply below_drew1 | refine below_set ?_ GE291.out) | exact HB.out)⟩⟩
                  · rw [if_neg c16] at H
                    have c16b0 : ((Int.tmod (wrap64 (x28_1 + (wrap64 (a2)))) 3) == 0) = false := beq_eq_false_iff_ne.mpr c16
                    have c16b1 : ((Int.tmod (wrap64 (x28_1 + (wrap64 (a2)))) 3) != 0) = true := bne_iff_ne.mpr c16
                    (first | rw [c16b0] | (simp only [i64_w, i32_w]; rw [c16b0]) | skip)
                    have H' := Aside0.mk H
                    clear H
                    go_wp2
                    go_meet
                    case rel => exact ⟨_, (0), H', ⟨by have := HK1.out; first | omega | exact Nat.le_refl _⟩, ⟨by (with_reducible repeat (first | apply Kd.R_alloc | apply Kd.R_drewN | apply Kd.R_drew)); exact HO_8.out⟩, ⟨by (with_reducible repeat (first | refine blk_drewN ?_ _ | refine blk_drew ?_ | refine blk_alloc ?_ _)); exact BK291.out⟩, ⟨by repeat (first | (with_reducible first | exact HB.out | apply below_alloc | apply pw_below_drewN | apply below_drew1 | refine below_set ?_ GE291.out) | exact HB.out)⟩⟩
                case rest =>
                  clear HC12
                  try clear c1
                  try clear p2
                  try clear q2
                  try clear hx2
                  try clear c5
                  try clear c6
                  try clear c6b0
                  try clear c6b1
                  try clear p6
                  try clear c9
                  try clear c9b0
                  try clear c10
                  try clear c10b0
                  try clear c11
                  try clear c11b0
                  try clear c16
                  try clear c16b0
                  try clear c16b1
                  try clear hcz14_0
                  try clear hcz14_1
                  try clear hcz14_2
                  try clear hcz14_3
                  try clear hcz17_0
                  try clear hcz17_1
                  try clear hcz17_2
                  try clear hcz17_3
                  try clear hfz14_0
                  try clear hfz14_1
                  try clear hfz14_2
                  try clear hfz14_3
                  try clear hfz17_0
                  try clear hfz17_1
                  try clear hfz17_2
                  try clear hfz17_3
                  try clear hx290_0
                  try clear p2
                  try clear p290
                  try clear p6
                  try clear q290
                  obtain ⟨kq, x292001_11, HA, HJ11, HO_8, BK291, HB⟩ := hcut
                  cases kq with
                  | zero => exact absurd HA.out (by simp [stanzalaw13_SpanTabs.j1])
                  | succ kj11 =>
                    have H := HA.out
                    clear HA
                    simp only [stanzalaw13_SpanTabs.j1] at H
                    by_cases c18 : x8_1.length < 35184372088832
                    · rw [if_pos c18] at H
                      have LMc18 := Aside0.mk c18
                      clear c18
                      obtain ⟨y292, hy292⟩ : ∃ y_ : List (S50), y_ = (x8_1 ++ [(⟨(rd l0 x28_1), x292001_11, 0, 0⟩ : S50)]) := ⟨_, rfl⟩
                      replace H : (stanzalaw13_SpanTabs.l0 kj11 a2 (wrap64 (1 + (wrap64 (Int.tmod a1 64)))) y292 l0 (l0.length : Int) (wrap64 (x28_1 + 1))) = some r := by first | (rw [hy292]; with_reducible exact H) | (have H2_ := (Option.bind_some _ _).symm.trans H; rw [hy292]; with_reducible exact H2_) | (have H2_ := (Option.bind_some _ _).symm.trans H; with_reducible exact H2_) | with_reducible exact H | (rw [hy292]; exact H) | exact H
                      have Ny292 := Aside0.mk hy292
                      clear hy292
                      have H' := Aside0.mk H
                      clear H
                      have hcz19_0 : wc.cell? ⟨gb291, 0, none⟩ = some (.int .u8 (rd l0 x28_1)) := (blk_cell BK291.out 0).trans rfl
                      have hcz19_1 : wc.cell? ⟨gb291, 1, none⟩ = some (.int .u8 x292001_11) := (blk_cell BK291.out 1).trans rfl
                      have hcz19_2 : wc.cell? ⟨gb291, 2, none⟩ = some (.int .u8 0) := (blk_cell BK291.out 2).trans rfl
                      have hcz19_3 : wc.cell? ⟨gb291, 3, none⟩ = some (.int .u8 0) := (blk_cell BK291.out 3).trans rfl
                      have hfz19_0 := blk_frozen BK291.out 0
                      have hfz19_1 := blk_frozen BK291.out 1
                      have hfz19_2 := blk_frozen BK291.out 2
                      have hfz19_3 := blk_frozen BK291.out 3
                      go_wp2_with (first | ((with_reducible refine gate_builtin (b := .append) (xs := #[.tmp 42, .tmp 44]) rfl ?_); at_builtin; refine Kd.R_append k50 (w0 := w) w.heap.size rfl (.tmp 42) (.tmp 44) 31 50 (.agg #[(.int .u8 0), (.int .u8 0), (.int .u8 0), (.int .u8 0)]) 4 rfl Try.underlying31 info50 rfl (by decide) (by omega) u8 x8_1 (⟨(rd l0 x28_1), x292001_11, 0, 0⟩ : S50) [.int .u8 (rd l0 x28_1), .int .u8 x292001_11, .int .u8 0, .int .u8 0] (fun k_ => k_ ≠ gb291) (fun _ => False) rfl rfl ?aP (fun _ hk => hk.elim) ?aF ?aO ?aB ?aS ?aL ?_; (case aP => exact k50_mkM _ _ _ (⟨(rd l0 x28_1), x292001_11, 0, 0⟩ : S50)); (case aB => exact (by repeat (first | (with_reducible first | exact HB.out | apply below_alloc | apply pw_below_drewN | apply below_drew1 | refine below_set ?_ GE291.out) | exact HB.out))); (case aF => exact (fun k_ hk => Kd.freshB (g := gb291) (o := .cells #[.int .u8 (rd l0 x28_1), .int .u8 x292001_11, .int .u8 0, .int .u8 0] 50 (0, 0)) (by (with_reducible repeat (first | refine blk_drewN ?_ _ | refine blk_drew ?_ | refine blk_alloc ?_ _)); exact BK291.out) k_ hk)); (case aO => exact (by (with_reducible repeat (first | apply Kd.R_alloc | apply Kd.R_drewN | apply Kd.R_drew)); exact HO_8.out)); (case aS => exact (below_size (by repeat (first | (with_reducible first | exact HB.out | apply below_alloc | apply pw_below_drewN | apply below_drew1 | refine below_set ?_ GE291.out) | exact HB.out)))); (case aL => have := LMc18.out; omega); intro v293 w20 ho hb hg hat; rw [← Ny292.out] at ho; have n0_ := Aside0.mk (blk_grown (g := gb291) (o := .cells #[.int .u8 (rd l0 x28_1), .int .u8 x292001_11, .int .u8 0, .int .u8 0] 50 (0, 0)) (by (with_reducible repeat (first | refine blk_drewN ?_ _ | refine blk_drew ?_ | refine blk_alloc ?_ _)); exact BK291.out) hg (Kd.R_away HO_8.out (fun _ hk => hk))); have n1_ := Aside0.mk (hb); have n2_ := Aside0.mk (ho); clear BK291; clear HB; clear HO_8; have BK291 := n0_; have HB := n1_; have HO294 := n2_; clear n0_ n1_ n2_; clear ho hb hg hat))
                      go_roundg kj11
                      case measure => have := HK1.out; have := HJ11.out; omega
                      case rel => exact ⟨(y292), (wrap64 (x28_1 + 1)), (by first | rfl | (simp; done) | (simp [*]; done)), H', ⟨by have := HK1.out; have := HJ11.out; omega⟩, ⟨by (with_reducible repeat (first | apply Kd.R_alloc | apply Kd.R_drewN | apply Kd.R_drew)); exact Kd.R_mono HO294.out (fun _ hk => trivial)⟩, ⟨by repeat (first | (with_reducible first | exact HB.out | apply below_alloc | apply pw_below_drewN | apply below_drew1 | refine below_set ?_ GE291.out) | exact HB.out)⟩⟩
                    · rw [if_neg c18] at H
                      exact absurd H (by simp)
              · rw [if_neg c11] at H
                exact absurd H (by simp)
            · rw [if_neg c10] at H
              exact absurd H (by simp)
          · rw [if_neg c9] at H
            have c9b0 : decide (x28_1 < (l0.length : Int)) = false := decide_eq_false c9
            clear c9
            replace H := Option.bind_eq_some_iff.mp H
            obtain ⟨⟨t295, t298⟩, A210, H⟩ := H
            replace H : ((span_Columns.f k1 t295 t298 0 (t295.length : Int) (wrap64 (1 + (wrap64 (Int.tmod a1 64))))).bind fun t302 => (if (t302.length : Int) = (wrap64 ((t295.length : Int) + 1)) then (stanzalaw13_SpanTabs.l1 k1 (wrap64 (1 + (wrap64 (Int.tmod a1 64)))) t302 t295 (t295.length : Int) 0) else (some false))) = some r := H
            have A21 := Aside0.mk A210
            clear A210
            replace H := Option.bind_eq_some_iff.mp H
            obtain ⟨t302, A220, H⟩ := H
            replace H : (if (t302.length : Int) = (wrap64 ((t295.length : Int) + 1)) then (stanzalaw13_SpanTabs.l1 k1 (wrap64 (1 + (wrap64 (Int.tmod a1 64)))) t302 t295 (t295.length : Int) 0) else (some false)) = some r := H
            have A22 := Aside0.mk A220
            clear A220
            by_cases c23 : (t302.length : Int) = (wrap64 ((t295.length : Int) + 1))
            · rw [if_pos c23] at H
              have c23b0 : ((t302.length : Int) == (wrap64 ((t295.length : Int) + 1))) = true := beq_iff_eq.mpr c23
              have c23b1 : ((t302.length : Int) != (wrap64 ((t295.length : Int) + 1))) = false := bne_eq_false_iff_eq.mpr c23
              clear c23
              have H' := Aside0.mk H
              clear H
              obtain ⟨Ao24, co24, eo24⟩ := Kd.R_slice HO_8.out
              subst eo24
              go_wp2_with (first | ((with_reducible refine gate_callee (f := 19) rfl ?_); refine goesL_ (some 48) rfl rfl Try.func19 (by kernel_rfl) rfl #[.slice Ao24 x8_1.length co24] rfl (by (try simp only [List.map_toArray, List.map_cons, List.map_nil]); first | done | rfl | (simp only [List.length_drop, List.length_take]; rfl)) ?_; (with_reducible refine (stanzahand03_Para.calls k1 _ _ x8_1 t295 t298 _ ?side1 ?side2 A21.out).mono ?_); (case side1 => repeat (first | exact (Kd.R_reads' HO_8.out).2.2 | (with_reducible refine Kd.C_alloc ?_ _) | (with_reducible refine Kd.C_drewN ?_ _) | (with_reducible refine Kd.C_drew ?_))); (case side2 => exact (Kd.R_reads' HO_8.out).2.1); rintro e w25 ⟨v296, v299, rfl, ho0, ho1, hb⟩; refine ⟨_, rfl, ?_⟩; have n0_ := Aside0.mk (Kd.R_below (by (with_reducible repeat (first | apply Kd.R_alloc | apply Kd.R_drewN | apply Kd.R_drew)); exact HO_8.out) hb); have n1_ := Aside0.mk (Kd.R_lower ho0 (below_size (by repeat (first | (with_reducible first | exact HB.out | apply below_alloc | apply pw_below_drewN | apply below_drew1) | exact HB.out)))); have n2_ := Aside0.mk (Kd.R_lower ho1 (below_size (by repeat (first | (with_reducible first | exact HB.out | apply below_alloc | apply pw_below_drewN | apply below_drew1) | exact HB.out)))); have n3_ := Aside0.mk (below_step (by repeat (first | (with_reducible first | exact HB.out | apply below_alloc | apply pw_below_drewN | apply below_drew1) | exact HB.out)) hb); clear HO_8; clear HB; have HO_8 := n0_; have HO297 := n1_; have HO300 := n2_; have HB := n3_; clear n0_ n1_ n2_ n3_; (try clear hb); (try clear hb2); (try clear hk); (try clear hi); (try clear ho0); (try clear ho1)) | ((with_reducible refine gate_dst (N := 12) rfl ?_); refine box_event ?hg (N := 12) ?hd (cs := #[.slice none 0 0, .slice none 0 0]) (t := 35) ?hr ?_; (case hd => rfl); (case hg => rfl); (case hr => first | (go_simp; done) | (go_simp; rfl)); intro gb301 hg w26 hbox hb; have n0_ := Aside0.mk (Kd.R_below (by (with_reducible repeat (first | apply Kd.R_alloc | apply Kd.R_drewN | apply Kd.R_drew)); exact HO_8.out) hb); have n1_ := Aside0.mk (Kd.R_below (by (with_reducible repeat (first | apply Kd.R_alloc | apply Kd.R_drewN | apply Kd.R_drew)); exact HO297.out) hb); have n2_ := Aside0.mk (Kd.R_below (by (with_reducible repeat (first | apply Kd.R_alloc | apply Kd.R_drewN | apply Kd.R_drew)); exact HO300.out) hb); have n3_ := Aside0.mk (below_step (by repeat (first | (with_reducible first | exact HB.out | apply below_alloc | apply pw_below_drewN | apply below_drew1) | exact HB.out)) hb); have n4_ := Aside0.mk (hbox); have n5_ := Aside0.mk ((by rw [hg]; exact (below_size (by repeat (first | (with_reducible first | exact HB.out | apply below_alloc | apply pw_below_drewN | apply below_drew1) | exact HB.out))) : w.heap.size ≤ gb301)); have n6_ := Aside0.mk ((by rw [hg]; exact (below_size (by repeat (first | (with_reducible first | exact HB.out | apply below_alloc | apply pw_below_drewN | apply below_drew1) | exact HB.out))) : w.heap.size ≤ gb301)); clear HO_8; clear HO297; clear HO300; clear HB; have HO_8 := n0_; have HO297 := n1_; have HO300 := n2_; have HB := n3_; have BK301 := n4_; have GW301 := n5_; have GE301 := n6_; clear n0_ n1_ n2_ n3_ n4_ n5_ n6_; clear hb hbox hg; obtain ⟨Ao27, co27, eo27⟩ := Kd.R_slice HO297.out; subst eo27; have hcz28_0 : w26.cell? ⟨gb301, 0, none⟩ = some (.slice none 0 0) := (blk_cell BK301.out 0).trans rfl; have hcz28_1 : w26.cell? ⟨gb301, 1, none⟩ = some (.slice none 0 0) := (blk_cell BK301.out 1).trans rfl; have hfz28_0 := blk_frozen BK301.out 0; have hfz28_1 := blk_frozen BK301.out 1; obtain ⟨Ao29, co29, eo29⟩ := Kd.R_slice HO300.out; subst eo29) | ((with_reducible refine gate_store (t := 35) (p := 12) rfl ?_); refine store_event (t := 35) (p := 12) (v := ?vo_w30) (w1 := ((w26.setCell ⟨gb301, 0, none⟩ (.slice Ao27 t295.length co27)).setCell ⟨gb301, 1, none⟩ (.slice Ao29 t298.length co29))) ?hg ?ho ?hn ?hr ?_; (case ho => rfl); (case hg => rfl); (case hn => rfl); (case hr => first | (go_simp; done) | (go_simp; rfl)); intro w30 hw; have n0_ : Aside0 (Kd.R k50 50 w30 w.heap.size (fun _ => True) (.slice Ao24 x8_1.length co24) x8_1) := ⟨(by rw [hw]; exact (by (with_reducible repeat (first | apply Kd.R_alloc | apply Kd.R_drewN | apply Kd.R_drew)); exact Kd.R_mono (Kd.R_far (p := ⟨gb301, 1, none⟩) (Kd.R_far (p := ⟨gb301, 0, none⟩) (Kd.R_types HO_8.out BK301.out (by decide)) (fun _ hk => hk.2) (.slice Ao27 t295.length co27)) (fun _ hk => hk.2) (.slice Ao29 t298.length co29)) (fun _ hk => trivial)))⟩; have n1_ : Aside0 (Kd.R k41 41 w30 w.heap.size (fun _ => True) (.slice Ao27 t295.length co27) t295) := ⟨(by rw [hw]; exact (by (with_reducible repeat (first | apply Kd.R_alloc | apply Kd.R_drewN | apply Kd.R_drew)); exact Kd.R_mono (Kd.R_far (p := ⟨gb301, 1, none⟩) (Kd.R_far (p := ⟨gb301, 0, none⟩) (Kd.R_types HO297.out BK301.out (by decide)) (fun _ hk => hk.2) (.slice Ao27 t295.length co27)) (fun _ hk => hk.2) (.slice Ao29 t298.length co29)) (fun _ hk => trivial)))⟩; have n2_ : Aside0 (Kd.R (Kd.int .u8) 46 w30 w.heap.size (fun _ => True) (.slice Ao29 t298.length co29) t298) := ⟨(by rw [hw]; exact (by (with_reducible repeat (first | apply Kd.R_alloc | apply Kd.R_drewN | apply Kd.R_drew)); exact Kd.R_mono (Kd.R_far (p := ⟨gb301, 1, none⟩) (Kd.R_far (p := ⟨gb301, 0, none⟩) (Kd.R_types HO300.out BK301.out (by decide)) (fun _ hk => hk.2) (.slice Ao27 t295.length co27)) (fun _ hk => hk.2) (.slice Ao29 t298.length co29)) (fun _ hk => trivial)))⟩; have n3_ : Aside0 (w30.heap[gb301]? = some (.cells #[.slice Ao27 t295.length co27, .slice Ao29 t298.length co29] 35 (0, 0))) := ⟨(by rw [hw]; exact (by (with_reducible repeat (first | refine blk_drewN ?_ _ | refine blk_drew ?_ | refine blk_alloc ?_ _)); refine blk_put (cs := #[.slice Ao27 t295.length co27, .slice none 0 0]) ?_ 1 _ rfl; (with_reducible repeat (first | refine blk_drewN ?_ _ | refine blk_drew ?_ | refine blk_alloc ?_ _)); refine blk_put (cs := #[.slice none 0 0, .slice none 0 0]) ?_ 0 _ rfl; (with_reducible repeat (first | refine blk_drewN ?_ _ | refine blk_drew ?_ | refine blk_alloc ?_ _)); exact BK301.out))⟩; have n4_ : Aside0 (Below w.heap.size w w30) := ⟨(by rw [hw]; exact (by repeat (first | (with_reducible first | exact HB.out | apply below_alloc | apply pw_below_drewN | apply below_drew1 | refine below_set ?_ GE301.out) | exact HB.out)))⟩; clear hw; clear HO_8; clear HO297; clear HO300; clear BK301; clear HB; have HO_8 := n0_; have HO297 := n1_; have HO300 := n2_; have BK301 := n3_; have HB := n4_; clear n0_ n1_ n2_ n3_ n4_; have hcz31_0 : w30.cell? ⟨gb301, 0, none⟩ = some (.slice Ao27 t295.length co27) := (blk_cell BK301.out 0).trans rfl; have hcz31_1 : w30.cell? ⟨gb301, 1, none⟩ = some (.slice Ao29 t298.length co29) := (blk_cell BK301.out 1).trans rfl; have hfz31_0 := blk_frozen BK301.out 0; have hfz31_1 := blk_frozen BK301.out 1) | ((with_reducible refine gate_callee (f := 23) rfl ?_); refine goesL_ (some 54) rfl rfl Try.func23 (by kernel_rfl) rfl #[.agg #[.slice Ao27 t295.length co27, .slice Ao29 t298.length co29], .int .i64 0, .int .i64 (t295.length : Int), .int .i64 (wrap64 (1 + (wrap64 (Int.tmod a1 64))))] rfl (by (try simp only [List.map_toArray, List.map_cons, List.map_nil]); first | done | rfl | (simp only [List.length_drop, List.length_take]; rfl)) ?_; (with_reducible refine (span_Columns.calls k1 _ _ t295 _ _ t298 0 (t295.length : Int) (wrap64 (1 + (wrap64 (Int.tmod a1 64)))) t302 _ ?side1 ?side2 ?side3 ?side4 A22.out).mono ?_); (case side1 => repeat (first | exact (Kd.R_reads' HO297.out).2.2 | (with_reducible refine Kd.C_alloc ?_ _) | (with_reducible refine Kd.C_drewN ?_ _) | (with_reducible refine Kd.C_drew ?_))); (case side2 => exact (Kd.R_reads' HO297.out).2.1); (case side3 => repeat (first | exact (Kd.R_reads' HO300.out).2.2 | (with_reducible refine Kd.C_alloc ?_ _) | (with_reducible refine Kd.C_drewN ?_ _) | (with_reducible refine Kd.C_drew ?_))); (case side4 => exact (Kd.R_reads' HO300.out).2.1); rintro e w32 ⟨v303, rfl, ho0, hb⟩; refine ⟨_, rfl, ?_⟩; have n0_ := Aside0.mk (Kd.R_below (by (with_reducible repeat (first | apply Kd.R_alloc | apply Kd.R_drewN | apply Kd.R_drew)); exact HO_8.out) hb); have n1_ := Aside0.mk (Kd.R_below (by (with_reducible repeat (first | apply Kd.R_alloc | apply Kd.R_drewN | apply Kd.R_drew)); exact HO297.out) hb); have n2_ := Aside0.mk (Kd.R_below (by (with_reducible repeat (first | apply Kd.R_alloc | apply Kd.R_drewN | apply Kd.R_drew)); exact HO300.out) hb); have n3_ := Aside0.mk (Kd.R_lower ho0 (below_size (by repeat (first | (with_reducible first | exact HB.out | apply below_alloc | apply pw_below_drewN | apply below_drew1 | refine below_set ?_ GE301.out) | exact HB.out)))); have n4_ := Aside0.mk (blk_below (g := gb301) (o := .cells #[.slice Ao27 t295.length co27, .slice Ao29 t298.length co29] 35 (0, 0)) (by (with_reducible repeat (first | refine blk_drewN ?_ _ | refine blk_drew ?_ | refine blk_alloc ?_ _)); exact BK301.out) hb); have n5_ := Aside0.mk (below_step (by repeat (first | (with_reducible first | exact HB.out | apply below_alloc | apply pw_below_drewN | apply below_drew1 | refine below_set ?_ GE301.out) | exact HB.out)) hb); clear HO_8; clear HO297; clear HO300; clear BK301; clear HB; have HO_8 := n0_; have HO297 := n1_; have HO300 := n2_; have HO304 := n3_; have BK301 := n4_; have HB := n5_; clear n0_ n1_ n2_ n3_ n4_ n5_; (try clear hb); (try clear hb2); (try clear hk); (try clear hi); (try clear ho0); obtain ⟨Ao33, co33, eo33⟩ := Kd.R_slice HO304.out; subst eo33; have hcz34_0 : w32.cell? ⟨gb301, 0, none⟩ = some (.slice Ao27 t295.length co27) := (blk_cell BK301.out 0).trans rfl; have hcz34_1 : w32.cell? ⟨gb301, 1, none⟩ = some (.slice Ao29 t298.length co29) := (blk_cell BK301.out 1).trans rfl; have hfz34_0 := blk_frozen BK301.out 0; have hfz34_1 := blk_frozen BK301.out 1))
              go_loopg [65] k1 (fun kq v65 w' => ∃ (x65_2 : Int), v65 = .int .i64 x65_2 ∧ Aside0 (stanzalaw13_SpanTabs.l1 kq (wrap64 (1 + (wrap64 (Int.tmod a1 64)))) t302 t295 (t295.length : Int) x65_2 = some r) ∧ Aside0 (kq ≤ k1) ∧ Aside0 (Kd.R (Kd.int .i64) 3 w' w.heap.size (fun _ => True) (.slice Ao33 t302.length co33) t302) ∧ Aside0 (Kd.R k41 41 w' w.heap.size (fun _ => True) (.slice Ao27 t295.length co27) t295) ∧ Aside0 (Kd.R k41 41 w' w.heap.size (fun _ => True) (.slice Ao27 t295.length co27) t295) ∧ Aside0 (Kd.R (Kd.int .u8) 46 w' w.heap.size (fun _ => True) (.slice Ao29 t298.length co29) t298) ∧ Aside0 (w'.heap[gb301]? = some (.cells #[(.slice Ao27 t295.length co27), (.slice Ao29 t298.length co29)] 35 (0, 0))) ∧ Aside0 (Below w.heap.size w w'))
              case atStart => exact ⟨(0), (by first | rfl | (simp; done) | (simp [*]; done)), H', ⟨Nat.le_refl _⟩, ⟨by (with_reducible repeat (first | apply Kd.R_alloc | apply Kd.R_drewN | apply Kd.R_drew)); exact HO304.out⟩, ⟨by (with_reducible repeat (first | apply Kd.R_alloc | apply Kd.R_drewN | apply Kd.R_drew)); exact HO297.out⟩, ⟨by (with_reducible repeat (first | apply Kd.R_alloc | apply Kd.R_drewN | apply Kd.R_drew)); exact HO297.out⟩, ⟨by (with_reducible repeat (first | apply Kd.R_alloc | apply Kd.R_drewN | apply Kd.R_drew)); exact HO300.out⟩, ⟨by (with_reducible repeat (first | refine blk_drewN ?_ _ | refine blk_drew ?_ | refine blk_alloc ?_ _)); exact BK301.out⟩, ⟨by repeat (first | (with_reducible first | exact HB.out | apply below_alloc | apply pw_below_drewN | apply below_drew1 | refine below_set ?_ GE301.out) | exact HB.out)⟩⟩
              case round =>
                clear H'
                try clear c1
                try clear c2
                try clear p2
                try clear q2
                try clear hx2
                try clear c5
                try clear c6
                try clear c6b0
                try clear c6b1
                try clear p6
                try clear c9
                try clear c9b0
                try clear c10
                try clear c10b0
                try clear c11
                try clear c11b0
                try clear c16
                try clear c16b0
                try clear c16b1
                try clear c18
                try clear c19
                try clear c23
                try clear c23b0
                try clear c23b1
                try clear p29
                try clear q29
                try clear hx29
                try clear hcz14_0
                try clear hcz14_1
                try clear hcz14_2
                try clear hcz14_3
                try clear hcz17_0
                try clear hcz17_1
                try clear hcz17_2
                try clear hcz17_3
                try clear hcz19_0
                try clear hcz19_1
                try clear hcz19_2
                try clear hcz19_3
                try clear hcz28_0
                try clear hcz28_1
                try clear hcz31_0
                try clear hcz31_1
                try clear hcz34_0
                try clear hcz34_1
                try clear hfz14_0
                try clear hfz14_1
                try clear hfz14_2
                try clear hfz14_3
                try clear hfz17_0
                try clear hfz17_1
                try clear hfz17_2
                try clear hfz17_3
                try clear hfz19_0
                try clear hfz19_1
                try clear hfz19_2
                try clear hfz19_3
                try clear hfz28_0
                try clear hfz28_1
                try clear hfz31_0
                try clear hfz31_1
                try clear hfz34_0
                try clear hfz34_1
                try clear hx290_0
                try clear p2
                try clear p290
                try clear p6
                try clear q2
                try clear q290
                obtain ⟨x65_2, rfl, HA, HK2, HO_13, HO_63, HO_302000, HO_302001, BK301, HB⟩ := hrel
                cases gk with
                | zero => exact absurd HA.out (by simp [stanzalaw13_SpanTabs.l1])
                | succ k2 =>
                  have H := HA.out
                  clear HA
                  simp only [stanzalaw13_SpanTabs.l1] at H
                  by_cases c35 : x65_2 < (t295.length : Int)
                  · rw [if_pos c35] at H
                    have c35b0 : decide (x65_2 < (t295.length : Int)) = true := decide_eq_true c35
                    clear c35
                    by_cases c36 : 0 ≤ x65_2
                    · rw [if_pos c36] at H
                      have c36b0 : decide (0 ≤ x65_2) = true := decide_eq_true c36
                      clear c36
                      by_cases c37 : x65_2 < (t295.length : Int)
                      · rw [if_pos c37] at H
                        have c37b0 : decide (x65_2 < (t295.length : Int)) = true := decide_eq_true c37
                        clear c37
                        obtain ⟨ji38, hji38⟩ : ∃ j_ : Int, (wrap64 (x65_2 + 1)) = j_ := ⟨_, rfl⟩
                        replace H : (if 0 ≤ (ji38) then (if (ji38) < (t302.length : Int) then (if x65_2 < (t302.length : Int) then (if ((rd_T41 t295 x65_2).f3) = 2 then (if (wrap64 (1 + (wrap64 (Int.tmod a1 64)))) = 0 then (none) else (if (Int.tmod (rd t302 (ji38)) (wrap64 (1 + (wrap64 (Int.tmod a1 64))))) = 0 then (if (wrap64 ((rd t302 (ji38)) - (rd t302 x65_2))) < 1 then (stanzalaw13_SpanTabs.j3 k2 (wrap64 (1 + (wrap64 (Int.tmod a1 64)))) t302 t295 (t295.length : Int) x65_2 true) else (if (wrap64 ((rd t302 (ji38)) - (rd t302 x65_2))) > (wrap64 (1 + (wrap64 (Int.tmod a1 64)))) then (stanzalaw13_SpanTabs.j3 k2 (wrap64 (1 + (wrap64 (Int.tmod a1 64)))) t302 t295 (t295.length : Int) x65_2 true) else (if ((rd_T41 t295 x65_2).f3) = 0 then (stanzalaw13_SpanTabs.j3 k2 (wrap64 (1 + (wrap64 (Int.tmod a1 64)))) t302 t295 (t295.length : Int) x65_2 ((wrap64 ((rd t302 (ji38)) - (rd t302 x65_2))) != ((rd_T41 t295 x65_2).f2))) else (stanzalaw13_SpanTabs.j3 k2 (wrap64 (1 + (wrap64 (Int.tmod a1 64)))) t302 t295 (t295.length : Int) x65_2 false)))) else (stanzalaw13_SpanTabs.j3 k2 (wrap64 (1 + (wrap64 (Int.tmod a1 64)))) t302 t295 (t295.length : Int) x65_2 true))) else (if ((rd_T41 t295 x65_2).f3) = 0 then (stanzalaw13_SpanTabs.j3 k2 (wrap64 (1 + (wrap64 (Int.tmod a1 64)))) t302 t295 (t295.length : Int) x65_2 ((wrap64 ((rd t302 (ji38)) - (rd t302 x65_2))) != ((rd_T41 t295 x65_2).f2))) else (stanzalaw13_SpanTabs.j3 k2 (wrap64 (1 + (wrap64 (Int.tmod a1 64)))) t302 t295 (t295.length : Int) x65_2 false))) else (none)) else (none)) else (none)) = some r := by first | (rw [hji38] at H; exact H) | (simp only [hji38] at H ⊢; exact H)
                        have hji38w : (IntKind.i64.wrap (x65_2 + 1)) = ji38 := (i64_w _).trans hji38
                        by_cases c39 : 0 ≤ (ji38)
                        · rw [if_pos c39] at H
                          have c39b0 : decide (0 ≤ (ji38)) = true := decide_eq_true c39
                          clear c39
                          by_cases c40 : (ji38) < (t302.length : Int)
                          · rw [if_pos c40] at H
                            have c40b0 : decide ((ji38) < (t302.length : Int)) = true := decide_eq_true c40
                            clear c40
                            by_cases c41 : x65_2 < (t302.length : Int)
                            · rw [if_pos c41] at H
                              have c41b0 : decide (x65_2 < (t302.length : Int)) = true := decide_eq_true c41
                              clear c41
                              have HC42 := Aside0.mk H
                              clear H
                              have p305 : 0 ≤ (x65_2 : Int) := of_decide_eq_true (by first | (with_reducible assumption) | assumption)
                              have q305 : x65_2 < (t295.length : Int) := of_decide_eq_true (by first | (with_reducible assumption) | assumption)
                              obtain ⟨ad305, e305, hx305_0, hx305_1, hx305_2, hx305_3⟩ := at_T41 (Kd.R_reads' HO_63.out).2.2 x65_2 p305 q305
                              cases e305
                              replace p305 := eq_true p305
                              replace q305 := eq_true q305
                              try go_wp2_with (first | ((with_reducible refine gate_dst (N := 15) rfl ?_); refine box_event ?hg (N := 15) ?hd (cs := #[.int .i64 0, .int .i64 0, .int .i64 0, .int .u8 0]) (t := 41) ?hr ?_; (case hd => rfl); (case hg => rfl); (case hr => first | (go_simp; done) | (go_simp; rfl)); intro gb306 hg w43 hbox hb; have n0_ := Aside0.mk (Kd.R_below (by (with_reducible repeat (first | apply Kd.R_alloc | apply Kd.R_drewN | apply Kd.R_drew)); exact HO_13.out) hb); have n1_ := Aside0.mk (Kd.R_below (Kd.R_elderB (by (with_reducible repeat (first | apply Kd.R_alloc | apply Kd.R_drewN | apply Kd.R_drew)); exact HO_63.out) gb306 (Nat.le_of_eq hg.symm)) hb); have n2_ := Aside0.mk (Kd.R_below (Kd.R_elderB (by (with_reducible repeat (first | apply Kd.R_alloc | apply Kd.R_drewN | apply Kd.R_drew)); exact HO_302000.out) gb306 (Nat.le_of_eq hg.symm)) hb); have n3_ := Aside0.mk (Kd.R_below (by (with_reducible repeat (first | apply Kd.R_alloc | apply Kd.R_drewN | apply Kd.R_drew)); exact HO_302001.out) hb); have n4_ := Aside0.mk (blk_below (g := gb301) (o := .cells #[.slice (some ad305) t295.length co27, .slice Ao29 t298.length co29] 35 (0, 0)) (by (with_reducible repeat (first | refine blk_drewN ?_ _ | refine blk_drew ?_ | refine blk_alloc ?_ _)); exact BK301.out) hb); have n5_ := Aside0.mk (below_step (by repeat (first | (with_reducible first | exact HB.out | apply below_alloc | apply pw_below_drewN | apply below_drew1 | refine below_set ?_ GE301.out) | exact HB.out)) hb); have n6_ := Aside0.mk (hbox); have n7_ := Aside0.mk ((by rw [hg]; exact (below_size (by repeat (first | (with_reducible first | exact HB.out | apply below_alloc | apply pw_below_drewN | apply below_drew1 | refine below_set ?_ GE301.out) | exact HB.out))) : w.heap.size ≤ gb306)); have n8_ := Aside0.mk ((by rw [hg]; exact (below_size (by repeat (first | (with_reducible first | exact HB.out | apply below_alloc | apply pw_below_drewN | apply below_drew1 | refine below_set ?_ GE301.out) | exact HB.out))) : w.heap.size ≤ gb306)); have n9_ := Aside0.mk ((by rw [hg]; exact Nat.ne_of_lt (blk_lt (g := gb301) (o := .cells #[.slice (some ad305) t295.length co27, .slice Ao29 t298.length co29] 35 (0, 0)) (by (with_reducible repeat (first | refine blk_drewN ?_ _ | refine blk_drew ?_ | refine blk_alloc ?_ _)); exact BK301.out)) : gb301 ≠ gb306)); have n10_ := Aside0.mk ((by rw [hg]; exact Nat.ne_of_gt (blk_lt (g := gb301) (o := .cells #[.slice (some ad305) t295.length co27, .slice Ao29 t298.length co29] 35 (0, 0)) (by (with_reducible repeat (first | refine blk_drewN ?_ _ | refine blk_drew ?_ | refine blk_alloc ?_ _)); exact BK301.out)) : gb306 ≠ gb301)); clear HO_13; clear HO_63; clear HO_302000; clear HO_302001; clear BK301; clear HB; have HO_13 := n0_; have HO_63 := n1_; have HO_302000 := n2_; have HO_302001 := n3_; have BK301 := n4_; have HB := n5_; have BK306 := n6_; have GW306 := n7_; have GE306 := n8_; have NB301_306 := n9_; have NB306_301 := n10_; clear n0_ n1_ n2_ n3_ n4_ n5_ n6_ n7_ n8_ n9_ n10_; clear hb hbox hg; have hnb44 := NB306_301.out; have hnc44 := NB301_306.out; have hcz45_0 : w43.cell? ⟨gb306, 0, none⟩ = some (.int .i64 0) := (blk_cell BK306.out 0).trans rfl; have hcz45_1 : w43.cell? ⟨gb306, 1, none⟩ = some (.int .i64 0) := (blk_cell BK306.out 1).trans rfl; have hcz45_2 : w43.cell? ⟨gb306, 2, none⟩ = some (.int .i64 0) := (blk_cell BK306.out 2).trans rfl; have hcz45_3 : w43.cell? ⟨gb306, 3, none⟩ = some (.int .u8 0) := (blk_cell BK306.out 3).trans rfl; have hfz45_0 := blk_frozen BK306.out 0; have hfz45_1 := blk_frozen BK306.out 1; have hfz45_2 := blk_frozen BK306.out 2; have hfz45_3 := blk_frozen BK306.out 3) | ((with_reducible refine gate_store (t := 41) (p := 15) rfl ?_); refine store_event (t := 41) (p := 15) (v := ?vo_w46) (w1 := ((((w43.setCell ⟨gb306, 0, none⟩ (.int .i64 ((rd_T41 t295 x65_2).f0))).setCell ⟨gb306, 1, none⟩ (.int .i64 ((rd_T41 t295 x65_2).f1))).setCell ⟨gb306, 2, none⟩ (.int .i64 ((rd_T41 t295 x65_2).f2))).setCell ⟨gb306, 3, none⟩ (.int .u8 ((rd_T41 t295 x65_2).f3)))) ?hg ?ho ?hn ?hr ?_; (case ho => rfl); (case hg => rfl); (case hn => rfl); (case hr => first | (go_simp; done) | (go_simp; rfl)); intro w46 hw; have n0_ : Aside0 (Kd.R (Kd.int .i64) 3 w46 w.heap.size (fun _ => True) (.slice Ao33 t302.length co33) t302) := ⟨(by rw [hw]; exact (by (with_reducible repeat (first | apply Kd.R_alloc | apply Kd.R_drewN | apply Kd.R_drew)); exact Kd.R_mono (Kd.R_far (p := ⟨gb306, 3, none⟩) (Kd.R_far (p := ⟨gb306, 2, none⟩) (Kd.R_far (p := ⟨gb306, 1, none⟩) (Kd.R_far (p := ⟨gb306, 0, none⟩) (Kd.R_types HO_13.out BK306.out (by decide)) (fun _ hk => hk.2) (.int .i64 ((rd_T41 t295 x65_2).f0))) (fun _ hk => hk.2) (.int .i64 ((rd_T41 t295 x65_2).f1))) (fun _ hk => hk.2) (.int .i64 ((rd_T41 t295 x65_2).f2))) (fun _ hk => hk.2) (.int .u8 ((rd_T41 t295 x65_2).f3))) (fun _ hk => trivial)))⟩; have n1_ : Aside0 (Kd.R k41 41 w46 w.heap.size (fun k_ => k_ ≠ gb306) (.slice (some ad305) t295.length co27) t295) := ⟨(by rw [hw]; exact (by (with_reducible repeat (first | apply Kd.R_alloc | apply Kd.R_drewN | apply Kd.R_drew)); exact Kd.R_mono (Kd.R_far (p := ⟨gb306, 3, none⟩) (Kd.R_far (p := ⟨gb306, 2, none⟩) (Kd.R_far (p := ⟨gb306, 1, none⟩) (Kd.R_far (p := ⟨gb306, 0, none⟩) (Kd.R_mono HO_63.out (fun k_ hk => (⟨hk, hk.2⟩ : _ ∧ k_ ≠ gb306))) (fun _ hk => hk.2) (.int .i64 ((rd_T41 t295 x65_2).f0))) (fun _ hk => hk.2) (.int .i64 ((rd_T41 t295 x65_2).f1))) (fun _ hk => hk.2) (.int .i64 ((rd_T41 t295 x65_2).f2))) (fun _ hk => hk.2) (.int .u8 ((rd_T41 t295 x65_2).f3))) (fun _ hk => hk.1.2)))⟩; have n2_ : Aside0 (Kd.R k41 41 w46 w.heap.size (fun k_ => k_ ≠ gb306) (.slice (some ad305) t295.length co27) t295) := ⟨(by rw [hw]; exact (by (with_reducible repeat (first | apply Kd.R_alloc | apply Kd.R_drewN | apply Kd.R_drew)); exact Kd.R_mono (Kd.R_far (p := ⟨gb306, 3, none⟩) (Kd.R_far (p := ⟨gb306, 2, none⟩) (Kd.R_far (p := ⟨gb306, 1, none⟩) (Kd.R_far (p := ⟨gb306, 0, none⟩) (Kd.R_mono HO_302000.out (fun k_ hk => (⟨hk, hk.2⟩ : _ ∧ k_ ≠ gb306))) (fun _ hk => hk.2) (.int .i64 ((rd_T41 t295 x65_2).f0))) (fun _ hk => hk.2) (.int .i64 ((rd_T41 t295 x65_2).f1))) (fun _ hk => hk.2) (.int .i64 ((rd_T41 t295 x65_2).f2))) (fun _ hk => hk.2) (.int .u8 ((rd_T41 t295 x65_2).f3))) (fun _ hk => hk.1.2)))⟩; have n3_ : Aside0 (Kd.R (Kd.int .u8) 46 w46 w.heap.size (fun _ => True) (.slice Ao29 t298.length co29) t298) := ⟨(by rw [hw]; exact (by (with_reducible repeat (first | apply Kd.R_alloc | apply Kd.R_drewN | apply Kd.R_drew)); exact Kd.R_mono (Kd.R_far (p := ⟨gb306, 3, none⟩) (Kd.R_far (p := ⟨gb306, 2, none⟩) (Kd.R_far (p := ⟨gb306, 1, none⟩) (Kd.R_far (p := ⟨gb306, 0, none⟩) (Kd.R_types HO_302001.out BK306.out (by decide)) (fun _ hk => hk.2) (.int .i64 ((rd_T41 t295 x65_2).f0))) (fun _ hk => hk.2) (.int .i64 ((rd_T41 t295 x65_2).f1))) (fun _ hk => hk.2) (.int .i64 ((rd_T41 t295 x65_2).f2))) (fun _ hk => hk.2) (.int .u8 ((rd_T41 t295 x65_2).f3))) (fun _ hk => trivial)))⟩; have n4_ : Aside0 (w46.heap[gb301]? = some (.cells #[.slice (some ad305) t295.length co27, .slice Ao29 t298.length co29] 35 (0, 0))) := ⟨(by rw [hw]; exact (by (with_reducible repeat (first | refine blk_drewN ?_ _ | refine blk_drew ?_ | refine blk_alloc ?_ _)); refine blk_far ?_ NB301_306.out _; (with_reducible repeat (first | refine blk_drewN ?_ _ | refine blk_drew ?_ | refine blk_alloc ?_ _)); refine blk_far ?_ NB301_306.out _; (with_reducible repeat (first | refine blk_drewN ?_ _ | refine blk_drew ?_ | refine blk_alloc ?_ _)); refine blk_far ?_ NB301_306.out _; (with_reducible repeat (first | refine blk_drewN ?_ _ | refine blk_drew ?_ | refine blk_alloc ?_ _)); refine blk_far ?_ NB301_306.out _; (with_reducible repeat (first | refine blk_drewN ?_ _ | refine blk_drew ?_ | refine blk_alloc ?_ _)); exact BK301.out))⟩; have n5_ : Aside0 (w46.heap[gb306]? = some (.cells #[.int .i64 ((rd_T41 t295 x65_2).f0), .int .i64 ((rd_T41 t295 x65_2).f1), .int .i64 ((rd_T41 t295 x65_2).f2), .int .u8 ((rd_T41 t295 x65_2).f3)] 41 (0, 0))) := ⟨(by rw [hw]; exact (by (with_reducible repeat (first | refine blk_drewN ?_ _ | refine blk_drew ?_ | refine blk_alloc ?_ _)); refine blk_put (cs := #[.int .i64 ((rd_T41 t295 x65_2).f0), .int .i64 ((rd_T41 t295 x65_2).f1), .int .i64 ((rd_T41 t295 x65_2).f2), .int .u8 0]) ?_ 3 _ rfl; (with_reducible repeat (first | refine blk_drewN ?_ _ | refine blk_drew ?_ | refine blk_alloc ?_ _)); refine blk_put (cs := #[.int .i64 ((rd_T41 t295 x65_2).f0), .int .i64 ((rd_T41 t295 x65_2).f1), .int .i64 0, .int .u8 0]) ?_ 2 _ rfl; (with_reducible repeat (first | refine blk_drewN ?_ _ | refine blk_drew ?_ | refine blk_alloc ?_ _)); refine blk_put (cs := #[.int .i64 ((rd_T41 t295 x65_2).f0), .int .i64 0, .int .i64 0, .int .u8 0]) ?_ 1 _ rfl; (with_reducible repeat (first | refine blk_drewN ?_ _ | refine blk_drew ?_ | refine blk_alloc ?_ _)); refine blk_put (cs := #[.int .i64 0, .int .i64 0, .int .i64 0, .int .u8 0]) ?_ 0 _ rfl; (with_reducible repeat (first | refine blk_drewN ?_ _ | refine blk_drew ?_ | refine blk_alloc ?_ _)); exact BK306.out))⟩; have n6_ : Aside0 (Below w.heap.size w w46) := ⟨(by rw [hw]; exact (by repeat (first | (with_reducible first | exact HB.out | apply below_alloc | apply pw_below_drewN | apply below_drew1 | refine below_set ?_ GE301.out | refine below_set ?_ GE306.out) | exact HB.out)))⟩; clear hw; clear HO_13; clear HO_63; clear HO_302000; clear HO_302001; clear BK301; clear BK306; clear HB; have HO_13 := n0_; have HO_63 := n1_; have HO_302000 := n2_; have HO_302001 := n3_; have BK301 := n4_; have BK306 := n5_; have HB := n6_; clear n0_ n1_ n2_ n3_ n4_ n5_ n6_))
                              have n0_ := Aside0.mk (Kd.R_drew HO_13.out)
                              have n1_ := Aside0.mk (Kd.R_drew HO_63.out)
                              have n2_ := Aside0.mk (Kd.R_drew HO_302000.out)
                              have n3_ := Aside0.mk (Kd.R_drew HO_302001.out)
                              have n4_ := Aside0.mk (blk_drew BK301.out)
                              have n5_ := Aside0.mk (blk_drew BK306.out)
                              have n6_ := Aside0.mk (below_drew1 HB.out)
                              clear HO_13
                              clear HO_63
                              clear HO_302000
                              clear HO_302001
                              clear BK301
                              clear BK306
                              clear HB
                              have HO_13 := n0_
                              have HO_63 := n1_
                              have HO_302000 := n2_
                              have HO_302001 := n3_
                              have BK301 := n4_
                              have BK306 := n5_
                              have HB := n6_
                              clear n0_ n1_ n2_ n3_ n4_ n5_ n6_
                              have p307 : 0 ≤ ((ji38) : Int) := of_decide_eq_true (by first | (with_reducible assumption) | assumption)
                              have q307 : (ji38) < (t302.length : Int) := of_decide_eq_true (by first | (with_reducible assumption) | assumption)
                              obtain ⟨ad307, e307, hx307_0⟩ := Kd.at_int (Kd.R_reads' HO_13.out).2.2 (ji38) p307 q307
                              cases e307
                              replace p307 := eq_true p307
                              replace q307 := eq_true q307
                              have p308 : 0 ≤ (x65_2 : Int) := of_decide_eq_true (by first | (with_reducible assumption) | assumption)
                              have q308 : x65_2 < (t302.length : Int) := of_decide_eq_true (by first | (with_reducible assumption) | assumption)
                              obtain ⟨ad308, e308, hx308_0⟩ := Kd.at_int (Kd.R_reads' HO_13.out).2.2 x65_2 p308 q308
                              obtain rfl : ad307 = ad308 := (by injection e308)
                              replace p308 := eq_true p308
                              replace q308 := eq_true q308
                              refine start_ (n := 11) (S := fun w' => w'.cell? (ad307.add ((ji38)).toNat) = some (.int .i64 (rd t302 (ji38))) ∧ w'.cell? (ad307.add (x65_2).toNat) = some (.int .i64 (rd t302 x65_2))) (ds := []) #[false, false, false, false, false, false, false, false, false, false, false] (by kernel_rfl) rfl rfl ⟨hx307_0, hx308_0⟩ (fun hHeld => ?_); refine with_tabW stanzalaw13_SpanTabs.tab22 stanzalaw13_SpanTabs.bits22 (fun HT_ HW_ => ?_)
                              generalize w46.drew = w47 at HO_13 HO_63 HO_302000 HO_302001 BK301 BK306 HB hx307_0 hx308_0 hHeld ⊢
                              refine pure_ (i := 0) (N := some 70) (v := ?_) (a' := ?_) #[true, false, false, false, false, false, false, false, false, false, false] rfl rfl (any_of HT_.out (by kernel_rfl)) (fun _ _ _ h => h) (Or.inl ⟨by rfl, ?_⟩) ?_ ?_
                              rotate_left
                              · intro w'
                                go_simp
                                with_reducible rfl
                              rotate_left
                              · simp only [Act.put, List.setIfInBounds_toArray, List.set_cons_zero, List.set_cons_succ, i64_w, i32_w]
                                rfl
                              refine pure_ (i := 1) (N := some 71) (v := ?_) (a' := ?_) #[true, true, false, false, false, false, false, false, false, false, false] rfl rfl (any_of HT_.out (by kernel_rfl)) (fun _ _ _ h => h) (Or.inl ⟨by rfl, ?_⟩) ?_ ?_
                              rotate_left
                              · intro w'
                                go_simp
                                with_reducible rfl
                              rotate_left
                              · simp only [Act.put, List.setIfInBounds_toArray, List.set_cons_zero, List.set_cons_succ, i64_w, i32_w]
                                rfl
                              refine pure_ (i := 2) (N := some 72) (v := ?_) (a' := ?_) #[true, true, true, false, false, false, false, false, false, false, false] rfl rfl (any_of HT_.out (by kernel_rfl)) (fun _ _ _ h => h) (Or.inl ⟨by rfl, ?_⟩) ?_ ?_
                              rotate_left
                              · intro w'
                                go_simp
                                with_reducible rfl
                              rotate_left
                              · simp only [Act.put, List.setIfInBounds_toArray, List.set_cons_zero, List.set_cons_succ, i64_w, i32_w]
                                rfl
                              refine pure_ (i := 3) (N := some 73) (v := ?_) (a' := ?_) #[true, true, true, true, false, false, false, false, false, false, false] rfl rfl (any_of HT_.out (by kernel_rfl)) (fun _ _ _ h => h) (Or.inl ⟨by rfl, ?_⟩) ?_ ?_
                              rotate_left
                              · intro w'
                                go_simp
                                with_reducible rfl
                              rotate_left
                              · simp only [Act.put, List.setIfInBounds_toArray, List.set_cons_zero, List.set_cons_succ, i64_w, i32_w]
                                rfl
                              refine pure_ (i := 5) (N := some 75) (v := ?_) (a' := ?_) #[true, true, true, true, false, true, false, false, false, false, false] rfl rfl (any_of HT_.out (by kernel_rfl)) (fun _ _ _ h => h) (Or.inl ⟨by rfl, ?_⟩) ?_ ?_
                              rotate_left
                              · intro w'
                                go_simp
                                with_reducible rfl
                              rotate_left
                              · simp only [Act.put, List.setIfInBounds_toArray, List.set_cons_zero, List.set_cons_succ, i64_w, i32_w]
                                rfl
                              refine pure_ (i := 6) (N := some 76) (v := ?_) (a' := ?_) #[true, true, true, true, false, true, true, false, false, false, false] rfl rfl (any_of HT_.out (by kernel_rfl)) (fun _ _ _ h => h) (Or.inl ⟨by rfl, ?_⟩) ?_ ?_
                              rotate_left
                              · intro w'
                                go_simp
                                with_reducible rfl
                              rotate_left
                              · simp only [Act.put, List.setIfInBounds_toArray, List.set_cons_zero, List.set_cons_succ, i64_w, i32_w]
                                rfl
                              refine pure_ (i := 7) (N := some 77) (v := ?_) (a' := ?_) #[true, true, true, true, false, true, true, true, false, false, false] rfl rfl (any_of HT_.out (by kernel_rfl)) (fun _ _ _ h => h) (Or.inl ⟨by rfl, ?_⟩) ?_ ?_
                              rotate_left
                              · intro w'
                                go_simp
                                with_reducible rfl
                              rotate_left
                              · simp only [Act.put, List.setIfInBounds_toArray, List.set_cons_zero, List.set_cons_succ, i64_w, i32_w]
                                rfl
                              refine take_ (i := 4) (N := some 74) (v := ?_) (a' := ?_) #[true, true, true, true, true, true, true, true, false, false, false] rfl rfl (take_ofW HT_.out HW_.out (by kernel_rfl)) (fun _ _ _ h => h) (Or.inl ⟨by rfl, ?_⟩) hHeld ?_ ?_
                              rotate_left
                              · rintro w' ⟨s0, s1⟩
                                go_simp
                                with_reducible rfl
                              rotate_left
                              · simp only [Act.put, List.setIfInBounds_toArray, List.set_cons_zero, List.set_cons_succ, i64_w, i32_w]
                                rfl
                              refine take_ (i := 8) (N := some 78) (v := ?_) (a' := ?_) #[true, true, true, true, true, true, true, true, true, false, false] rfl rfl (take_ofW HT_.out HW_.out (by kernel_rfl)) (fun _ _ _ h => h) (Or.inl ⟨by rfl, ?_⟩) hHeld ?_ ?_
                              rotate_left
                              · rintro w' ⟨s0, s1⟩
                                go_simp
                                with_reducible rfl
                              rotate_left
                              · simp only [Act.put, List.setIfInBounds_toArray, List.set_cons_zero, List.set_cons_succ, i64_w, i32_w]
                                rfl
                              refine pure_ (i := 9) (N := some 79) (v := ?_) (a' := ?_) #[true, true, true, true, true, true, true, true, true, true, false] rfl rfl (any_of HT_.out (by kernel_rfl)) (fun _ _ _ h => h) (Or.inl ⟨by rfl, ?_⟩) ?_ ?_
                              rotate_left
                              · intro w'
                                go_simp
                                with_reducible rfl
                              rotate_left
                              · simp only [Act.put, List.setIfInBounds_toArray, List.set_cons_zero, List.set_cons_succ, i64_w, i32_w]
                                rfl
                              refine pure_ (i := 10) (N := some 16) (v := ?_) (a' := ?_) #[true, true, true, true, true, true, true, true, true, true, true] rfl rfl (any_of HT_.out (by kernel_rfl)) (fun _ _ _ h => h) (Or.inl ⟨by rfl, ?_⟩) ?_ ?_
                              rotate_left
                              · intro w'
                                go_simp
                                with_reducible rfl
                              rotate_left
                              · simp only [Act.put, List.setIfInBounds_toArray, List.set_cons_zero, List.set_cons_succ, i64_w, i32_w]
                                rfl
                              refine done_ (done_of HT_.out (by kernel_rfl)) ?_
                              go_upto_region 23 with (fail)
                              go_cut [112] (fun v112 wc => ∃ (kq : Nat) (x112_41 : Bool), v112 = .bool x112_41 ∧ Aside0 (stanzalaw13_SpanTabs.j3 kq (wrap64 (1 + (wrap64 (Int.tmod a1 64)))) t302 t295 (t295.length : Int) x65_2 x112_41 = some r) ∧ Aside0 (kq ≤ k2) ∧ Aside0 (Kd.R (Kd.int .i64) 3 wc w.heap.size (fun _ => True) (.slice (some ad307) t302.length co33) t302) ∧ Aside0 (Kd.R k41 41 wc w.heap.size (fun k_ => k_ ≠ gb306) (.slice (some ad305) t295.length co27) t295) ∧ Aside0 (Kd.R k41 41 wc w.heap.size (fun k_ => k_ ≠ gb306) (.slice (some ad305) t295.length co27) t295) ∧ Aside0 (Kd.R (Kd.int .u8) 46 wc w.heap.size (fun _ => True) (.slice Ao29 t298.length co29) t298) ∧ Aside0 (wc.heap[gb301]? = some (.cells #[(.slice (some ad305) t295.length co27), (.slice Ao29 t298.length co29)] 35 (0, 0))) ∧ Aside0 (wc.heap[gb306]? = some (.cells #[.int .i64 ((rd_T41 t295 x65_2).f0), .int .i64 ((rd_T41 t295 x65_2).f1), .int .i64 ((rd_T41 t295 x65_2).f2), .int .u8 ((rd_T41 t295 x65_2).f3)] 41 (0, 0))) ∧ Aside0 (Below w.heap.size w wc))
                              case first =>
                                have H := HC42.out
                                clear HC42
                                by_cases c48 : ((rd_T41 t295 x65_2).f3) = 2
                                · rw [if_pos c48] at H
                                  have c48b0 : (((rd_T41 t295 x65_2).f3) == 2) = true := beq_iff_eq.mpr c48
                                  have c48b1 : (((rd_T41 t295 x65_2).f3) != 2) = false := bne_eq_false_iff_eq.mpr c48
                                  clear c48
                                  (first | rw [c48b0] | (simp only [i64_w, i32_w]; rw [c48b0]) | skip)
                                  by_cases c49 : (wrap64 (1 + (wrap64 (Int.tmod a1 64)))) = 0
                                  · rw [if_pos c49] at H
                                    exact absurd H (by simp)
                                  · rw [if_neg c49] at H
                                    have c49b0 : ((wrap64 (1 + (wrap64 (Int.tmod a1 64)))) == 0) = false := beq_eq_false_iff_ne.mpr c49
                                    have c49b1 : ((wrap64 (1 + (wrap64 (Int.tmod a1 64)))) != 0) = true := bne_iff_ne.mpr c49
                                    by_cases c50 : (Int.tmod (rd t302 (ji38)) (wrap64 (1 + (wrap64 (Int.tmod a1 64))))) = 0
                                    · rw [if_pos c50] at H
                                      have c50b0 : ((Int.tmod (rd t302 (ji38)) (wrap64 (1 + (wrap64 (Int.tmod a1 64))))) == 0) = true := beq_iff_eq.mpr c50
                                      have c50b1 : ((Int.tmod (rd t302 (ji38)) (wrap64 (1 + (wrap64 (Int.tmod a1 64))))) != 0) = false := bne_eq_false_iff_eq.mpr c50
                                      clear c50
                                      by_cases c51 : (wrap64 ((rd t302 (ji38)) - (rd t302 x65_2))) < 1
                                      · rw [if_pos c51] at H
                                        have c51b0 : decide ((wrap64 ((rd t302 (ji38)) - (rd t302 x65_2))) < 1) = true := decide_eq_true c51
                                        clear c51
                                        have H' := Aside0.mk H
                                        clear H
                                        have hnb52 := NB306_301.out
                                        have hnc52 := NB301_306.out
                                        have hcz53_0 : w47.cell? ⟨gb306, 0, none⟩ = some (.int .i64 ((rd_T41 t295 x65_2).f0)) := (blk_cell BK306.out 0).trans rfl
                                        have hcz53_1 : w47.cell? ⟨gb306, 1, none⟩ = some (.int .i64 ((rd_T41 t295 x65_2).f1)) := (blk_cell BK306.out 1).trans rfl
                                        have hcz53_2 : w47.cell? ⟨gb306, 2, none⟩ = some (.int .i64 ((rd_T41 t295 x65_2).f2)) := (blk_cell BK306.out 2).trans rfl
                                        have hcz53_3 : w47.cell? ⟨gb306, 3, none⟩ = some (.int .u8 ((rd_T41 t295 x65_2).f3)) := (blk_cell BK306.out 3).trans rfl
                                        have hfz53_0 := blk_frozen BK306.out 0
                                        have hfz53_1 := blk_frozen BK306.out 1
                                        have hfz53_2 := blk_frozen BK306.out 2
                                        have hfz53_3 := blk_frozen BK306.out 3
                                        have p309 : 0 ≤ ((ji38) : Int) := of_decide_eq_true (by first | (with_reducible assumption) | assumption)
                                        have q309 : (ji38) < (t302.length : Int) := of_decide_eq_true (by first | (with_reducible assumption) | assumption)
                                        obtain ⟨ad309, e309, hx309_0⟩ := Kd.at_int (Kd.R_reads' HO_13.out).2.2 (ji38) p309 q309
                                        obtain rfl : ad307 = ad309 := (by injection e309)
                                        replace p309 := eq_true p309
                                        replace q309 := eq_true q309
                                        go_wp2
                                        go_meet
                                        case rel => exact ⟨_, (true), (by first | rfl | (simp; done) | (simp [*]; done)), H', ⟨by have := HK1.out; have := HK2.out; first | omega | exact Nat.le_refl _⟩, ⟨by (with_reducible repeat (first | apply Kd.R_alloc | apply Kd.R_drewN | apply Kd.R_drew)); exact HO_13.out⟩, ⟨by (with_reducible repeat (first | apply Kd.R_alloc | apply Kd.R_drewN | apply Kd.R_drew)); exact HO_63.out⟩, ⟨by (with_reducible repeat (first | apply Kd.R_alloc | apply Kd.R_drewN | apply Kd.R_drew)); exact HO_302000.out⟩, ⟨by (with_reducible repeat (first | apply Kd.R_alloc | apply Kd.R_drewN | apply Kd.R_drew)); exact HO_302001.out⟩, ⟨by (with_reducible repeat (first | refine blk_drewN ?_ _ | refine blk_drew ?_ | refine blk_alloc ?_ _)); exact BK301.out⟩, ⟨by (with_reducible repeat (first | refine blk_drewN ?_ _ | refine blk_drew ?_ | refine blk_alloc ?_ _)); exact BK306.out⟩, ⟨by repeat (first | (with_reducible first | exact HB.out | apply below_alloc | apply pw_below_drewN | apply below_drew1 | refine below_set ?_ GE301.out | refine below_set ?_ GE306.out) | exact HB.out)⟩⟩
                                      · rw [if_neg c51] at H
                                        have c51b0 : decide ((wrap64 ((rd t302 (ji38)) - (rd t302 x65_2))) < 1) = false := decide_eq_false c51
                                        clear c51
                                        by_cases c54 : (wrap64 ((rd t302 (ji38)) - (rd t302 x65_2))) > (wrap64 (1 + (wrap64 (Int.tmod a1 64))))
                                        · rw [if_pos c54] at H
                                          have c54b0 : decide ((wrap64 (1 + (wrap64 (Int.tmod a1 64)))) < (wrap64 ((rd t302 (ji38)) - (rd t302 x65_2)))) = true := decide_eq_true c54
                                          clear c54
                                          have H' := Aside0.mk H
                                          clear H
                                          have hnb55 := NB306_301.out
                                          have hnc55 := NB301_306.out
                                          have hcz56_0 : w47.cell? ⟨gb306, 0, none⟩ = some (.int .i64 ((rd_T41 t295 x65_2).f0)) := (blk_cell BK306.out 0).trans rfl
                                          have hcz56_1 : w47.cell? ⟨gb306, 1, none⟩ = some (.int .i64 ((rd_T41 t295 x65_2).f1)) := (blk_cell BK306.out 1).trans rfl
                                          have hcz56_2 : w47.cell? ⟨gb306, 2, none⟩ = some (.int .i64 ((rd_T41 t295 x65_2).f2)) := (blk_cell BK306.out 2).trans rfl
                                          have hcz56_3 : w47.cell? ⟨gb306, 3, none⟩ = some (.int .u8 ((rd_T41 t295 x65_2).f3)) := (blk_cell BK306.out 3).trans rfl
                                          have hfz56_0 := blk_frozen BK306.out 0
                                          have hfz56_1 := blk_frozen BK306.out 1
                                          have hfz56_2 := blk_frozen BK306.out 2
                                          have hfz56_3 := blk_frozen BK306.out 3
                                          have p309 : 0 ≤ ((ji38) : Int) := of_decide_eq_true (by first | (with_reducible assumption) | assumption)
                                          have q309 : (ji38) < (t302.length : Int) := of_decide_eq_true (by first | (with_reducible assumption) | assumption)
                                          obtain ⟨ad309, e309, hx309_0⟩ := Kd.at_int (Kd.R_reads' HO_13.out).2.2 (ji38) p309 q309
                                          obtain rfl : ad307 = ad309 := (by injection e309)
                                          replace p309 := eq_true p309
                                          replace q309 := eq_true q309
                                          go_wp2
                                          go_meet
                                          case rel => exact ⟨_, (true), (by first | rfl | (simp; done) | (simp [*]; done)), H', ⟨by have := HK1.out; have := HK2.out; first | omega | exact Nat.le_refl _⟩, ⟨by (with_reducible repeat (first | apply Kd.R_alloc | apply Kd.R_drewN | apply Kd.R_drew)); exact HO_13.out⟩, ⟨by (with_reducible repeat (first | apply Kd.R_alloc | apply Kd.R_drewN | apply Kd.R_drew)); exact HO_63.out⟩, ⟨by (with_reducible repeat (first | apply Kd.R_alloc | apply Kd.R_drewN | apply Kd.R_drew)); exact HO_302000.out⟩, ⟨by (with_reducible repeat (first | apply Kd.R_alloc | apply Kd.R_drewN | apply Kd.R_drew)); exact HO_302001.out⟩, ⟨by (with_reducible repeat (first | refine blk_drewN ?_ _ | refine blk_drew ?_ | refine blk_alloc ?_ _)); exact BK301.out⟩, ⟨by (with_reducible repeat (first | refine blk_drewN ?_ _ | refine blk_drew ?_ | refine blk_alloc ?_ _)); exact BK306.out⟩, ⟨by repeat (first | (with_reducible first | exact HB.out | apply below_alloc | apply pw_below_drewN | apply below_drew1 | refine below_set ?_ GE301.out | refine below_set ?_ GE306.out) | exact HB.out)⟩⟩
                                        · rw [if_neg c54] at H
                                          have c54b0 : decide ((wrap64 (1 + (wrap64 (Int.tmod a1 64)))) < (wrap64 ((rd t302 (ji38)) - (rd t302 x65_2)))) = false := decide_eq_false c54
                                          clear c54
                                          by_cases c57 : ((rd_T41 t295 x65_2).f3) = 0
                                          · rw [if_pos c57] at H
                                            have c57b0 : (((rd_T41 t295 x65_2).f3) == 0) = true := beq_iff_eq.mpr c57
                                            have c57b1 : (((rd_T41 t295 x65_2).f3) != 0) = false := bne_eq_false_iff_eq.mpr c57
                                            clear c57
                                            have H' := Aside0.mk H
                                            clear H
                                            have hnb58 := NB306_301.out
                                            have hnc58 := NB301_306.out
                                            have hcz59_0 : w47.cell? ⟨gb306, 0, none⟩ = some (.int .i64 ((rd_T41 t295 x65_2).f0)) := (blk_cell BK306.out 0).trans rfl
                                            have hcz59_1 : w47.cell? ⟨gb306, 1, none⟩ = some (.int .i64 ((rd_T41 t295 x65_2).f1)) := (blk_cell BK306.out 1).trans rfl
                                            have hcz59_2 : w47.cell? ⟨gb306, 2, none⟩ = some (.int .i64 ((rd_T41 t295 x65_2).f2)) := (blk_cell BK306.out 2).trans rfl
                                            have hcz59_3 : w47.cell? ⟨gb306, 3, none⟩ = some (.int .u8 ((rd_T41 t295 x65_2).f3)) := (blk_cell BK306.out 3).trans rfl
                                            have hfz59_0 := blk_frozen BK306.out 0
                                            have hfz59_1 := blk_frozen BK306.out 1
                                            have hfz59_2 := blk_frozen BK306.out 2
                                            have hfz59_3 := blk_frozen BK306.out 3
                                            have p309 : 0 ≤ ((ji38) : Int) := of_decide_eq_true (by first | (with_reducible assumption) | assumption)
                                            have q309 : (ji38) < (t302.length : Int) := of_decide_eq_true (by first | (with_reducible assumption) | assumption)
                                            obtain ⟨ad309, e309, hx309_0⟩ := Kd.at_int (Kd.R_reads' HO_13.out).2.2 (ji38) p309 q309
                                            obtain rfl : ad307 = ad309 := (by injection e309)
                                            replace p309 := eq_true p309
                                            replace q309 := eq_true q309
                                            go_wp2
                                            go_meet
                                            case rel => exact ⟨_, (((wrap64 ((rd t302 (ji38)) - (rd t302 x65_2))) != ((rd_T41 t295 x65_2).f2))), (by first | rfl | (simp; done) | (simp only [← hji38] <;> (first | rfl | simp)) | (simp [*]; done)), H', ⟨by have := HK1.out; have := HK2.out; first | omega | exact Nat.le_refl _⟩, ⟨by (with_reducible repeat (first | apply Kd.R_alloc | apply Kd.R_drewN | apply Kd.R_drew)); exact HO_13.out⟩, ⟨by (with_reducible repeat (first | apply Kd.R_alloc | apply Kd.R_drewN | apply Kd.R_drew)); exact HO_63.out⟩, ⟨by (with_reducible repeat (first | apply Kd.R_alloc | apply Kd.R_drewN | apply Kd.R_drew)); exact HO_302000.out⟩, ⟨by (with_reducible repeat (first | apply Kd.R_alloc | apply Kd.R_drewN | apply Kd.R_drew)); exact HO_302001.out⟩, ⟨by (with_reducible repeat (first | refine blk_drewN ?_ _ | refine blk_drew ?_ | refine blk_alloc ?_ _)); exact BK301.out⟩, ⟨by (with_reducible repeat (first | refine blk_drewN ?_ _ | refine blk_drew ?_ | refine blk_alloc ?_ _)); exact BK306.out⟩, ⟨by repeat (first | (with_reducible first | exact HB.out | apply below_alloc | apply pw_below_drewN | apply below_drew1 | refine below_set ?_ GE301.out | refine below_set ?_ GE306.out) | exact HB.out)⟩⟩
                                          · rw [if_neg c57] at H
                                            have c57b0 : (((rd_T41 t295 x65_2).f3) == 0) = false := beq_eq_false_iff_ne.mpr c57
                                            have c57b1 : (((rd_T41 t295 x65_2).f3) != 0) = true := bne_iff_ne.mpr c57
                                            have H' := Aside0.mk H
                                            clear H
                                            have hnb60 := NB306_301.out
                                            have hnc60 := NB301_306.out
                                            have hcz61_0 : w47.cell? ⟨gb306, 0, none⟩ = some (.int .i64 ((rd_T41 t295 x65_2).f0)) := (blk_cell BK306.out 0).trans rfl
                                            have hcz61_1 : w47.cell? ⟨gb306, 1, none⟩ = some (.int .i64 ((rd_T41 t295 x65_2).f1)) := (blk_cell BK306.out 1).trans rfl
                                            have hcz61_2 : w47.cell? ⟨gb306, 2, none⟩ = some (.int .i64 ((rd_T41 t295 x65_2).f2)) := (blk_cell BK306.out 2).trans rfl
                                            have hcz61_3 : w47.cell? ⟨gb306, 3, none⟩ = some (.int .u8 ((rd_T41 t295 x65_2).f3)) := (blk_cell BK306.out 3).trans rfl
                                            have hfz61_0 := blk_frozen BK306.out 0
                                            have hfz61_1 := blk_frozen BK306.out 1
                                            have hfz61_2 := blk_frozen BK306.out 2
                                            have hfz61_3 := blk_frozen BK306.out 3
                                            have p309 : 0 ≤ ((ji38) : Int) := of_decide_eq_true (by first | (with_reducible assumption) | assumption)
                                            have q309 : (ji38) < (t302.length : Int) := of_decide_eq_true (by first | (with_reducible assumption) | assumption)
                                            obtain ⟨ad309, e309, hx309_0⟩ := Kd.at_int (Kd.R_reads' HO_13.out).2.2 (ji38) p309 q309
                                            obtain rfl : ad307 = ad309 := (by injection e309)
                                            replace p309 := eq_true p309
                                            replace q309 := eq_true q309
                                            go_wp2
                                            go_meet
                                            case rel => exact ⟨_, (false), (by first | rfl | (simp; done) | (simp [*]; done)), H', ⟨by have := HK1.out; have := HK2.out; first | omega | exact Nat.le_refl _⟩, ⟨by (with_reducible repeat (first | apply Kd.R_alloc | apply Kd.R_drewN | apply Kd.R_drew)); exact HO_13.out⟩, ⟨by (with_reducible repeat (first | apply Kd.R_alloc | apply Kd.R_drewN | apply Kd.R_drew)); exact HO_63.out⟩, ⟨by (with_reducible repeat (first | apply Kd.R_alloc | apply Kd.R_drewN | apply Kd.R_drew)); exact HO_302000.out⟩, ⟨by (with_reducible repeat (first | apply Kd.R_alloc | apply Kd.R_drewN | apply Kd.R_drew)); exact HO_302001.out⟩, ⟨by (with_reducible repeat (first | refine blk_drewN ?_ _ | refine blk_drew ?_ | refine blk_alloc ?_ _)); exact BK301.out⟩, ⟨by (with_reducible repeat (first | refine blk_drewN ?_ _ | refine blk_drew ?_ | refine blk_alloc ?_ _)); exact BK306.out⟩, ⟨by repeat (first | (with_reducible first | exact HB.out | apply below_alloc | apply pw_below_drewN | apply below_drew1 | refine below_set ?_ GE301.out | refine below_set ?_ GE306.out) | exact HB.out)⟩⟩
                                    · rw [if_neg c50] at H
                                      have c50b0 : ((Int.tmod (rd t302 (ji38)) (wrap64 (1 + (wrap64 (Int.tmod a1 64))))) == 0) = false := beq_eq_false_iff_ne.mpr c50
                                      have c50b1 : ((Int.tmod (rd t302 (ji38)) (wrap64 (1 + (wrap64 (Int.tmod a1 64))))) != 0) = true := bne_iff_ne.mpr c50
                                      have H' := Aside0.mk H
                                      clear H
                                      have hnb62 := NB306_301.out
                                      have hnc62 := NB301_306.out
                                      have hcz63_0 : w47.cell? ⟨gb306, 0, none⟩ = some (.int .i64 ((rd_T41 t295 x65_2).f0)) := (blk_cell BK306.out 0).trans rfl
                                      have hcz63_1 : w47.cell? ⟨gb306, 1, none⟩ = some (.int .i64 ((rd_T41 t295 x65_2).f1)) := (blk_cell BK306.out 1).trans rfl
                                      have hcz63_2 : w47.cell? ⟨gb306, 2, none⟩ = some (.int .i64 ((rd_T41 t295 x65_2).f2)) := (blk_cell BK306.out 2).trans rfl
                                      have hcz63_3 : w47.cell? ⟨gb306, 3, none⟩ = some (.int .u8 ((rd_T41 t295 x65_2).f3)) := (blk_cell BK306.out 3).trans rfl
                                      have hfz63_0 := blk_frozen BK306.out 0
                                      have hfz63_1 := blk_frozen BK306.out 1
                                      have hfz63_2 := blk_frozen BK306.out 2
                                      have hfz63_3 := blk_frozen BK306.out 3
                                      have p309 : 0 ≤ ((ji38) : Int) := of_decide_eq_true (by first | (with_reducible assumption) | assumption)
                                      have q309 : (ji38) < (t302.length : Int) := of_decide_eq_true (by first | (with_reducible assumption) | assumption)
                                      obtain ⟨ad309, e309, hx309_0⟩ := Kd.at_int (Kd.R_reads' HO_13.out).2.2 (ji38) p309 q309
                                      obtain rfl : ad307 = ad309 := (by injection e309)
                                      replace p309 := eq_true p309
                                      replace q309 := eq_true q309
                                      go_wp2
                                      go_meet
                                      case rel => exact ⟨_, (true), (by first | rfl | (simp; done) | (simp [*]; done)), H', ⟨by have := HK1.out; have := HK2.out; first | omega | exact Nat.le_refl _⟩, ⟨by (with_reducible repeat (first | apply Kd.R_alloc | apply Kd.R_drewN | apply Kd.R_drew)); exact HO_13.out⟩, ⟨by (with_reducible repeat (first | apply Kd.R_alloc | apply Kd.R_drewN | apply Kd.R_drew)); exact HO_63.out⟩, ⟨by (with_reducible repeat (first | apply Kd.R_alloc | apply Kd.R_drewN | apply Kd.R_drew)); exact HO_302000.out⟩, ⟨by (with_reducible repeat (first | apply Kd.R_alloc | apply Kd.R_drewN | apply Kd.R_drew)); exact HO_302001.out⟩, ⟨by (with_reducible repeat (first | refine blk_drewN ?_ _ | refine blk_drew ?_ | refine blk_alloc ?_ _)); exact BK301.out⟩, ⟨by (with_reducible repeat (first | refine blk_drewN ?_ _ | refine blk_drew ?_ | refine blk_alloc ?_ _)); exact BK306.out⟩, ⟨by repeat (first | (with_reducible first | exact HB.out | apply below_alloc | apply pw_below_drewN | apply below_drew1 | refine below_set ?_ GE301.out | refine below_set ?_ GE306.out) | exact HB.out)⟩⟩
                                · rw [if_neg c48] at H
                                  have c48b0 : (((rd_T41 t295 x65_2).f3) == 2) = false := beq_eq_false_iff_ne.mpr c48
                                  have c48b1 : (((rd_T41 t295 x65_2).f3) != 2) = true := bne_iff_ne.mpr c48
                                  (first | rw [c48b0] | (simp only [i64_w, i32_w]; rw [c48b0]) | skip)
                                  by_cases c64 : ((rd_T41 t295 x65_2).f3) = 0
                                  · rw [if_pos c64] at H
                                    have c64b0 : (((rd_T41 t295 x65_2).f3) == 0) = true := beq_iff_eq.mpr c64
                                    have c64b1 : (((rd_T41 t295 x65_2).f3) != 0) = false := bne_eq_false_iff_eq.mpr c64
                                    clear c64
                                    have H' := Aside0.mk H
                                    clear H
                                    have hnb65 := NB306_301.out
                                    have hnc65 := NB301_306.out
                                    have hcz66_0 : w47.cell? ⟨gb306, 0, none⟩ = some (.int .i64 ((rd_T41 t295 x65_2).f0)) := (blk_cell BK306.out 0).trans rfl
                                    have hcz66_1 : w47.cell? ⟨gb306, 1, none⟩ = some (.int .i64 ((rd_T41 t295 x65_2).f1)) := (blk_cell BK306.out 1).trans rfl
                                    have hcz66_2 : w47.cell? ⟨gb306, 2, none⟩ = some (.int .i64 ((rd_T41 t295 x65_2).f2)) := (blk_cell BK306.out 2).trans rfl
                                    have hcz66_3 : w47.cell? ⟨gb306, 3, none⟩ = some (.int .u8 ((rd_T41 t295 x65_2).f3)) := (blk_cell BK306.out 3).trans rfl
                                    have hfz66_0 := blk_frozen BK306.out 0
                                    have hfz66_1 := blk_frozen BK306.out 1
                                    have hfz66_2 := blk_frozen BK306.out 2
                                    have hfz66_3 := blk_frozen BK306.out 3
                                    go_wp2
                                    go_meet
                                    case rel => exact ⟨_, (((wrap64 ((rd t302 (ji38)) - (rd t302 x65_2))) != ((rd_T41 t295 x65_2).f2))), (by first | rfl | (simp; done) | (simp only [← hji38] <;> (first | rfl | simp)) | (simp [*]; done)), H', ⟨by have := HK1.out; have := HK2.out; first | omega | exact Nat.le_refl _⟩, ⟨by (with_reducible repeat (first | apply Kd.R_alloc | apply Kd.R_drewN | apply Kd.R_drew)); exact HO_13.out⟩, ⟨by (with_reducible repeat (first | apply Kd.R_alloc | apply Kd.R_drewN | apply Kd.R_drew)); exact HO_63.out⟩, ⟨by (with_reducible repeat (first | apply Kd.R_alloc | apply Kd.R_drewN | apply Kd.R_drew)); exact HO_302000.out⟩, ⟨by (with_reducible repeat (first | apply Kd.R_alloc | apply Kd.R_drewN | apply Kd.R_drew)); exact HO_302001.out⟩, ⟨by (with_reducible repeat (first | refine blk_drewN ?_ _ | refine blk_drew ?_ | refine blk_alloc ?_ _)); exact BK301.out⟩, ⟨by (with_reducible repeat (first | refine blk_drewN ?_ _ | refine blk_drew ?_ | refine blk_alloc ?_ _)); exact BK306.out⟩, ⟨by repeat (first | (with_reducible first | exact HB.out | apply below_alloc | apply pw_below_drewN | apply below_drew1 | refine below_set ?_ GE301.out | refine below_set ?_ GE306.out) | exact HB.out)⟩⟩
                                  · rw [if_neg c64] at H
                                    have c64b0 : (((rd_T41 t295 x65_2).f3) == 0) = false := beq_eq_false_iff_ne.mpr c64
                                    have c64b1 : (((rd_T41 t295 x65_2).f3) != 0) = true := bne_iff_ne.mpr c64
                                    have H' := Aside0.mk H
                                    clear H
                                    have hnb67 := NB306_301.out
                                    have hnc67 := NB301_306.out
                                    have hcz68_0 : w47.cell? ⟨gb306, 0, none⟩ = some (.int .i64 ((rd_T41 t295 x65_2).f0)) := (blk_cell BK306.out 0).trans rfl
                                    have hcz68_1 : w47.cell? ⟨gb306, 1, none⟩ = some (.int .i64 ((rd_T41 t295 x65_2).f1)) := (blk_cell BK306.out 1).trans rfl
                                    have hcz68_2 : w47.cell? ⟨gb306, 2, none⟩ = some (.int .i64 ((rd_T41 t295 x65_2).f2)) := (blk_cell BK306.out 2).trans rfl
                                    have hcz68_3 : w47.cell? ⟨gb306, 3, none⟩ = some (.int .u8 ((rd_T41 t295 x65_2).f3)) := (blk_cell BK306.out 3).trans rfl
                                    have hfz68_0 := blk_frozen BK306.out 0
                                    have hfz68_1 := blk_frozen BK306.out 1
                                    have hfz68_2 := blk_frozen BK306.out 2
                                    have hfz68_3 := blk_frozen BK306.out 3
                                    go_wp2
                                    go_meet
                                    case rel => exact ⟨_, (false), (by first | rfl | (simp; done) | (simp [*]; done)), H', ⟨by have := HK1.out; have := HK2.out; first | omega | exact Nat.le_refl _⟩, ⟨by (with_reducible repeat (first | apply Kd.R_alloc | apply Kd.R_drewN | apply Kd.R_drew)); exact HO_13.out⟩, ⟨by (with_reducible repeat (first | apply Kd.R_alloc | apply Kd.R_drewN | apply Kd.R_drew)); exact HO_63.out⟩, ⟨by (with_reducible repeat (first | apply Kd.R_alloc | apply Kd.R_drewN | apply Kd.R_drew)); exact HO_302000.out⟩, ⟨by (with_reducible repeat (first | apply Kd.R_alloc | apply Kd.R_drewN | apply Kd.R_drew)); exact HO_302001.out⟩, ⟨by (with_reducible repeat (first | refine blk_drewN ?_ _ | refine blk_drew ?_ | refine blk_alloc ?_ _)); exact BK301.out⟩, ⟨by (with_reducible repeat (first | refine blk_drewN ?_ _ | refine blk_drew ?_ | refine blk_alloc ?_ _)); exact BK306.out⟩, ⟨by repeat (first | (with_reducible first | exact HB.out | apply below_alloc | apply pw_below_drewN | apply below_drew1 | refine below_set ?_ GE301.out | refine below_set ?_ GE306.out) | exact HB.out)⟩⟩
                              case rest =>
                                clear HC42
                                try clear c1
                                try clear c2
                                try clear p2
                                try clear q2
                                try clear hx2
                                try clear c3
                                try clear p3
                                try clear q3
                                try clear hx3
                                try clear c4
                                try clear c5
                                try clear c6
                                try clear c6b0
                                try clear c6b1
                                try clear p6
                                try clear c9
                                try clear c9b0
                                try clear c10
                                try clear c10b0
                                try clear c11
                                try clear c11b0
                                try clear c16
                                try clear c16b0
                                try clear c16b1
                                try clear c18
                                try clear c19
                                try clear c23
                                try clear c23b0
                                try clear c23b1
                                try clear p29
                                try clear q29
                                try clear hx29
                                try clear p30
                                try clear q30
                                try clear hx30
                                try clear c35
                                try clear c35b0
                                try clear c36
                                try clear c36b0
                                try clear c37
                                try clear c37b0
                                try clear c39
                                try clear c39b0
                                try clear c40
                                try clear c40b0
                                try clear c41
                                try clear c41b0
                                try clear c44
                                try clear c48
                                try clear c48b0
                                try clear c48b1
                                try clear c49
                                try clear c49b0
                                try clear c49b1
                                try clear c50
                                try clear c50b0
                                try clear c50b1
                                try clear c51
                                try clear c51b0
                                try clear c52
                                try clear c54
                                try clear c54b0
                                try clear c55
                                try clear c57
                                try clear c57b0
                                try clear c57b1
                                try clear c58
                                try clear c60
                                try clear c62
                                try clear c64
                                try clear c64b0
                                try clear c64b1
                                try clear p64
                                try clear c65
                                try clear c67
                                try clear hcz14_0
                                try clear hcz14_1
                                try clear hcz14_2
                                try clear hcz14_3
                                try clear hcz17_0
                                try clear hcz17_1
                                try clear hcz17_2
                                try clear hcz17_3
                                try clear hcz19_0
                                try clear hcz19_1
                                try clear hcz19_2
                                try clear hcz19_3
                                try clear hcz28_0
                                try clear hcz28_1
                                try clear hcz31_0
                                try clear hcz31_1
                                try clear hcz34_0
                                try clear hcz34_1
                                try clear hcz45_0
                                try clear hcz45_1
                                try clear hcz45_2
                                try clear hcz45_3
                                try clear hcz53_0
                                try clear hcz53_1
                                try clear hcz53_2
                                try clear hcz53_3
                                try clear hcz56_0
                                try clear hcz56_1
                                try clear hcz56_2
                                try clear hcz56_3
                                try clear hcz59_0
                                try clear hcz59_1
                                try clear hcz59_2
                                try clear hcz59_3
                                try clear hcz61_0
                                try clear hcz61_1
                                try clear hcz61_2
                                try clear hcz61_3
                                try clear hcz63_0
                                try clear hcz63_1
                                try clear hcz63_2
                                try clear hcz63_3
                                try clear hcz66_0
                                try clear hcz66_1
                                try clear hcz66_2
                                try clear hcz66_3
                                try clear hcz68_0
                                try clear hcz68_1
                                try clear hcz68_2
                                try clear hcz68_3
                                try clear hfz14_0
                                try clear hfz14_1
                                try clear hfz14_2
                                try clear hfz14_3
                                try clear hfz17_0
                                try clear hfz17_1
                                try clear hfz17_2
                                try clear hfz17_3
                                try clear hfz19_0
                                try clear hfz19_1
                                try clear hfz19_2
                                try clear hfz19_3
                                try clear hfz28_0
                                try clear hfz28_1
                                try clear hfz31_0
                                try clear hfz31_1
                                try clear hfz34_0
                                try clear hfz34_1
                                try clear hfz45_0
                                try clear hfz45_1
                                try clear hfz45_2
                                try clear hfz45_3
                                try clear hfz53_0
                                try clear hfz53_1
                                try clear hfz53_2
                                try clear hfz53_3
                                try clear hfz56_0
                                try clear hfz56_1
                                try clear hfz56_2
                                try clear hfz56_3
                                try clear hfz59_0
                                try clear hfz59_1
                                try clear hfz59_2
                                try clear hfz59_3
                                try clear hfz61_0
                                try clear hfz61_1
                                try clear hfz61_2
                                try clear hfz61_3
                                try clear hfz63_0
                                try clear hfz63_1
                                try clear hfz63_2
                                try clear hfz63_3
                                try clear hfz66_0
                                try clear hfz66_1
                                try clear hfz66_2
                                try clear hfz66_3
                                try clear hfz68_0
                                try clear hfz68_1
                                try clear hfz68_2
                                try clear hfz68_3
                                try clear hx290_0
                                try clear hx305_0
                                try clear hx305_1
                                try clear hx305_2
                                try clear hx305_3
                                try clear hx307_0
                                try clear hx308_0
                                try clear hx309_0
                                try clear p2
                                try clear p29
                                try clear p290
                                try clear p305
                                try clear p307
                                try clear p308
                                try clear p309
                                try clear p6
                                try clear q2
                                try clear q29
                                try clear q290
                                try clear q305
                                try clear q307
                                try clear q308
                                try clear q309
                                obtain ⟨kq, x112_41, rfl, HA, HJ41, HO_13, HO_63, HO_302000, HO_302001, BK301, BK306, HB⟩ := hcut
                                cases kq with
                                | zero => exact absurd HA.out (by simp [stanzalaw13_SpanTabs.j3])
                                | succ kj41 =>
                                  have H := HA.out
                                  clear HA
                                  simp only [stanzalaw13_SpanTabs.j3] at H
                                  by_cases c69 : x112_41 = true
                                  · subst c69
                                    have H1 : (some false) = some r := by rw [if_pos rfl] at H; exact H
                                    clear H
                                    have H := H1
                                    clear H1
                                    exact absurd ((Option.some.inj H).trans hrt_.out) (by decide)
                                  · replace c69 := Bool.eq_false_iff.mpr c69
                                    subst c69
                                    have H1 : (stanzalaw13_SpanTabs.l1 kj41 (wrap64 (1 + (wrap64 (Int.tmod a1 64)))) t302 t295 (t295.length : Int) (wrap64 (x65_2 + 1))) = some r := by rw [if_neg (show ¬ (false = true) by decide)] at H; exact H
                                    clear H
                                    have H := H1
                                    clear H1
                                    have H' := Aside0.mk H
                                    clear H
                                    go_wp2
                                    go_roundg kj41
                                    case measure => have := HK1.out; have := HK2.out; have := HJ41.out; omega
                                    case rel => exact ⟨(wrap64 (x65_2 + 1)), (by first | rfl | (simp; done) | (simp [*]; done)), H', ⟨by have := HK1.out; have := HK2.out; have := HJ41.out; omega⟩, ⟨by (with_reducible repeat (first | apply Kd.R_alloc | apply Kd.R_drewN | apply Kd.R_drew)); exact HO_13.out⟩, ⟨by (with_reducible repeat (first | apply Kd.R_alloc | apply Kd.R_drewN | apply Kd.R_drew)); exact Kd.R_mono HO_63.out (fun _ hk => trivial)⟩, ⟨by (with_reducible repeat (first | apply Kd.R_alloc | apply Kd.R_drewN | apply Kd.R_drew)); exact Kd.R_mono HO_302000.out (fun _ hk => trivial)⟩, ⟨by (with_reducible repeat (first | apply Kd.R_alloc | apply Kd.R_drewN | apply Kd.R_drew)); exact HO_302001.out⟩, ⟨by (with_reducible repeat (first | refine blk_drewN ?_ _ | refine blk_drew ?_ | refine blk_alloc ?_ _)); exact BK301.out⟩, ⟨by repeat (first | (with_reducible first | exact HB.out | apply below_alloc | apply pw_below_drewN | apply below_drew1 | refine below_set ?_ GE301.out | refine below_set ?_ GE306.out) | exact HB.out)⟩⟩
                            · rw [if_neg c41] at H
                              exact absurd H (by simp)
                          · rw [if_neg c40] at H
                            exact absurd H (by simp)
                        · rw [if_neg c39] at H
                          exact absurd H (by simp)
                      · rw [if_neg c37] at H
                        exact absurd H (by simp)
                    · rw [if_neg c36] at H
                      exact absurd H (by simp)
                  · rw [if_neg c35] at H
                    have c35b0 : decide (x65_2 < (t295.length : Int)) = false := decide_eq_false c35
                    clear c35
                    obtain rfl := Option.some.inj H
                    go_wp2
                    go_ret
                    exact ⟨by first | rfl | (simp [errW_none, errW_some] <;> rfl) | (simp [*, errW_none, errW_some] <;> rfl), by repeat (first | (with_reducible first | exact HB.out | apply below_alloc | apply pw_below_drewN | apply below_drew1 | refine below_set ?_ GE301.out) | exact HB.out)⟩
            · rw [if_neg c23] at H
              have c23b0 : ((t302.length : Int) == (wrap64 ((t295.length : Int) + 1))) = false := beq_eq_false_iff_ne.mpr c23
              have c23b1 : ((t302.length : Int) != (wrap64 ((t295.length : Int) + 1))) = true := bne_iff_ne.mpr c23
              exact absurd ((Option.some.inj H).trans hrt_.out) (by decide)
  · replace c5 := Bool.eq_false_iff.mpr c5
    subst c5
    have H1 : (some false) = some r := by rw [if_neg (show ¬ (false = true) by decide)] at H; exact H
    clear H
    have H := H1
    clear H1
    exact absurd ((Option.some.inj H).trans hrt_.out) (by decide)

/-- THE ONE PURE STATEMENT of stanzalaw13_SpanTabs. -/
def stanzalaw13_SpanTabs.Pure : Prop := ∀ (l0 : List Int) (a1 : Int) (a2 : Int), (l0.length * 1 ≤ 140737488351232 ∧ ∀ y0 ∈ l0, (Lit.int .u8 y0).wf = true) → (Lit.int .u8 a1).wf = true → (Lit.int .u8 a2).wf = true → ∃ k, stanzalaw13_SpanTabs.f k l0 a1 a2 = some true

end Go.Proofs.Ytbnoeeflpegcoaa.F
