/- Printed by a program of this session (wip/fork): Lean functions that answer as the Go functions do, and the proofs that the Go code comes to them; no condition but those that each statement tells. -/
import Derived.Test.YtbnoeeflpegcoaaF0
import Derived.Test.YtbnoeeflpegcoaaF3
import Derived.Test.YtbnoeeflpegcoaaF4
namespace Go.Proofs.Ytbnoeeflpegcoaa.F
open Go.RowKit Go.Proofs.YtbnoeeflpegcoaaW.PrintWords Go.Proofs.YtbnoeeflpegcoaaW.PrintLast Go.Proofs.YtbnoeeflpegcoaaW.PrintMore
attribute [local go_sem] max2_int min2_int max_two min_two max_three min_three max_four min_four   -- for this text's walks alone
set_option linter.unusedVariables false
set_option linter.unusedSimpArgs false

/-! ### stanzalaw18_JustEven: function 4 -/
mutual
def stanzalaw18_JustEven.l0 : Nat → Int → Int → List Int → Int → Int → Int → List Int → Int → Int → Option (Bool)
  | 0, _, _, _, _, _, _, _, _, _ => none
  | k + 1, x5, x6, x7, x8, x9, x10, x28, x29, x30 => if x30 < x29 then (if 0 ≤ x30 then (if x30 < (x28.length : Int) then (stanzalaw18_JustEven.l0 k x5 x6 x7 (wrap64 (x8 + (rd x28 x30))) (mn x9 (rd x28 x30)) (mx x10 (rd x28 x30)) x28 x29 (wrap64 (x30 + 1))) else (none)) else (none)) else (if (x7.length : Int) = x6 then (if x8 = x5 then (if (wrap64 (x10 - x9)) > 1 then (stanzalaw18_JustEven.j1 k x5 x6 x10 true) else (if x6 = 0 then (none) else (stanzalaw18_JustEven.j1 k x5 x6 x10 (x9 != (wrap64 (Int.tdiv x5 x6)))))) else (stanzalaw18_JustEven.j1 k x5 x6 x10 true)) else (stanzalaw18_JustEven.j1 k x5 x6 x10 true))
def stanzalaw18_JustEven.j1 : Nat → Int → Int → Int → Bool → Option (Bool)
  | 0, _, _, _, _ => none
  | k + 1, x5, x6, x10, x65 => if x65 = true then (some false) else ((just_Spread.f k x5 (mn (wrap64 (x6 + 1)) 4096)).bind fun t136 => (stanzalaw18_JustEven.l1 k x10 t136 (t136.length : Int) 0))
def stanzalaw18_JustEven.l1 : Nat → Int → List Int → Int → Int → Option (Bool)
  | 0, _, _, _, _ => none
  | k + 1, x10, x71, x72, x73 => if x73 < x72 then (if 0 ≤ x73 then (if x73 < (x71.length : Int) then (if (rd x71 x73) > x10 then (some false) else (stanzalaw18_JustEven.l1 k x10 x71 x72 (wrap64 (x73 + 1)))) else (none)) else (none)) else (some true)
end
def stanzalaw18_JustEven.f (k : Nat) (a0 : Int) (a1 : Int) : Option (Bool) := (stanzalaw18_Awake.f k).bind fun t131 => (if t131 = true then ((just_Spread.f k (wrap64 (Int.tmod a0 1048577)) (wrap64 (1 + (wrap64 (Int.tmod a1 4096))))).bind fun t132 => (stanzalaw18_JustEven.l0 k (wrap64 (Int.tmod a0 1048577)) (wrap64 (1 + (wrap64 (Int.tmod a1 4096)))) t132 0 1073741824 0 t132 (t132.length : Int) 0)) else (some false))
theorem stanzalaw18_JustEven.mono_l : ∀ k, (∀ y0 y1 y2 y3 y4 y5 y6 y7 y8, LeO (stanzalaw18_JustEven.l0 k y0 y1 y2 y3 y4 y5 y6 y7 y8) (stanzalaw18_JustEven.l0 (k + 1) y0 y1 y2 y3 y4 y5 y6 y7 y8)) ∧ (∀ y0 y1 y2 y3, LeO (stanzalaw18_JustEven.j1 k y0 y1 y2 y3) (stanzalaw18_JustEven.j1 (k + 1) y0 y1 y2 y3)) ∧ (∀ y0 y1 y2 y3, LeO (stanzalaw18_JustEven.l1 k y0 y1 y2 y3) (stanzalaw18_JustEven.l1 (k + 1) y0 y1 y2 y3))
  | 0 => ⟨fun _ _ _ _ _ _ _ _ _ r h => by simp [stanzalaw18_JustEven.l0] at h, fun _ _ _ _ r h => by simp [stanzalaw18_JustEven.j1] at h, fun _ _ _ _ r h => by simp [stanzalaw18_JustEven.l1] at h⟩
  | k + 1 => by
    obtain ⟨ih0, ih1, ih2⟩ := stanzalaw18_JustEven.mono_l k
    refine ⟨?_, ?_, ?_⟩
    · intro y0 y1 y2 y3 y4 y5 y6 y7 y8
      unfold stanzalaw18_JustEven.l0
      repeat' first
      | (with_reducible exact ih0 _ _ _ _ _ _ _ _ _)
      | (with_reducible exact ih1 _ _ _ _)
      | (with_reducible exact ih2 _ _ _ _)
      | (with_reducible exact just_Spread.mono _ _ _)
      | (with_reducible exact stanzalaw18_Awake.mono _)
      | (with_reducible exact LeO.refl _)
      | (with_reducible exact LeO.none _)
      | (with_reducible refine LeO.ite ?_ ?_)
      | (with_reducible refine LeO.bind ?_ (fun _ => ?_))
      | exact ih0 _ _ _ _ _ _ _ _ _
      | exact ih1 _ _ _ _
      | exact ih2 _ _ _ _
      | exact just_Spread.mono _ _ _
      | exact stanzalaw18_Awake.mono _
      | exact LeO.none _
      | refine LeO.ite ?_ ?_
      | refine LeO.bind ?_ (fun _ => ?_)
    · intro y0 y1 y2 y3
      unfold stanzalaw18_JustEven.j1
      repeat' first
      | (with_reducible exact ih0 _ _ _ _ _ _ _ _ _)
      | (with_reducible exact ih1 _ _ _ _)
      | (with_reducible exact ih2 _ _ _ _)
      | (with_reducible exact just_Spread.mono _ _ _)
      | (with_reducible exact stanzalaw18_Awake.mono _)
      | (with_reducible exact LeO.refl _)
      | (with_reducible exact LeO.none _)
      | (with_reducible refine LeO.ite ?_ ?_)
      | (with_reducible refine LeO.bind ?_ (fun _ => ?_))
      | exact ih0 _ _ _ _ _ _ _ _ _
      | exact ih1 _ _ _ _
      | exact ih2 _ _ _ _
      | exact just_Spread.mono _ _ _
      | exact stanzalaw18_Awake.mono _
      | exact LeO.none _
      | refine LeO.ite ?_ ?_
      | refine LeO.bind ?_ (fun _ => ?_)
    · intro y0 y1 y2 y3
      unfold stanzalaw18_JustEven.l1
      repeat' first
      | (with_reducible exact ih0 _ _ _ _ _ _ _ _ _)
      | (with_reducible exact ih1 _ _ _ _)
      | (with_reducible exact ih2 _ _ _ _)
      | (with_reducible exact just_Spread.mono _ _ _)
      | (with_reducible exact stanzalaw18_Awake.mono _)
      | (with_reducible exact LeO.refl _)
      | (with_reducible exact LeO.none _)
      | (with_reducible refine LeO.ite ?_ ?_)
      | (with_reducible refine LeO.bind ?_ (fun _ => ?_))
      | exact ih0 _ _ _ _ _ _ _ _ _
      | exact ih1 _ _ _ _
      | exact ih2 _ _ _ _
      | exact just_Spread.mono _ _ _
      | exact stanzalaw18_Awake.mono _
      | exact LeO.none _
      | refine LeO.ite ?_ ?_
      | refine LeO.bind ?_ (fun _ => ?_)
theorem stanzalaw18_JustEven.mono : ∀ a0 a1 k, LeO (stanzalaw18_JustEven.f k a0 a1) (stanzalaw18_JustEven.f (k + 1) a0 a1) := by
  intro a0 a1 k
  obtain ⟨ih0, ih1, ih2⟩ := stanzalaw18_JustEven.mono_l k
  unfold stanzalaw18_JustEven.f
  repeat' first
      | (with_reducible exact ih0 _ _ _ _ _ _ _ _ _)
      | (with_reducible exact ih1 _ _ _ _)
      | (with_reducible exact ih2 _ _ _ _)
      | (with_reducible exact just_Spread.mono _ _ _)
      | (with_reducible exact stanzalaw18_Awake.mono _)
      | (with_reducible exact LeO.refl _)
      | (with_reducible exact LeO.none _)
      | (with_reducible refine LeO.ite ?_ ?_)
      | (with_reducible refine LeO.bind ?_ (fun _ => ?_))
      | exact ih0 _ _ _ _ _ _ _ _ _
      | exact ih1 _ _ _ _
      | exact ih2 _ _ _ _
      | exact just_Spread.mono _ _ _
      | exact stanzalaw18_Awake.mono _
      | exact LeO.none _
      | refine LeO.ite ?_ ?_
      | refine LeO.bind ?_ (fun _ => ?_)
set_option maxHeartbeats 8000000 in
set_option maxRecDepth 100000 in
theorem stanzalaw18_JustEven.calls (k : Nat) (a0 : Int) (a1 : Int) (r : Bool) (w : World) (h : stanzalaw18_JustEven.f k a0 a1 = some r) (hrt_ : Aside0 (r = true)) :
    Calls Try.prog 4 #[.int .u32 a0, .int .u16 a1] w fun e w' => e = .returned (.bool r) ∧ Below w.heap.size w w' := by
  have HB := Aside0.mk (Below.refl w.heap.size w)
  have H : ((stanzalaw18_Awake.f k).bind fun t131 => (if t131 = true then ((just_Spread.f k (wrap64 (Int.tmod a0 1048577)) (wrap64 (1 + (wrap64 (Int.tmod a1 4096))))).bind fun t132 => (stanzalaw18_JustEven.l0 k (wrap64 (Int.tmod a0 1048577)) (wrap64 (1 + (wrap64 (Int.tmod a1 4096)))) t132 0 1073741824 0 t132 (t132.length : Int) 0)) else (some false))) = some r := h
  clear h
  replace H := Option.bind_eq_some_iff.mp H
  obtain ⟨t131, A30, H⟩ := H
  replace H : (if t131 = true then ((just_Spread.f k (wrap64 (Int.tmod a0 1048577)) (wrap64 (1 + (wrap64 (Int.tmod a1 4096))))).bind fun t132 => (stanzalaw18_JustEven.l0 k (wrap64 (Int.tmod a0 1048577)) (wrap64 (1 + (wrap64 (Int.tmod a1 4096)))) t132 0 1073741824 0 t132 (t132.length : Int) 0)) else (some false)) = some r := H
  have A3 := Aside0.mk A30
  clear A30
  by_cases c4 : t131 = true
  · subst c4
    have H1 : ((just_Spread.f k (wrap64 (Int.tmod a0 1048577)) (wrap64 (1 + (wrap64 (Int.tmod a1 4096))))).bind fun t132 => (stanzalaw18_JustEven.l0 k (wrap64 (Int.tmod a0 1048577)) (wrap64 (1 + (wrap64 (Int.tmod a1 4096)))) t132 0 1073741824 0 t132 (t132.length : Int) 0)) = some r := by rw [if_pos rfl] at H; exact H
    clear H
    have H := H1
    clear H1
    replace H := Option.bind_eq_some_iff.mp H
    obtain ⟨t132, A50, H⟩ := H
    replace H : (stanzalaw18_JustEven.l0 k (wrap64 (Int.tmod a0 1048577)) (wrap64 (1 + (wrap64 (Int.tmod a1 4096)))) t132 0 1073741824 0 t132 (t132.length : Int) 0) = some r := H
    have A5 := Aside0.mk A50
    clear A50
    have H' := Aside0.mk H
    clear H
    go_enter Try.func4, Try.ntmps4
    go_wp2_with (first | ((with_reducible refine gate_callee (f := 14) rfl ?_); refine goesL_ (some 16) rfl rfl Try.func14 (by kernel_rfl) rfl #[] rfl (by (try simp only [List.map_toArray, List.map_cons, List.map_nil]); first | done | rfl | (simp only [List.length_drop, List.length_take]; rfl)) ?_; (with_reducible refine (stanzalaw18_Awake.calls k  true _ A3.out (by first | exact ⟨rfl⟩ | exact hrt_)).mono ?_); rintro e w6 ⟨rfl, hb⟩; refine ⟨_, rfl, ?_⟩; have n0_ := Aside0.mk (below_step (by repeat (first | (with_reducible first | exact HB.out | apply below_alloc | apply pw_below_drewN | apply below_drew1) | exact HB.out)) hb); clear HB; have HB := n0_; clear n0_; (try clear hb); (try clear hb2); (try clear hk); (try clear hi)) | ((with_reducible refine gate_callee (f := 16) rfl ?_); refine goesL_ (some 27) rfl rfl Try.func16 (by kernel_rfl) rfl #[.int .i64 (wrap64 (Int.tmod a0 1048577)), .int .i64 (wrap64 (1 + (wrap64 (Int.tmod a1 4096))))] rfl (by (try simp only [List.map_toArray, List.map_cons, List.map_nil]); first | done | rfl | (simp only [List.length_drop, List.length_take]; rfl)) ?_; (with_reducible refine (just_Spread.calls k (wrap64 (Int.tmod a0 1048577)) (wrap64 (1 + (wrap64 (Int.tmod a1 4096)))) t132 _ A5.out).mono ?_); rintro e w7 ⟨v133, rfl, ho0, hb⟩; refine ⟨_, rfl, ?_⟩; have n0_ := Aside0.mk (Kd.R_lower ho0 (below_size (by repeat (first | (with_reducible first | exact HB.out | apply below_alloc | apply pw_below_drewN | apply below_drew1) | exact HB.out)))); have n1_ := Aside0.mk (below_step (by repeat (first | (with_reducible first | exact HB.out | apply below_alloc | apply pw_below_drewN | apply below_drew1) | exact HB.out)) hb); clear HB; have HO134 := n0_; have HB := n1_; clear n0_ n1_; (try clear hb); (try clear hb2); (try clear hk); (try clear hi); (try clear ho0); obtain ⟨Ao8, co8, eo8⟩ := Kd.R_slice HO134.out; subst eo8))
    go_loopg [8, 9, 10, 30] k (fun kq v8 v9 v10 v30 w' => ∃ (x8_1 : Int) (x9_1 : Int) (x10_1 : Int) (x30_1 : Int), v8 = .int .i64 x8_1 ∧ v9 = .int .i64 x9_1 ∧ v10 = .int .i64 x10_1 ∧ v30 = .int .i64 x30_1 ∧ Aside0 (stanzalaw18_JustEven.l0 kq (wrap64 (Int.tmod a0 1048577)) (wrap64 (1 + (wrap64 (Int.tmod a1 4096)))) t132 x8_1 x9_1 x10_1 t132 (t132.length : Int) x30_1 = some r) ∧ Aside0 (kq ≤ k) ∧ Aside0 (Kd.R (Kd.int .i64) 3 w' w.heap.size (fun _ => True) (.slice Ao8 t132.length co8) t132) ∧ Aside0 (Kd.R (Kd.int .i64) 3 w' w.heap.size (fun _ => True) (.slice Ao8 t132.length co8) t132) ∧ Aside0 (Below w.heap.size w w'))
    case atStart => exact ⟨(0), (1073741824), (0), (0), (by first | rfl | (simp; done) | (simp [*]; done)), (by first | rfl | (simp; done) | (simp [*]; done)), (by first | rfl | (simp; done) | (simp [*]; done)), (by first | rfl | (simp; done) | (simp [*]; done)), H', ⟨Nat.le_refl _⟩, ⟨by (with_reducible repeat (first | apply Kd.R_alloc | apply Kd.R_drewN | apply Kd.R_drew)); exact HO134.out⟩, ⟨by (with_reducible repeat (first | apply Kd.R_alloc | apply Kd.R_drewN | apply Kd.R_drew)); exact HO134.out⟩, ⟨by repeat (first | (with_reducible first | exact HB.out | apply below_alloc | apply pw_below_drewN | apply below_drew1) | exact HB.out)⟩⟩
    case round =>
      clear H'
      try clear c1
      try clear p2
      try clear c4
      try clear p6
      obtain ⟨x8_1, x9_1, x10_1, x30_1, rfl, rfl, rfl, rfl, HA, HK1, HO_7, HO_28, HB⟩ := hrel
      cases gk with
      | zero => exact absurd HA.out (by simp [stanzalaw18_JustEven.l0])
      | succ k1 =>
        have H := HA.out
        clear HA
        simp only [stanzalaw18_JustEven.l0] at H
        by_cases c9 : x30_1 < (t132.length : Int)
        · rw [if_pos c9] at H
          have c9b0 : decide (x30_1 < (t132.length : Int)) = true := decide_eq_true c9
          clear c9
          by_cases c10 : 0 ≤ x30_1
          · rw [if_pos c10] at H
            have c10b0 : decide (0 ≤ x30_1) = true := decide_eq_true c10
            clear c10
            by_cases c11 : x30_1 < (t132.length : Int)
            · rw [if_pos c11] at H
              have c11b0 : decide (x30_1 < (t132.length : Int)) = true := decide_eq_true c11
              clear c11
              obtain ⟨ji12, hji12⟩ : ∃ j_ : Int, (mn x9_1 (rd t132 x30_1)) = j_ := ⟨_, rfl⟩
              replace H : (stanzalaw18_JustEven.l0 k1 (wrap64 (Int.tmod a0 1048577)) (wrap64 (1 + (wrap64 (Int.tmod a1 4096)))) t132 (wrap64 (x8_1 + (rd t132 x30_1))) ji12 (mx x10_1 (rd t132 x30_1)) t132 (t132.length : Int) (wrap64 (x30_1 + 1))) = some r := by first | (rw [hji12] at H; exact H) | (simp only [hji12] at H ⊢; exact H)
              have hji12_ : (if (rd t132 x30_1) < x9_1 then (rd t132 x30_1) else x9_1) = ji12 := hji12
              obtain ⟨ji13, hji13⟩ : ∃ j_ : Int, (mx x10_1 (rd t132 x30_1)) = j_ := ⟨_, rfl⟩
              replace H : (stanzalaw18_JustEven.l0 k1 (wrap64 (Int.tmod a0 1048577)) (wrap64 (1 + (wrap64 (Int.tmod a1 4096)))) t132 (wrap64 (x8_1 + (rd t132 x30_1))) ji12 ji13 t132 (t132.length : Int) (wrap64 (x30_1 + 1))) = some r := by first | (rw [hji13] at H; exact H) | (simp only [hji13] at H ⊢; exact H)
              have hji13_ : (if x10_1 < (rd t132 x30_1) then (rd t132 x30_1) else x10_1) = ji13 := hji13
              have H' := Aside0.mk H
              clear H
              have p135 : 0 ≤ (x30_1 : Int) := of_decide_eq_true (by first | (with_reducible assumption) | assumption)
              have q135 : x30_1 < (t132.length : Int) := of_decide_eq_true (by first | (with_reducible assumption) | assumption)
              obtain ⟨ad135, e135, hx135_0⟩ := Kd.at_int (Kd.R_reads' HO_28.out).2.2 x30_1 p135 q135
              cases e135
              replace p135 := eq_true p135
              replace q135 := eq_true q135
              go_wp2
              go_roundg k1
              case measure => have := HK1.out; omega
              case rel => exact ⟨(wrap64 (x8_1 + (rd t132 x30_1))), (ji12), (ji13), (wrap64 (x30_1 + 1)), (by first | rfl | (simp; done) | (simp [*]; done)), (by first | rfl | (simp; done) | (simp only [← hji12] <;> (first | rfl | simp)) | (simp [*]; done)), (by first | rfl | (simp; done) | (simp only [← hji13] <;> (first | rfl | simp)) | (simp [*]; done)), (by first | rfl | (simp; done) | (simp [*]; done)), H', ⟨by have := HK1.out; omega⟩, ⟨by (with_reducible repeat (first | apply Kd.R_alloc | apply Kd.R_drewN | apply Kd.R_drew)); exact HO_7.out⟩, ⟨by (with_reducible repeat (first | apply Kd.R_alloc | apply Kd.R_drewN | apply Kd.R_drew)); exact HO_28.out⟩, ⟨by repeat (first | (with_reducible first | exact HB.out | apply below_alloc | apply pw_below_drewN | apply below_drew1) | exact HB.out)⟩⟩
            · rw [if_neg c11] at H
              exact absurd H (by simp)
          · rw [if_neg c10] at H
            exact absurd H (by simp)
        · rw [if_neg c9] at H
          have c9b0 : decide (x30_1 < (t132.length : Int)) = false := decide_eq_false c9
          clear c9
          have HC14 := Aside0.mk H
          clear H
          go_upto_region 11 with (fail)
          go_cut [65] (fun v65 wc => ∃ (kq : Nat) (x65_13 : Bool), v65 = .bool x65_13 ∧ Aside0 (stanzalaw18_JustEven.j1 kq (wrap64 (Int.tmod a0 1048577)) (wrap64 (1 + (wrap64 (Int.tmod a1 4096)))) x10_1 x65_13 = some r) ∧ Aside0 (kq ≤ k1) ∧ Aside0 (Below w.heap.size w wc))
          case first =>
            have H := HC14.out
            clear HC14
            by_cases c15 : (t132.length : Int) = (wrap64 (1 + (wrap64 (Int.tmod a1 4096))))
            · rw [if_pos c15] at H
              have c15b0 : ((t132.length : Int) == (wrap64 (1 + (wrap64 (Int.tmod a1 4096))))) = true := beq_iff_eq.mpr c15
              have c15b1 : ((t132.length : Int) != (wrap64 (1 + (wrap64 (Int.tmod a1 4096))))) = false := bne_eq_false_iff_eq.mpr c15
              clear c15
              (first | rw [c15b0] | (simp only [i64_w, i32_w]; rw [c15b0]) | skip)
              by_cases c16 : x8_1 = (wrap64 (Int.tmod a0 1048577))
              · rw [if_pos c16] at H
                have c16b0 : (x8_1 == (wrap64 (Int.tmod a0 1048577))) = true := beq_iff_eq.mpr c16
                have c16b1 : (x8_1 != (wrap64 (Int.tmod a0 1048577))) = false := bne_eq_false_iff_eq.mpr c16
                clear c16
                by_cases c17 : (wrap64 (x10_1 - x9_1)) > 1
                · rw [if_pos c17] at H
                  have c17b0 : decide (1 < (wrap64 (x10_1 - x9_1))) = true := decide_eq_true c17
                  clear c17
                  have H' := Aside0.mk H
                  clear H
                  go_wp2
                  go_meet
                  case rel => exact ⟨_, (true), (by first | rfl | (simp; done) | (simp [*]; done)), H', ⟨by have := HK1.out; first | omega | exact Nat.le_refl _⟩, ⟨by repeat (first | (with_reducible first | exact HB.out | apply below_alloc | apply pw_below_drewN | apply below_drew1) | exact HB.out)⟩⟩
                · rw [if_neg c17] at H
                  have c17b0 : decide (1 < (wrap64 (x10_1 - x9_1))) = false := decide_eq_false c17
                  clear c17
                  by_cases c18 : (wrap64 (1 + (wrap64 (Int.tmod a1 4096)))) = 0
                  · rw [if_pos c18] at H
                    exact absurd H (by simp)
                  · rw [if_neg c18] at H
                    have c18b0 : ((wrap64 (1 + (wrap64 (Int.tmod a1 4096)))) == 0) = false := beq_eq_false_iff_ne.mpr c18
                    have c18b1 : ((wrap64 (1 + (wrap64 (Int.tmod a1 4096)))) != 0) = true := bne_iff_ne.mpr c18
                    have H' := Aside0.mk H
                    clear H
                    go_wp2
                    go_meet
                    case rel => exact ⟨_, ((x9_1 != (wrap64 (Int.tdiv (wrap64 (Int.tmod a0 1048577)) (wrap64 (1 + (wrap64 (Int.tmod a1 4096)))))))), (by first | rfl | (simp; done) | (simp [*]; done)), H', ⟨by have := HK1.out; first | omega | exact Nat.le_refl _⟩, ⟨by repeat (first | (with_reducible first | exact HB.out | apply below_alloc | apply pw_below_drewN | apply below_drew1) | exact HB.out)⟩⟩
              · rw [if_neg c16] at H
                have c16b0 : (x8_1 == (wrap64 (Int.tmod a0 1048577))) = false := beq_eq_false_iff_ne.mpr c16
                have c16b1 : (x8_1 != (wrap64 (Int.tmod a0 1048577))) = true := bne_iff_ne.mpr c16
                have H' := Aside0.mk H
                clear H
                go_wp2
                go_meet
                case rel => exact ⟨_, (true), (by first | rfl | (simp; done) | (simp [*]; done)), H', ⟨by have := HK1.out; first | omega | exact Nat.le_refl _⟩, ⟨by repeat (first | (with_reducible first | exact HB.out | apply below_alloc | apply pw_below_drewN | apply below_drew1) | exact HB.out)⟩⟩
            · rw [if_neg c15] at H
              have c15b0 : ((t132.length : Int) == (wrap64 (1 + (wrap64 (Int.tmod a1 4096))))) = false := beq_eq_false_iff_ne.mpr c15
              have c15b1 : ((t132.length : Int) != (wrap64 (1 + (wrap64 (Int.tmod a1 4096))))) = true := bne_iff_ne.mpr c15
              (first | rw [c15b0] | (simp only [i64_w, i32_w]; rw [c15b0]) | skip)
              have H' := Aside0.mk H
              clear H
              go_wp2
              go_meet
              case rel => exact ⟨_, (true), (by first | rfl | (simp; done) | (simp [*]; done)), H', ⟨by have := HK1.out; first | omega | exact Nat.le_refl _⟩, ⟨by repeat (first | (with_reducible first | exact HB.out | apply below_alloc | apply pw_below_drewN | apply below_drew1) | exact HB.out)⟩⟩
          case rest =>
            clear HC14
            try clear c1
            try clear p1
            try clear q1
            try clear hx1
            try clear p2
            try clear c4
            try clear p6
            try clear c9
            try clear c9b0
            try clear c10
            try clear c10b0
            try clear c11
            try clear c11b0
            try clear p13
            try clear q13
            try clear hx13
            try clear c14
            try clear c15
            try clear c15b0
            try clear c15b1
            try clear c16
            try clear c16b0
            try clear c16b1
            try clear c17
            try clear c17b0
            try clear c18
            try clear c18b0
            try clear c18b1
            try clear hx135_0
            try clear p135
            try clear p2
            try clear p6
            try clear q135
            obtain ⟨kq, x65_13, rfl, HA, HJ13, HB⟩ := hcut
            cases kq with
            | zero => exact absurd HA.out (by simp [stanzalaw18_JustEven.j1])
            | succ kj13 =>
              have H := HA.out
              clear HA
              simp only [stanzalaw18_JustEven.j1] at H
              by_cases c19 : x65_13 = true
              · subst c19
                have H1 : (some false) = some r := by rw [if_pos rfl] at H; exact H
                clear H
                have H := H1
                clear H1
                exact absurd ((Option.some.inj H).trans hrt_.out) (by decide)
              · replace c19 := Bool.eq_false_iff.mpr c19
                subst c19
                have H1 : ((just_Spread.f kj13 (wrap64 (Int.tmod a0 1048577)) (mn (wrap64 ((wrap64 (1 + (wrap64 (Int.tmod a1 4096)))) + 1)) 4096)).bind fun t136 => (stanzalaw18_JustEven.l1 kj13 x10_1 t136 (t136.length : Int) 0)) = some r := by rw [if_neg (show ¬ (false = true) by decide)] at H; exact H
                clear H
                have H := H1
                clear H1
                obtain ⟨ji20, hji20⟩ : ∃ j_ : Int, (mn (wrap64 ((wrap64 (1 + (wrap64 (Int.tmod a1 4096)))) + 1)) 4096) = j_ := ⟨_, rfl⟩
                replace H : ((just_Spread.f kj13 (wrap64 (Int.tmod a0 1048577)) (ji20)).bind fun t136 => (stanzalaw18_JustEven.l1 kj13 x10_1 t136 (t136.length : Int) 0)) = some r := by first | (rw [hji20] at H; exact H) | (simp only [hji20] at H ⊢; exact H)
                have hji20_ : (if 4096 < (wrap64 ((wrap64 (1 + (wrap64 (Int.tmod a1 4096)))) + 1)) then 4096 else (wrap64 ((wrap64 (1 + (wrap64 (Int.tmod a1 4096)))) + 1))) = ji20 := hji20
                replace H := Option.bind_eq_some_iff.mp H
                obtain ⟨t136, A210, H⟩ := H
                replace H : (stanzalaw18_JustEven.l1 kj13 x10_1 t136 (t136.length : Int) 0) = some r := H
                have A21 := Aside0.mk A210
                clear A210
                have H' := Aside0.mk H
                clear H
                go_wp2_with (first | ((with_reducible refine gate_callee (f := 16) rfl ?_); refine goesL_ (some 70) rfl rfl Try.func16 (by kernel_rfl) rfl #[.int .i64 (wrap64 (Int.tmod a0 1048577)), .int .i64 ji20] rfl (by (try simp only [List.map_toArray, List.map_cons, List.map_nil]); first | done | (simp only [hji20]; rfl) | rfl | (simp only [List.length_drop, List.length_take]; rfl)) ?_; (with_reducible refine (just_Spread.calls kj13 (wrap64 (Int.tmod a0 1048577)) ji20 t136 _ A21.out).mono ?_); rintro e w22 ⟨v137, rfl, ho0, hb⟩; refine ⟨_, rfl, ?_⟩; have n0_ := Aside0.mk (Kd.R_lower ho0 (below_size (by repeat (first | (with_reducible first | exact HB.out | apply below_alloc | apply pw_below_drewN | apply below_drew1) | exact HB.out)))); have n1_ := Aside0.mk (below_step (by repeat (first | (with_reducible first | exact HB.out | apply below_alloc | apply pw_below_drewN | apply below_drew1) | exact HB.out)) hb); clear HB; have HO138 := n0_; have HB := n1_; clear n0_ n1_; (try clear hb); (try clear hb2); (try clear hk); (try clear hi); (try clear ho0); obtain ⟨Ao23, co23, eo23⟩ := Kd.R_slice HO138.out; subst eo23))
                go_loopg [73] kj13 (fun kq v73 w' => ∃ (x73_3 : Int), v73 = .int .i64 x73_3 ∧ Aside0 (stanzalaw18_JustEven.l1 kq x10_1 t136 (t136.length : Int) x73_3 = some r) ∧ Aside0 (kq ≤ kj13) ∧ Aside0 (Kd.R (Kd.int .i64) 3 w' w.heap.size (fun _ => True) (.slice Ao23 t136.length co23) t136) ∧ Aside0 (Below w.heap.size w w'))
                case atStart => exact ⟨(0), (by first | rfl | (simp; done) | (simp [*]; done)), H', ⟨Nat.le_refl _⟩, ⟨by (with_reducible repeat (first | apply Kd.R_alloc | apply Kd.R_drewN | apply Kd.R_drew)); exact HO138.out⟩, ⟨by repeat (first | (with_reducible first | exact HB.out | apply below_alloc | apply pw_below_drewN | apply below_drew1) | exact HB.out)⟩⟩
                case round =>
                  clear H'
                  try clear c1
                  try clear p1
                  try clear q1
                  try clear hx1
                  try clear p2
                  try clear c4
                  try clear p6
                  try clear c9
                  try clear c9b0
                  try clear c10
                  try clear c10b0
                  try clear c11
                  try clear c11b0
                  try clear p13
                  try clear q13
                  try clear hx13
                  try clear c14
                  try clear c15
                  try clear c15b0
                  try clear c15b1
                  try clear c16
                  try clear c16b0
                  try clear c16b1
                  try clear c17
                  try clear c17b0
                  try clear c18
                  try clear c18b0
                  try clear c18b1
                  try clear c19
                  try clear hx135_0
                  try clear p1
                  try clear p13
                  try clear p135
                  try clear p2
                  try clear p6
                  try clear q1
                  try clear q13
                  try clear q135
                  obtain ⟨x73_3, rfl, HA, HK3, HO_71, HB⟩ := hrel
                  cases gk with
                  | zero => exact absurd HA.out (by simp [stanzalaw18_JustEven.l1])
                  | succ k3 =>
                    have H := HA.out
                    clear HA
                    simp only [stanzalaw18_JustEven.l1] at H
                    by_cases c24 : x73_3 < (t136.length : Int)
                    · rw [if_pos c24] at H
                      have c24b0 : decide (x73_3 < (t136.length : Int)) = true := decide_eq_true c24
                      clear c24
                      by_cases c25 : 0 ≤ x73_3
                      · rw [if_pos c25] at H
                        have c25b0 : decide (0 ≤ x73_3) = true := decide_eq_true c25
                        clear c25
                        by_cases c26 : x73_3 < (t136.length : Int)
                        · rw [if_pos c26] at H
                          have c26b0 : decide (x73_3 < (t136.length : Int)) = true := decide_eq_true c26
                          clear c26
                          by_cases c27 : (rd t136 x73_3) > x10_1
                          · rw [if_pos c27] at H
                            have c27b0 : decide (x10_1 < (rd t136 x73_3)) = true := decide_eq_true c27
                            clear c27
                            exact absurd ((Option.some.inj H).trans hrt_.out) (by decide)
                          · rw [if_neg c27] at H
                            have c27b0 : decide (x10_1 < (rd t136 x73_3)) = false := decide_eq_false c27
                            clear c27
                            have H' := Aside0.mk H
                            clear H
                            have p139 : 0 ≤ (x73_3 : Int) := of_decide_eq_true (by first | (with_reducible assumption) | assumption)
                            have q139 : x73_3 < (t136.length : Int) := of_decide_eq_true (by first | (with_reducible assumption) | assumption)
                            obtain ⟨ad139, e139, hx139_0⟩ := Kd.at_int (Kd.R_reads' HO_71.out).2.2 x73_3 p139 q139
                            cases e139
                            replace p139 := eq_true p139
                            replace q139 := eq_true q139
                            go_wp2
                            go_roundg k3
                            case measure => have := HK1.out; have := HJ13.out; have := HK3.out; omega
                            case rel => exact ⟨(wrap64 (x73_3 + 1)), (by first | rfl | (simp; done) | (simp [*]; done)), H', ⟨by have := HK1.out; have := HJ13.out; have := HK3.out; omega⟩, ⟨by (with_reducible repeat (first | apply Kd.R_alloc | apply Kd.R_drewN | apply Kd.R_drew)); exact HO_71.out⟩, ⟨by repeat (first | (with_reducible first | exact HB.out | apply below_alloc | apply pw_below_drewN | apply below_drew1) | exact HB.out)⟩⟩
                        · rw [if_neg c26] at H
                          exact absurd H (by simp)
                      · rw [if_neg c25] at H
                        exact absurd H (by simp)
                    · rw [if_neg c24] at H
                      have c24b0 : decide (x73_3 < (t136.length : Int)) = false := decide_eq_false c24
                      clear c24
                      obtain rfl := Option.some.inj H
                      go_wp2
                      go_ret
                      exact ⟨by first | rfl | (simp [errW_none, errW_some] <;> rfl) | (simp only [← hji20]; first | rfl | (simp [errW_none, errW_some] <;> rfl)) | (simp [*, errW_none, errW_some] <;> rfl), by repeat (first | (with_reducible first | exact HB.out | apply below_alloc | apply pw_below_drewN | apply below_drew1) | exact HB.out)⟩
  · replace c4 := Bool.eq_false_iff.mpr c4
    subst c4
    have H1 : (some false) = some r := by rw [if_neg (show ¬ (false = true) by decide)] at H; exact H
    clear H
    have H := H1
    clear H1
    exact absurd ((Option.some.inj H).trans hrt_.out) (by decide)

/-- THE ONE PURE STATEMENT of stanzalaw18_JustEven. -/
def stanzalaw18_JustEven.Pure : Prop := ∀ (a0 : Int) (a1 : Int), (Lit.int .u32 a0).wf = true → (Lit.int .u16 a1).wf = true → ∃ k, stanzalaw18_JustEven.f k a0 a1 = some true

end Go.Proofs.Ytbnoeeflpegcoaa.F
