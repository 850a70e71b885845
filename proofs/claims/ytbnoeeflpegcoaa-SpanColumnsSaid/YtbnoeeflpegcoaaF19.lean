/- Printed by a program of this session (wip/fork): Lean functions that answer as the Go functions do, and the proofs that the Go code comes to them; no condition but those that each statement tells. -/
import Derived.Test.YtbnoeeflpegcoaaF0
import Derived.Test.YtbnoeeflpegcoaaF2
import Derived.Test.YtbnoeeflpegcoaaF9
import Derived.Test.YtbnoeeflpegcoaaF10
import Derived.Test.YtbnoeeflpegcoaaF11
import Derived.Test.YtbnoeeflpegcoaaF16
import Derived.Test.YtbnoeeflpegcoaaF17
import Derived.Test.YtbnoeeflpegcoaaF18
namespace Go.Proofs.Ytbnoeeflpegcoaa.F
open Go.RowKit Go.Proofs.YtbnoeeflpegcoaaW.PrintWords Go.Proofs.YtbnoeeflpegcoaaW.PrintLast Go.Proofs.YtbnoeeflpegcoaaW.PrintMore
attribute [local go_sem] max2_int min2_int max_two min_two max_three min_three max_four min_four   -- for this text's walks alone
set_option linter.unusedVariables false
set_option linter.unusedSimpArgs false

/-! ### stanzalaw13_SpanColumns: function 6 -/
def stanzalaw13_SpanColumns.l0 : Nat → Int → Int → Int → Int → List (S41) → Int → Int → List (S41) → List Int → Option (Bool)
  | 0, _, _, _, _, _, _, _, _, _ => none
  | k + 1, x4, x12, x13, x14, x42, x43, x44, x237000, x237001 => if x44 < x43 then (if 0 ≤ x44 then (if x44 < (x42.length : Int) then ((span_Next.f ((rd_T41 x42 x44).f0) ((rd_T41 x42 x44).f1) ((rd_T41 x42 x44).f2) ((rd_T41 x42 x44).f3) (wrap64 (x4)) x14).bind fun t252 => ((stanzaref13_Next.f k ((rd_T41 x42 x44).f0) ((rd_T41 x42 x44).f1) ((rd_T41 x42 x44).f2) ((rd_T41 x42 x44).f3) (wrap64 (x4)) x14).bind fun t253 => (if t252 = t253 then (stanzalaw13_SpanColumns.l0 k x4 x12 x13 x14 x42 x43 (wrap64 (x44 + 1)) x237000 x237001) else (some false)))) else (none)) else (none)) else ((span_Columns.f k x237000 x237001 x12 x13 x14).bind fun t243 => ((stanzaref13_Columns.f k x237000 x237001 x12 x13 x14).bind fun t246 => ((stanzaref01_SameInts.f k t243 t246).bind fun t249 => (some t249))))
def stanzalaw13_SpanColumns.f (k : Nat) (l0 : List (S50)) (a1 : Int) (a2 : Int) (a3 : Int) (a4 : Int) : Option (Bool) := (stanzalaw13_Awake.f k).bind fun t229 => (if t229 = true then (if (l0.length : Int) > 1000 then (some true) else ((stanzahand03_Para.f k l0).bind fun bt230 => ((stanzalaw13_cut.f bt230.1 bt230.2 a1 a2).bind fun bt237 => (if 0 ≤ bt237.1 then (if bt237.1 ≤ (mn bt237.2 (wrap64 (bt237.1 + 20))) then (if (mn bt237.2 (wrap64 (bt237.1 + 20))) ≤ (bt230.1.length : Int) then ((some ((bt230.1.take ((mn bt237.2 (wrap64 (bt237.1 + 20))) : Int).toNat).drop (bt237.1 : Int).toNat : List (S41))).bind fun y239 => (stanzalaw13_SpanColumns.l0 k a4 bt237.1 bt237.2 (wrap64 (1 + (wrap64 (Int.tmod a3 64)))) y239 (y239.length : Int) 0 bt230.1 bt230.2)) else (none)) else (none)) else (none))))) else (some false))
theorem stanzalaw13_SpanColumns.mono_l : ∀ k, (∀ y0 y1 y2 y3 y4 y5 y6 y7 y8, LeO (stanzalaw13_SpanColumns.l0 k y0 y1 y2 y3 y4 y5 y6 y7 y8) (stanzalaw13_SpanColumns.l0 (k + 1) y0 y1 y2 y3 y4 y5 y6 y7 y8))
  | 0 => fun _ _ _ _ _ _ _ _ _ r h => by simp [stanzalaw13_SpanColumns.l0] at h
  | k + 1 => by
    have ih0 := stanzalaw13_SpanColumns.mono_l k
    · intro y0 y1 y2 y3 y4 y5 y6 y7 y8
      unfold stanzalaw13_SpanColumns.l0
      repeat' first
      | (with_reducible exact ih0 _ _ _ _ _ _ _ _ _)
      | (with_reducible exact span_Columns.mono _ _ _ _ _ _)
      | (with_reducible exact stanzahand03_Para.mono _ _)
      | (with_reducible exact stanzalaw13_Awake.mono _)
      | (with_reducible exact stanzaref01_SameInts.mono _ _ _)
      | (with_reducible exact stanzaref13_Columns.mono _ _ _ _ _ _)
      | (with_reducible exact stanzaref13_Next.mono _ _ _ _ _ _ _)
      | (with_reducible exact LeO.refl _)
      | (with_reducible exact LeO.none _)
      | (with_reducible refine LeO.ite ?_ ?_)
      | (with_reducible refine LeO.bind ?_ (fun _ => ?_))
      | exact ih0 _ _ _ _ _ _ _ _ _
      | exact span_Columns.mono _ _ _ _ _ _
      | exact stanzahand03_Para.mono _ _
      | exact stanzalaw13_Awake.mono _
      | exact stanzaref01_SameInts.mono _ _ _
      | exact stanzaref13_Columns.mono _ _ _ _ _ _
      | exact stanzaref13_Next.mono _ _ _ _ _ _ _
      | exact LeO.none _
      | refine LeO.ite ?_ ?_
      | refine LeO.bind ?_ (fun _ => ?_)
theorem stanzalaw13_SpanColumns.mono : ∀ a0 a1 a2 a3 a4 k, LeO (stanzalaw13_SpanColumns.f k a0 a1 a2 a3 a4) (stanzalaw13_SpanColumns.f (k + 1) a0 a1 a2 a3 a4) := by
  intro a0 a1 a2 a3 a4 k
  have ih0 := stanzalaw13_SpanColumns.mono_l k
  unfold stanzalaw13_SpanColumns.f
  repeat' first
      | (with_reducible exact ih0 _ _ _ _ _ _ _ _ _)
      | (with_reducible exact span_Columns.mono _ _ _ _ _ _)
      | (with_reducible exact stanzahand03_Para.mono _ _)
      | (with_reducible exact stanzalaw13_Awake.mono _)
      | (with_reducible exact stanzaref01_SameInts.mono _ _ _)
      | (with_reducible exact stanzaref13_Columns.mono _ _ _ _ _ _)
      | (with_reducible exact stanzaref13_Next.mono _ _ _ _ _ _ _)
      | (with_reducible exact LeO.refl _)
      | (with_reducible exact LeO.none _)
      | (with_reducible refine LeO.ite ?_ ?_)
      | (with_reducible refine LeO.bind ?_ (fun _ => ?_))
      | exact ih0 _ _ _ _ _ _ _ _ _
      | exact span_Columns.mono _ _ _ _ _ _
      | exact stanzahand03_Para.mono _ _
      | exact stanzalaw13_Awake.mono _
      | exact stanzaref01_SameInts.mono _ _ _
      | exact stanzaref13_Columns.mono _ _ _ _ _ _
      | exact stanzaref13_Next.mono _ _ _ _ _ _ _
      | exact LeO.none _
      | refine LeO.ite ?_ ?_
      | refine LeO.bind ?_ (fun _ => ?_)
def stanzalaw13_SpanColumns.T11 : Bool × List (List Nat × List Nat) := (true, [([], []), ([], []), ([1], [1]), ([], []), ([0, 2, 3], [0, 2, 3]), ([], []), ([], []), ([6], [6]), ([], []), ([5, 7, 8, 4], [5, 7, 8]), ([4, 9], [4, 9])])
def stanzalaw13_SpanColumns.B11 : List Nat := [0, 0, 2, 0, 15, 0, 0, 64, 0, 511, 1023]
theorem stanzalaw13_SpanColumns.tab11 : rtab .any (opsOf Try.f6 11) = stanzalaw13_SpanColumns.T11 := by kernel_rfl
theorem stanzalaw13_SpanColumns.bits11 : waitsOk stanzalaw13_SpanColumns.T11.2 stanzalaw13_SpanColumns.B11 = true := by kernel_rfl
def stanzalaw13_SpanColumns.T14 : Bool × List (List Nat × List Nat) := (true, [([], []), ([], []), ([], []), ([], []), ([0, 1, 2, 3], [0, 1, 2, 3]), ([], []), ([], []), ([], []), ([], []), ([5, 6, 7, 8, 4], [5, 6, 7, 8]), ([4, 9, 9], [4, 9]), ([10, 10, 0, 1, 2, 3, 4, 5, 6, 7, 8, 9, 10], [10])])
def stanzalaw13_SpanColumns.B14 : List Nat := [0, 0, 0, 0, 15, 0, 0, 0, 0, 511, 1023, 2047]
theorem stanzalaw13_SpanColumns.tab14 : rtab .any (opsOf Try.f6 14) = stanzalaw13_SpanColumns.T14 := by kernel_rfl
theorem stanzalaw13_SpanColumns.bits14 : waitsOk stanzalaw13_SpanColumns.T14.2 stanzalaw13_SpanColumns.B14 = true := by kernel_rfl
set_option maxHeartbeats 8000000 in
set_option maxRecDepth 100000 in
theorem stanzalaw13_SpanColumns.calls (k : Nat) (A0 : Option Addr) (c0 : Nat) (l0 : List (S50)) (a1 : Int) (a2 : Int) (a3 : Int) (a4 : Int) (r : Bool) (w : World) (hr0 : Kd.C k50 w A0 l0.length l0) (hc0 : l0.length ≤ c0) (h : stanzalaw13_SpanColumns.f k l0 a1 a2 a3 a4 = some r) (hrt_ : Aside0 (r = true)) :
    Calls Try.prog 6 #[.slice A0 l0.length c0, .int .i64 a1, .int .i64 a2, .int .u8 a3, .int .u16 a4] w fun e w' => e = .returned (.bool r) ∧ Below w.heap.size w w' := by
  have hu35 := Try.underlying35
  have hu41 := Try.underlying41
  have HR0 := Aside0.mk hr0
  have HC0 := Aside0.mk hc0
  clear hr0 hc0
  have HB := Aside0.mk (Below.refl w.heap.size w)
  have H : ((stanzalaw13_Awake.f k).bind fun t229 => (if t229 = true then (if (l0.length : Int) > 1000 then (some true) else ((stanzahand03_Para.f k l0).bind fun bt230 => ((stanzalaw13_cut.f bt230.1 bt230.2 a1 a2).bind fun bt237 => (if 0 ≤ bt237.1 then (if bt237.1 ≤ (mn bt237.2 (wrap64 (bt237.1 + 20))) then (if (mn bt237.2 (wrap64 (bt237.1 + 20))) ≤ (bt230.1.length : Int) then ((some ((bt230.1.take ((mn bt237.2 (wrap64 (bt237.1 + 20))) : Int).toNat).drop (bt237.1 : Int).toNat : List (S41))).bind fun y239 => (stanzalaw13_SpanColumns.l0 k a4 bt237.1 bt237.2 (wrap64 (1 + (wrap64 (Int.tmod a3 64)))) y239 (y239.length : Int) 0 bt230.1 bt230.2)) else (none)) else (none)) else (none))))) else (some false))) = some r := h
  clear h
  replace H := Option.bind_eq_some_iff.mp H
  obtain ⟨t229, A60, H⟩ := H
  replace H : (if t229 = true then (if (l0.length : Int) > 1000 then (some true) else ((stanzahand03_Para.f k l0).bind fun bt230 => ((stanzalaw13_cut.f bt230.1 bt230.2 a1 a2).bind fun bt237 => (if 0 ≤ bt237.1 then (if bt237.1 ≤ (mn bt237.2 (wrap64 (bt237.1 + 20))) then (if (mn bt237.2 (wrap64 (bt237.1 + 20))) ≤ (bt230.1.length : Int) then ((some ((bt230.1.take ((mn bt237.2 (wrap64 (bt237.1 + 20))) : Int).toNat).drop (bt237.1 : Int).toNat : List (S41))).bind fun y239 => (stanzalaw13_SpanColumns.l0 k a4 bt237.1 bt237.2 (wrap64 (1 + (wrap64 (Int.tmod a3 64)))) y239 (y239.length : Int) 0 bt230.1 bt230.2)) else (none)) else (none)) else (none))))) else (some false)) = some r := H
  have A6 := Aside0.mk A60
  clear A60
  by_cases c7 : t229 = true
  · subst c7
    have H1 : (if (l0.length : Int) > 1000 then (some true) else ((stanzahand03_Para.f k l0).bind fun bt230 => ((stanzalaw13_cut.f bt230.1 bt230.2 a1 a2).bind fun bt237 => (if 0 ≤ bt237.1 then (if bt237.1 ≤ (mn bt237.2 (wrap64 (bt237.1 + 20))) then (if (mn bt237.2 (wrap64 (bt237.1 + 20))) ≤ (bt230.1.length : Int) then ((some ((bt230.1.take ((mn bt237.2 (wrap64 (bt237.1 + 20))) : Int).toNat).drop (bt237.1 : Int).toNat : List (S41))).bind fun y239 => (stanzalaw13_SpanColumns.l0 k a4 bt237.1 bt237.2 (wrap64 (1 + (wrap64 (Int.tmod a3 64)))) y239 (y239.length : Int) 0 bt230.1 bt230.2)) else (none)) else (none)) else (none))))) = some r := by rw [if_pos rfl] at H; exact H
    clear H
    have H := H1
    clear H1
    by_cases c8 : (l0.length : Int) > 1000
    · rw [if_pos c8] at H
      have c8b0 : decide (1000 < (l0.length : Int)) = true := decide_eq_true c8
      have c8b1 : decide (1000 < l0.length) = true := decide_eq_true (by omega)
      clear c8
      obtain rfl := Option.some.inj H
      go_enter Try.func6, Try.ntmps6
      go_wp2_with (first | ((with_reducible refine gate_callee (f := 18) rfl ?_); refine goesL_ (some 17) rfl rfl Try.func18 (by kernel_rfl) rfl #[] rfl (by (try simp only [List.map_toArray, List.map_cons, List.map_nil]); first | done | rfl | (simp only [List.length_drop, List.length_take]; rfl)) ?_; (with_reducible refine (stanzalaw13_Awake.calls k  true _ A6.out (by first | exact ⟨rfl⟩ | exact hrt_)).mono ?_); rintro e w9 ⟨rfl, hb⟩; refine ⟨_, rfl, ?_⟩; have n0_ := Aside0.mk (below_step (by repeat (first | (with_reducible first | exact HB.out | apply below_alloc | apply pw_below_drewN | apply below_drew1) | exact HB.out)) hb); clear HB; have HB := n0_; clear n0_; (try clear hb); (try clear hb2); (try clear hk); (try clear hi)))
      go_ret
      exact ⟨by first | rfl | (simp [errW_none, errW_some] <;> rfl) | (simp [*, errW_none, errW_some] <;> rfl), by repeat (first | (with_reducible first | exact HB.out | apply below_alloc | apply pw_below_drewN | apply below_drew1) | exact HB.out)⟩
    · rw [if_neg c8] at H
      have c8b0 : decide (1000 < (l0.length : Int)) = false := decide_eq_false c8
      have c8b1 : decide (1000 < l0.length) = false := decide_eq_false (by omega)
      clear c8
      replace H := Option.bind_eq_some_iff.mp H
      obtain ⟨⟨t230, t233⟩, A100, H⟩ := H
      replace H : ((stanzalaw13_cut.f t230 t233 a1 a2).bind fun bt237 => (if 0 ≤ bt237.1 then (if bt237.1 ≤ (mn bt237.2 (wrap64 (bt237.1 + 20))) then (if (mn bt237.2 (wrap64 (bt237.1 + 20))) ≤ (t230.length : Int) then ((some ((t230.take ((mn bt237.2 (wrap64 (bt237.1 + 20))) : Int).toNat).drop (bt237.1 : Int).toNat : List (S41))).bind fun y239 => (stanzalaw13_SpanColumns.l0 k a4 bt237.1 bt237.2 (wrap64 (1 + (wrap64 (Int.tmod a3 64)))) y239 (y239.length : Int) 0 t230 t233)) else (none)) else (none)) else (none))) = some r := H
      have A10 := Aside0.mk A100
      clear A100
      replace H := Option.bind_eq_some_iff.mp H
      obtain ⟨⟨t237, t238⟩, A110, H⟩ := H
      replace H : (if 0 ≤ t237 then (if t237 ≤ (mn t238 (wrap64 (t237 + 20))) then (if (mn t238 (wrap64 (t237 + 20))) ≤ (t230.length : Int) then ((some ((t230.take ((mn t238 (wrap64 (t237 + 20))) : Int).toNat).drop (t237 : Int).toNat : List (S41))).bind fun y239 => (stanzalaw13_SpanColumns.l0 k a4 t237 t238 (wrap64 (1 + (wrap64 (Int.tmod a3 64)))) y239 (y239.length : Int) 0 t230 t233)) else (none)) else (none)) else (none)) = some r := H
      have A11 := Aside0.mk A110
      clear A110
      obtain ⟨ji12, hji12⟩ : ∃ j_ : Int, (mn t238 (wrap64 (t237 + 20))) = j_ := ⟨_, rfl⟩
      replace H : (if 0 ≤ t237 then (if t237 ≤ (ji12) then (if (ji12) ≤ (t230.length : Int) then ((some ((t230.take ((ji12) : Int).toNat).drop (t237 : Int).toNat : List (S41))).bind fun y239 => (stanzalaw13_SpanColumns.l0 k a4 t237 t238 (wrap64 (1 + (wrap64 (Int.tmod a3 64)))) y239 (y239.length : Int) 0 t230 t233)) else (none)) else (none)) else (none)) = some r := by first | (rw [hji12] at H; exact H) | (simp only [hji12] at H ⊢; exact H)
      (try rw [hji12] at A6)
      (try rw [hji12] at A10)
      (try rw [hji12] at A11)
      have hji12_ : (if (wrap64 (t237 + 20)) < t238 then (wrap64 (t237 + 20)) else t238) = ji12 := hji12
      by_cases c13 : 0 ≤ t237
      · rw [if_pos c13] at H
        have c13b0 := eq_true c13
        have c13b1 : decide (0 ≤ t237) = true := decide_eq_true c13
        clear c13
        by_cases c14 : t237 ≤ (ji12)
        · rw [if_pos c14] at H
          have c14b0 := eq_true c14
          have c14b1 : decide (t237 ≤ (ji12)) = true := decide_eq_true c14
          clear c14
          by_cases c15 : (ji12) ≤ (t230.length : Int)
          · rw [if_pos c15] at H
            have c15b0 := eq_true c15
            have c15b1 : decide ((ji12) ≤ (t230.length : Int)) = true := decide_eq_true c15
            clear c15
            obtain ⟨y239, hy239⟩ : ∃ y_ : List (S41), y_ = ((t230.take ((ji12) : Int).toNat).drop (t237 : Int).toNat) := ⟨_, rfl⟩
            replace H : (stanzalaw13_SpanColumns.l0 k a4 t237 t238 (wrap64 (1 + (wrap64 (Int.tmod a3 64)))) y239 (y239.length : Int) 0 t230 t233) = some r := by first | (rw [hy239]; with_reducible exact H) | (have H2_ := (Option.bind_some _ _).symm.trans H; rw [hy239]; with_reducible exact H2_) | (have H2_ := (Option.bind_some _ _).symm.trans H; with_reducible exact H2_) | with_reducible exact H | (rw [hy239]; exact H) | exact H
            have Ny239 := Aside0.mk hy239
            clear hy239
            have H' := Aside0.mk H
            clear H
            go_enter Try.func6, Try.ntmps6
            go_wp2_with (first | ((with_reducible refine gate_callee (f := 18) rfl ?_); refine goesL_ (some 17) rfl rfl Try.func18 (by kernel_rfl) rfl #[] rfl (by (try simp only [List.map_toArray, List.map_cons, List.map_nil]); first | done | rfl | (simp only [List.length_drop, List.length_take]; rfl)) ?_; (with_reducible refine (stanzalaw13_Awake.calls k  true _ A6.out (by first | exact ⟨rfl⟩ | exact hrt_)).mono ?_); rintro e w16 ⟨rfl, hb⟩; refine ⟨_, rfl, ?_⟩; have n0_ := Aside0.mk (below_step (by repeat (first | (with_reducible first | exact HB.out | apply below_alloc | apply pw_below_drewN | apply below_drew1) | exact HB.out)) hb); clear HB; have HB := n0_; clear n0_; (try clear hb); (try clear hb2); (try clear hk); (try clear hi)) | ((with_reducible refine gate_callee (f := 19) rfl ?_); refine goesL_ (some 23) rfl rfl Try.func19 (by kernel_rfl) rfl #[.slice A0 l0.length c0] rfl (by (try simp only [List.map_toArray, List.map_cons, List.map_nil]); first | done | rfl | (simp only [List.length_drop, List.length_take]; rfl)) ?_; (with_reducible refine (stanzahand03_Para.calls k _ _ l0 t230 t233 _ ?side1 ?side2 A10.out).mono ?_); (case side1 => repeat (first | exact (Kd.C_below HR0.out HB.out) | (with_reducible refine Kd.C_alloc ?_ _) | (with_reducible refine Kd.C_drewN ?_ _) | (with_reducible refine Kd.C_drew ?_))); (case side2 => exact HC0.out); rintro e w17 ⟨v231, v234, rfl, ho0, ho1, hb⟩; refine ⟨_, rfl, ?_⟩; have n0_ := Aside0.mk (Kd.R_lower ho0 (below_size (by repeat (first | (with_reducible first | exact HB.out | apply below_alloc | apply pw_below_drewN | apply below_drew1) | exact HB.out)))); have n1_ := Aside0.mk (Kd.R_lower ho1 (below_size (by repeat (first | (with_reducible first | exact HB.out | apply below_alloc | apply pw_below_drewN | apply below_drew1) | exact HB.out)))); have n2_ := Aside0.mk (below_step (by repeat (first | (with_reducible first | exact HB.out | apply below_alloc | apply pw_below_drewN | apply below_drew1) | exact HB.out)) hb); clear HB; have HO232 := n0_; have HO235 := n1_; have HB := n2_; clear n0_ n1_ n2_; (try clear hb); (try clear hb2); (try clear hk); (try clear hi); (try clear ho0); (try clear ho1)) | ((with_reducible refine gate_dst (N := 11) rfl ?_); refine box_event ?hg (N := 11) ?hd (cs := #[.slice none 0 0, .slice none 0 0]) (t := 35) ?hr ?_; (case hd => rfl); (case hg => rfl); (case hr => first | (go_simp; done) | (go_simp; rfl)); intro gb236 hg w18 hbox hb; have n0_ := Aside0.mk (Kd.R_below (by (with_reducible repeat (first | apply Kd.R_alloc | apply Kd.R_drewN | apply Kd.R_drew)); exact HO232.out) hb); have n1_ := Aside0.mk (Kd.R_below (by (with_reducible repeat (first | apply Kd.R_alloc | apply Kd.R_drewN | apply Kd.R_drew)); exact HO235.out) hb); have n2_ := Aside0.mk (below_step (by repeat (first | (with_reducible first | exact HB.out | apply below_alloc | apply pw_below_drewN | apply below_drew1) | exact HB.out)) hb); have n3_ := Aside0.mk (hbox); have n4_ := Aside0.mk ((by rw [hg]; exact (below_size (by repeat (first | (with_reducible first | exact HB.out | apply below_alloc | apply pw_below_drewN | apply below_drew1) | exact HB.out))) : w.heap.size ≤ gb236)); have n5_ := Aside0.mk ((by rw [hg]; exact (below_size (by repeat (first | (with_reducible first | exact HB.out | apply below_alloc | apply pw_below_drewN | apply below_drew1) | exact HB.out))) : w.heap.size ≤ gb236)); clear HO232; clear HO235; clear HB; have HO232 := n0_; have HO235 := n1_; have HB := n2_; have BK236 := n3_; have GW236 := n4_; have GE236 := n5_; clear n0_ n1_ n2_ n3_ n4_ n5_; clear hb hbox hg; obtain ⟨Ao19, co19, eo19⟩ := Kd.R_slice HO232.out; subst eo19; have hcz20_0 : w18.cell? ⟨gb236, 0, none⟩ = some (.slice none 0 0) := (blk_cell BK236.out 0).trans rfl; have hcz20_1 : w18.cell? ⟨gb236, 1, none⟩ = some (.slice none 0 0) := (blk_cell BK236.out 1).trans rfl; have hfz20_0 := blk_frozen BK236.out 0; have hfz20_1 := blk_frozen BK236.out 1; obtain ⟨Ao21, co21, eo21⟩ := Kd.R_slice HO235.out; subst eo21) | ((with_reducible refine gate_store (t := 35) (p := 11) rfl ?_); refine store_event (t := 35) (p := 11) (v := ?vo_w22) (w1 := ((w18.setCell ⟨gb236, 0, none⟩ (.slice Ao19 t230.length co19)).setCell ⟨gb236, 1, none⟩ (.slice Ao21 t233.length co21))) ?hg ?ho ?hn ?hr ?_; (case ho => rfl); (case hg => rfl); (case hn => rfl); (case hr => first | (go_simp; done) | (go_simp; rfl)); intro w22 hw; have n0_ : Aside0 (Kd.R k41 41 w22 w.heap.size (fun _ => True) (.slice Ao19 t230.length co19) t230) := ⟨(by rw [hw]; exact (by (with_reducible repeat (first | apply Kd.R_alloc | apply Kd.R_drewN | apply Kd.R_drew)); exact Kd.R_mono (Kd.R_far (p := ⟨gb236, 1, none⟩) (Kd.R_far (p := ⟨gb236, 0, none⟩) (Kd.R_types HO232.out BK236.out (by decide)) (fun _ hk => hk.2) (.slice Ao19 t230.length co19)) (fun _ hk => hk.2) (.slice Ao21 t233.length co21)) (fun _ hk => trivial)))⟩; have n1_ : Aside0 (Kd.R (Kd.int .u8) 46 w22 w.heap.size (fun _ => True) (.slice Ao21 t233.length co21) t233) := ⟨(by rw [hw]; exact (by (with_reducible repeat (first | apply Kd.R_alloc | apply Kd.R_drewN | apply Kd.R_drew)); exact Kd.R_mono (Kd.R_far (p := ⟨gb236, 1, none⟩) (Kd.R_far (p := ⟨gb236, 0, none⟩) (Kd.R_types HO235.out BK236.out (by decide)) (fun _ hk => hk.2) (.slice Ao19 t230.length co19)) (fun _ hk => hk.2) (.slice Ao21 t233.length co21)) (fun _ hk => trivial)))⟩; have n2_ : Aside0 (w22.heap[gb236]? = some (.cells #[.slice Ao19 t230.length co19, .slice Ao21 t233.length co21] 35 (0, 0))) := ⟨(by rw [hw]; exact (by (with_reducible repeat (first | refine blk_drewN ?_ _ | refine blk_drew ?_ | refine blk_alloc ?_ _)); refine blk_put (cs := #[.slice Ao19 t230.length co19, .slice none 0 0]) ?_ 1 _ rfl; (with_reducible repeat (first | refine blk_drewN ?_ _ | refine blk_drew ?_ | refine blk_alloc ?_ _)); refine blk_put (cs := #[.slice none 0 0, .slice none 0 0]) ?_ 0 _ rfl; (with_reducible repeat (first | refine blk_drewN ?_ _ | refine blk_drew ?_ | refine blk_alloc ?_ _)); exact BK236.out))⟩; have n3_ : Aside0 (Below w.heap.size w w22) := ⟨(by rw [hw]; exact (by repeat (first | (with_reducible first | exact HB.out | apply below_alloc | apply pw_below_drewN | apply below_drew1 | refine below_set ?_ GE236.out) | exact HB.out)))⟩; clear hw; clear HO232; clear HO235; clear BK236; clear HB; have HO232 := n0_; have HO235 := n1_; have BK236 := n2_; have HB := n3_; clear n0_ n1_ n2_ n3_; have hcz23_0 : w22.cell? ⟨gb236, 0, none⟩ = some (.slice Ao19 t230.length co19) := (blk_cell BK236.out 0).trans rfl; have hcz23_1 : w22.cell? ⟨gb236, 1, none⟩ = some (.slice Ao21 t233.length co21) := (blk_cell BK236.out 1).trans rfl; have hfz23_0 := blk_frozen BK236.out 0; have hfz23_1 := blk_frozen BK236.out 1) | ((with_reducible refine gate_callee (f := 20) rfl ?_); refine goesL_ (some 28) rfl rfl Try.func20 (by kernel_rfl) rfl #[.agg #[.slice Ao19 t230.length co19, .slice Ao21 t233.length co21], .int .i64 a1, .int .i64 a2] rfl (by (try simp only [List.map_toArray, List.map_cons, List.map_nil]); first | done | rfl | (simp only [List.length_drop, List.length_take]; rfl)) ?_; (with_reducible refine (stanzalaw13_cut.calls _ _ t230 _ _ t233 a1 a2 t237 t238 _ ?side1 ?side2 ?side3 ?side4 A11.out).mono ?_); (case side1 => repeat (first | exact (Kd.R_reads' HO232.out).2.2 | (with_reducible refine Kd.C_alloc ?_ _) | (with_reducible refine Kd.C_drewN ?_ _) | (with_reducible refine Kd.C_drew ?_))); (case side2 => exact (Kd.R_reads' HO232.out).2.1); (case side3 => repeat (first | exact (Kd.R_reads' HO235.out).2.2 | (with_reducible refine Kd.C_alloc ?_ _) | (with_reducible refine Kd.C_drewN ?_ _) | (with_reducible refine Kd.C_drew ?_))); (case side4 => exact (Kd.R_reads' HO235.out).2.1); rintro e w24 ⟨rfl, hb⟩; refine ⟨_, rfl, ?_⟩; have n0_ := Aside0.mk (Kd.R_below (by (with_reducible repeat (first | apply Kd.R_alloc | apply Kd.R_drewN | apply Kd.R_drew)); exact HO232.out) hb); have n1_ := Aside0.mk (Kd.R_below (by (with_reducible repeat (first | apply Kd.R_alloc | apply Kd.R_drewN | apply Kd.R_drew)); exact HO235.out) hb); have n2_ := Aside0.mk (blk_below (g := gb236) (o := .cells #[.slice Ao19 t230.length co19, .slice Ao21 t233.length co21] 35 (0, 0)) (by (with_reducible repeat (first | refine blk_drewN ?_ _ | refine blk_drew ?_ | refine blk_alloc ?_ _)); exact BK236.out) hb); have n3_ := Aside0.mk (below_step (by repeat (first | (with_reducible first | exact HB.out | apply below_alloc | apply pw_below_drewN | apply below_drew1 | refine below_set ?_ GE236.out) | exact HB.out)) hb); clear HO232; clear HO235; clear BK236; clear HB; have HO232 := n0_; have HO235 := n1_; have BK236 := n2_; have HB := n3_; clear n0_ n1_ n2_ n3_; (try clear hb); (try clear hb2); (try clear hk); (try clear hi); have hcz25_0 : w24.cell? ⟨gb236, 0, none⟩ = some (.slice Ao19 t230.length co19) := (blk_cell BK236.out 0).trans rfl; have hcz25_1 : w24.cell? ⟨gb236, 1, none⟩ = some (.slice Ao21 t233.length co21) := (blk_cell BK236.out 1).trans rfl; have hfz25_0 := blk_frozen BK236.out 0; have hfz25_1 := blk_frozen BK236.out 1; have q26 : ((ji12) : Int) ≤ ((t230.length : Int) : Int) := of_decide_eq_true (by first | (with_reducible assumption) | assumption); obtain ⟨i026, hi026, _, hsz26, _⟩ := info_parts info41; have hroom26 : t230.length ≤ co19 := (Kd.R_reads' HO232.out).2.1; have hC26 : Kd.C k41 _ Ao19 t230.length t230 := (Kd.R_reads' HO232.out).2.2; have ql26 : (t237 : Int) ≤ ((ji12) : Int) := of_decide_eq_true (by first | (with_reducible assumption) | assumption); have q026 : (0 : Int) ≤ (t237 : Int) := of_decide_eq_true (by first | (with_reducible assumption) | assumption); have hcut26 := cut_mid (P := Try.prog) 32 41 .i64 .i64 Try.underlying32 hi026 4 hsz26 Ao19 t230.length co19 t237 (ji12) q026 ql26 q26 hroom26; have hr26 := Kd.C_mid (lo := (t237 : Int).toNat) (hi := ((ji12) : Int).toNat) (c := co19) hC26 (by omega) (by omega) hroom26; obtain ⟨A26, hA26⟩ : ∃ A1, A1 = (if co19 = (t237 : Int).toNat then Ao19 else (Ao19 : Option Addr).map (·.add ((t237 : Int).toNat * 4))) := ⟨_, rfl⟩; obtain ⟨c26, hc26⟩ : ∃ c1, c1 = co19 - (t237 : Int).toNat := ⟨_, rfl⟩; have hy26 : y239.length = ((ji12) : Int).toNat - (t237 : Int).toNat := (by rw [Ny239.out, List.length_drop, List.length_take] <;> omega); rw [show ((t230).take ((ji12) : Int).toNat).drop (t237 : Int).toNat = y239 from Ny239.out.symm] at hr26; replace hr26 : Kd.C k41 _ A26 y239.length y239 := (by rw [hA26]; exact hr26); rw [← hy26, ← hA26, ← hc26] at hcut26; have HR242 := Aside0.mk hr26; have HC242 := Aside0.mk (show y239.length ≤ c26 from by rw [hy26, hc26]; exact Nat.sub_le_sub_right (Nat.le_trans (by omega) hroom26) _); clear hr26 hC26 hroom26 hi026 hsz26 hc26; have KY26 := Aside0.mk hy26; have KA26 := Aside0.mk hA26; clear hy26 hA26; have KL26 := Aside0.mk (show ((ji12) : Int).toNat ≤ t230.length from by omega); have KM26 := Aside0.mk (show (t237 : Int).toNat ≤ ((ji12) : Int).toNat from by omega); replace q26 := eq_true q26))
            go_loopg [44] k (fun kq v44 w' => ∃ (x44_1 : Int), v44 = .int .i64 x44_1 ∧ Aside0 (stanzalaw13_SpanColumns.l0 kq a4 t237 t238 (wrap64 (1 + (wrap64 (Int.tmod a3 64)))) y239 (y239.length : Int) x44_1 t230 t233 = some r) ∧ Aside0 (kq ≤ k) ∧ Aside0 (Kd.R k41 41 w' w.heap.size (fun _ => True) (.slice Ao19 t230.length co19) t230) ∧ Aside0 (Kd.R (Kd.int .u8) 46 w' w.heap.size (fun _ => True) (.slice Ao21 t233.length co21) t233) ∧ Aside0 (w'.heap[gb236]? = some (.cells #[(.slice Ao19 t230.length co19), (.slice Ao21 t233.length co21)] 35 (0, 0))) ∧ Aside0 (Below w.heap.size w w'))
            case atStart => exact ⟨(0), (by first | rfl | (simp; done) | (simp [*]; done)), H', ⟨Nat.le_refl _⟩, ⟨by (with_reducible repeat (first | apply Kd.R_alloc | apply Kd.R_drewN | apply Kd.R_drew)); exact HO232.out⟩, ⟨by (with_reducible repeat (first | apply Kd.R_alloc | apply Kd.R_drewN | apply Kd.R_drew)); exact HO235.out⟩, ⟨by (with_reducible repeat (first | refine blk_drewN ?_ _ | refine blk_drew ?_ | refine blk_alloc ?_ _)); exact BK236.out⟩, ⟨by repeat (first | (with_reducible first | exact HB.out | apply below_alloc | apply pw_below_drewN | apply below_drew1 | refine below_set ?_ GE236.out) | exact HB.out)⟩⟩
            case round =>
              clear H'
              try clear c1
              try clear c2
              try clear p2
              try clear q2
              try clear c6
              try clear p6
              try clear c7
              try clear c8
              try clear c8b0
              try clear c8b1
              try clear c13
              try clear c13b0
              try clear c13b1
              try clear c14
              try clear c14b0
              try clear c14b1
              try clear c15
              try clear c15b0
              try clear c15b1
              try clear c18
              try clear c19
              try clear c20
              try clear c26
              try clear q26
              try clear hcz20_0
              try clear hcz20_1
              try clear hcz23_0
              try clear hcz23_1
              try clear hcz25_0
              try clear hcz25_1
              try clear hfz20_0
              try clear hfz20_1
              try clear hfz23_0
              try clear hfz23_1
              try clear hfz25_0
              try clear hfz25_1
              try clear q026
              try clear q26
              obtain ⟨x44_1, rfl, HA, HK1, HO_237000, HO_237001, BK236, HB⟩ := hrel
              cases gk with
              | zero => exact absurd HA.out (by simp [stanzalaw13_SpanColumns.l0])
              | succ k1 =>
                have H := HA.out
                clear HA
                simp only [stanzalaw13_SpanColumns.l0] at H
                by_cases c27 : x44_1 < (y239.length : Int)
                · rw [if_pos c27] at H
                  have c27b0 : decide (x44_1 < (y239.length : Int)) = true := decide_eq_true c27
                  clear c27
                  by_cases c28 : 0 ≤ x44_1
                  · rw [if_pos c28] at H
                    have c28b0 : decide (0 ≤ x44_1) = true := decide_eq_true c28
                    clear c28
                    by_cases c29 : x44_1 < (y239.length : Int)
                    · rw [if_pos c29] at H
                      have c29b0 : decide (x44_1 < (y239.length : Int)) = true := decide_eq_true c29
                      clear c29
                      replace H := Option.bind_eq_some_iff.mp H
                      obtain ⟨t252, A300, H⟩ := H
                      replace H : ((stanzaref13_Next.f k1 ((rd_T41 y239 x44_1).f0) ((rd_T41 y239 x44_1).f1) ((rd_T41 y239 x44_1).f2) ((rd_T41 y239 x44_1).f3) (wrap64 (a4)) (wrap64 (1 + (wrap64 (Int.tmod a3 64))))).bind fun t253 => (if t252 = t253 then (stanzalaw13_SpanColumns.l0 k1 a4 t237 t238 (wrap64 (1 + (wrap64 (Int.tmod a3 64)))) y239 (y239.length : Int) (wrap64 (x44_1 + 1)) t230 t233) else (some false))) = some r := H
                      have A30 := Aside0.mk A300
                      clear A300
                      replace H := Option.bind_eq_some_iff.mp H
                      obtain ⟨t253, A310, H⟩ := H
                      replace H : (if t252 = t253 then (stanzalaw13_SpanColumns.l0 k1 a4 t237 t238 (wrap64 (1 + (wrap64 (Int.tmod a3 64)))) y239 (y239.length : Int) (wrap64 (x44_1 + 1)) t230 t233) else (some false)) = some r := H
                      have A31 := Aside0.mk A310
                      clear A310
                      by_cases c32 : t252 = t253
                      · rw [if_pos c32] at H
                        have c32b0 : (t252 == t253) = true := beq_iff_eq.mpr c32
                        have c32b1 : (t252 != t253) = false := bne_eq_false_iff_eq.mpr c32
                        clear c32
                        have H' := Aside0.mk H
                        clear H
                        have p250 : 0 ≤ (x44_1 : Int) := of_decide_eq_true (by first | (with_reducible assumption) | assumption)
                        have q250 : x44_1 < (y239.length : Int) := of_decide_eq_true (by first | (with_reducible assumption) | assumption)
                        obtain ⟨ad250, e250, hx250_0, hx250_1, hx250_2, hx250_3⟩ := at_T41 (show Kd.C k41 _ A26 y239.length y239 from by rw [Ny239.out, KA26.out]; exact Kd.C_mid (lo := (t237 : Int).toNat) (hi := ((ji12) : Int).toNat) (c := co19) ((Kd.R_reads' HO_237000.out).2.2) KM26.out KL26.out ((Kd.R_reads' HO_237000.out).2.1)) x44_1 p250 q250
                        cases e250
                        replace p250 := eq_true p250
                        replace q250 := eq_true q250
                        try go_wp2_with (first | ((with_reducible refine gate_dst (N := 16) rfl ?_); refine box_event ?hg (N := 16) ?hd (cs := #[.int .i64 0, .int .i64 0, .int .i64 0, .int .u8 0]) (t := 41) ?hr ?_; (case hd => rfl); (case hg => rfl); (case hr => first | (go_simp; done) | (go_simp; rfl)); intro gb251 hg w33 hbox hb; have n0_ := Aside0.mk (Kd.R_below (Kd.R_elderB (by (with_reducible repeat (first | apply Kd.R_alloc | apply Kd.R_drewN | apply Kd.R_drew)); exact HO_237000.out) gb251 (Nat.le_of_eq hg.symm)) hb); have n1_ := Aside0.mk (Kd.R_below (by (with_reducible repeat (first | apply Kd.R_alloc | apply Kd.R_drewN | apply Kd.R_drew)); exact HO_237001.out) hb); have n2_ := Aside0.mk (blk_below (g := gb236) (o := .cells #[.slice Ao19 t230.length co19, .slice Ao21 t233.length co21] 35 (0, 0)) (by (with_reducible repeat (first | refine blk_drewN ?_ _ | refine blk_drew ?_ | refine blk_alloc ?_ _)); exact BK236.out) hb); have n3_ := Aside0.mk (below_step (by repeat (first | (with_reducible first | exact HB.out | apply below_alloc | apply pw_below_drewN | apply below_drew1 | refine below_set ?_ GE236.out) | exact HB.out)) hb); have n4_ := Aside0.mk (hbox); have n5_ := Aside0.mk ((by rw [hg]; exact (below_size (by repeat (first | (with_reducible first | exact HB.out | apply below_alloc | apply pw_below_drewN | apply below_drew1 | refine below_set ?_ GE236.out) | exact HB.out))) : w.heap.size ≤ gb251)); have n6_ := Aside0.mk ((by rw [hg]; exact (below_size (by repeat (first | (with_reducible first | exact HB.out | apply below_alloc | apply pw_below_drewN | apply below_drew1 | refine below_set ?_ GE236.out) | exact HB.out))) : w.heap.size ≤ gb251)); have n7_ := Aside0.mk ((by rw [hg]; exact Nat.ne_of_lt (blk_lt (g := gb236) (o := .cells #[.slice Ao19 t230.length co19, .slice Ao21 t233.length co21] 35 (0, 0)) (by (with_reducible repeat (first | refine blk_drewN ?_ _ | refine blk_drew ?_ | refine blk_alloc ?_ _)); exact BK236.out)) : gb236 ≠ gb251)); have n8_ := Aside0.mk ((by rw [hg]; exact Nat.ne_of_gt (blk_lt (g := gb236) (o := .cells #[.slice Ao19 t230.length co19, .slice Ao21 t233.length co21] 35 (0, 0)) (by (with_reducible repeat (first | refine blk_drewN ?_ _ | refine blk_drew ?_ | refine blk_alloc ?_ _)); exact BK236.out)) : gb251 ≠ gb236)); clear HO_237000; clear HO_237001; clear BK236; clear HB; have HO_237000 := n0_; have HO_237001 := n1_; have BK236 := n2_; have HB := n3_; have BK251 := n4_; have GW251 := n5_; have GE251 := n6_; have NB236_251 := n7_; have NB251_236 := n8_; clear n0_ n1_ n2_ n3_ n4_ n5_ n6_ n7_ n8_; clear hb hbox hg; have hnb34 := NB251_236.out; have hnc34 := NB236_251.out; have hcz35_0 : w33.cell? ⟨gb251, 0, none⟩ = some (.int .i64 0) := (blk_cell BK251.out 0).trans rfl; have hcz35_1 : w33.cell? ⟨gb251, 1, none⟩ = some (.int .i64 0) := (blk_cell BK251.out 1).trans rfl; have hcz35_2 : w33.cell? ⟨gb251, 2, none⟩ = some (.int .i64 0) := (blk_cell BK251.out 2).trans rfl; have hcz35_3 : w33.cell? ⟨gb251, 3, none⟩ = some (.int .u8 0) := (blk_cell BK251.out 3).trans rfl; have hfz35_0 := blk_frozen BK251.out 0; have hfz35_1 := blk_frozen BK251.out 1; have hfz35_2 := blk_frozen BK251.out 2; have hfz35_3 := blk_frozen BK251.out 3) | ((with_reducible refine gate_store (t := 41) (p := 16) rfl ?_); refine store_event (t := 41) (p := 16) (v := ?vo_w36) (w1 := ((((w33.setCell ⟨gb251, 0, none⟩ (.int .i64 ((rd_T41 y239 x44_1).f0))).setCell ⟨gb251, 1, none⟩ (.int .i64 ((rd_T41 y239 x44_1).f1))).setCell ⟨gb251, 2, none⟩ (.int .i64 ((rd_T41 y239 x44_1).f2))).setCell ⟨gb251, 3, none⟩ (.int .u8 ((rd_T41 y239 x44_1).f3)))) ?hg ?ho ?hn ?hr ?_; (case ho => rfl); (case hg => rfl); (case hn => rfl); (case hr => first | (go_simp; done) | (go_simp; rfl)); intro w36 hw; have n0_ : Aside0 (Kd.R k41 41 w36 w.heap.size (fun k_ => k_ ≠ gb251) (.slice Ao19 t230.length co19) t230) := ⟨(by rw [hw]; exact (by (with_reducible repeat (first | apply Kd.R_alloc | apply Kd.R_drewN | apply Kd.R_drew)); exact Kd.R_mono (Kd.R_far (p := ⟨gb251, 3, none⟩) (Kd.R_far (p := ⟨gb251, 2, none⟩) (Kd.R_far (p := ⟨gb251, 1, none⟩) (Kd.R_far (p := ⟨gb251, 0, none⟩) (Kd.R_mono HO_237000.out (fun k_ hk => (⟨hk, hk.2⟩ : _ ∧ k_ ≠ gb251))) (fun _ hk => hk.2) (.int .i64 ((rd_T41 y239 x44_1).f0))) (fun _ hk => hk.2) (.int .i64 ((rd_T41 y239 x44_1).f1))) (fun _ hk => hk.2) (.int .i64 ((rd_T41 y239 x44_1).f2))) (fun _ hk => hk.2) (.int .u8 ((rd_T41 y239 x44_1).f3))) (fun _ hk => hk.1.2)))⟩; have n1_ : Aside0 (Kd.R (Kd.int .u8) 46 w36 w.heap.size (fun _ => True) (.slice Ao21 t233.length co21) t233) := ⟨(by rw [hw]; exact (by (with_reducible repeat (first | apply Kd.R_alloc | apply Kd.R_drewN | apply Kd.R_drew)); exact Kd.R_mono (Kd.R_far (p := ⟨gb251, 3, none⟩) (Kd.R_far (p := ⟨gb251, 2, none⟩) (Kd.R_far (p := ⟨gb251, 1, none⟩) (Kd.R_far (p := ⟨gb251, 0, none⟩) (Kd.R_types HO_237001.out BK251.out (by decide)) (fun _ hk => hk.2) (.int .i64 ((rd_T41 y239 x44_1).f0))) (fun _ hk => hk.2) (.int .i64 ((rd_T41 y239 x44_1).f1))) (fun _ hk => hk.2) (.int .i64 ((rd_T41 y239 x44_1).f2))) (fun _ hk => hk.2) (.int .u8 ((rd_T41 y239 x44_1).f3))) (fun _ hk => trivial)))⟩; have n2_ : Aside0 (w36.heap[gb236]? = some (.cells #[.slice Ao19 t230.length co19, .slice Ao21 t233.length co21] 35 (0, 0))) := ⟨(by rw [hw]; exact (by (with_reducible repeat (first | refine blk_drewN ?_ _ | refine blk_drew ?_ | refine blk_alloc ?_ _)); refine blk_far ?_ NB236_251.out _; (with_reducible repeat (first | refine blk_drewN ?_ _ | refine blk_drew ?_ | refine blk_alloc ?_ _)); refine blk_far ?_ NB236_251.out _; (with_reducible repeat (first | refine blk_drewN ?_ _ | refine blk_drew ?_ | refine blk_alloc ?_ _)); refine blk_far ?_ NB236_251.out _; (with_reducible repeat (first | refine blk_drewN ?_ _ | refine blk_drew ?_ | refine blk_alloc ?_ _)); refine blk_far ?_ NB236_251.out _; (with_reducible repeat (first | refine blk_drewN ?_ _ | refine blk_drew ?_ | refine blk_alloc ?_ _)); exact BK236.out))⟩; have n3_ : Aside0 (w36.heap[gb251]? = some (.cells #[.int .i64 ((rd_T41 y239 x44_1).f0), .int .i64 ((rd_T41 y239 x44_1).f1), .int .i64 ((rd_T41 y239 x44_1).f2), .int .u8 ((rd_T41 y239 x44_1).f3)] 41 (0, 0))) := ⟨(by rw [hw]; exact (by (with_reducible repeat (first | refine blk_drewN ?_ _ | refine blk_drew ?_ | refine blk_alloc ?_ _)); refine blk_put (cs := #[.int .i64 ((rd_T41 y239 x44_1).f0), .int .i64 ((rd_T41 y239 x44_1).f1), .int .i64 ((rd_T41 y239 x44_1).f2), .int .u8 0]) ?_ 3 _ rfl; (with_reducible repeat (first | refine blk_drewN ?_ _ | refine blk_drew ?_ | refine blk_alloc ?_ _)); refine blk_put (cs := #[.int .i64 ((rd_T41 y239 x44_1).f0), .int .i64 ((rd_T41 y239 x44_1).f1), .int .i64 0, .int .u8 0]) ?_ 2 _ rfl; (with_reducible repeat (first | refine blk_drewN ?_ _ | refine blk_drew ?_ | refine blk_alloc ?_ _)); refine blk_put (cs := #[.int .i64 ((rd_T41 y239 x44_1).f0), .int .i64 0, .int .i64 0, .int .u8 0]) ?_ 1 _ rfl; (with_reducible repeat (first | refine blk_drewN ?_ _ | refine blk_drew ?_ | refine blk_alloc ?_ _)); refine blk_put (cs := #[.int .i64 0, .int .i64 0, .int .i64 0, .int .u8 0]) ?_ 0 _ rfl; (with_reducible repeat (first | refine blk_drewN ?_ _ | refine blk_drew ?_ | refine blk_alloc ?_ _)); exact BK251.out))⟩; have n4_ : Aside0 (Below w.heap.size w w36) := ⟨(by rw [hw]; exact (by repeat (first | (with_reducible first | exact HB.out | apply below_alloc | apply pw_below_drewN | apply below_drew1 | refine below_set ?_ GE236.out | refine below_set ?_ GE251.out) | exact HB.out)))⟩; clear hw; clear HO_237000; clear HO_237001; clear BK236; clear BK251; clear HB; have HO_237000 := n0_; have HO_237001 := n1_; have BK236 := n2_; have BK251 := n3_; have HB := n4_; clear n0_ n1_ n2_ n3_ n4_))
                        have n0_ := Aside0.mk (Kd.R_drew HO_237000.out)
                        have n1_ := Aside0.mk (Kd.R_drew HO_237001.out)
                        have n2_ := Aside0.mk (blk_drew BK236.out)
                        have n3_ := Aside0.mk (blk_drew BK251.out)
                        have n4_ := Aside0.mk (below_drew1 HB.out)
                        clear HO_237000
                        clear HO_237001
                        clear BK236
                        clear BK251
                        clear HB
                        have HO_237000 := n0_
                        have HO_237001 := n1_
                        have BK236 := n2_
                        have BK251 := n3_
                        have HB := n4_
                        clear n0_ n1_ n2_ n3_ n4_
                        refine start_ (n := 11) (S := fun w' => w'.cell? ⟨gb251, 0, none⟩ = some (.int .i64 ((rd_T41 y239 x44_1).f0)) ∧ w'.cell? ⟨gb251, 1, none⟩ = some (.int .i64 ((rd_T41 y239 x44_1).f1)) ∧ w'.cell? ⟨gb251, 2, none⟩ = some (.int .i64 ((rd_T41 y239 x44_1).f2)) ∧ w'.cell? ⟨gb251, 3, none⟩ = some (.int .u8 ((rd_T41 y239 x44_1).f3))) (ds := []) #[false, false, false, false, false, false, false, false, false, false, false] (by kernel_rfl) rfl rfl ⟨(blk_cell BK251.out 0).trans rfl, (blk_cell BK251.out 1).trans rfl, (blk_cell BK251.out 2).trans rfl, (blk_cell BK251.out 3).trans rfl⟩ (fun hHeld => ?_); refine with_tabW stanzalaw13_SpanColumns.tab11 stanzalaw13_SpanColumns.bits11 (fun HT_ HW_ => ?_)
                        generalize w36.drew = w37 at HO_237000 HO_237001 BK236 BK251 HB hHeld ⊢
                        refine pure_ (i := 1) (N := some 49) (v := ?_) (a' := ?_) #[false, true, false, false, false, false, false, false, false, false, false] rfl rfl (any_of HT_.out (by kernel_rfl)) (fun _ _ _ h => h) (Or.inl ⟨by rfl, ?_⟩) ?_ ?_
                        rotate_left
                        · intro w'
                          go_simp
                          with_reducible rfl
                        rotate_left
                        · simp only [Act.put, List.setIfInBounds_toArray, List.set_cons_zero, List.set_cons_succ, i64_w, i32_w]
                          rfl
                        refine pure_ (i := 2) (N := some 50) (v := ?_) (a' := ?_) #[false, true, true, false, false, false, false, false, false, false, false] rfl rfl (any_of HT_.out (by kernel_rfl)) (fun _ _ _ h => h) (Or.inl ⟨by rfl, ?_⟩) ?_ ?_
                        rotate_left
                        · intro w'
                          go_simp
                          with_reducible rfl
                        rotate_left
                        · simp only [Act.put, List.setIfInBounds_toArray, List.set_cons_zero, List.set_cons_succ, i64_w, i32_w]
                          rfl
                        refine pure_ (i := 3) (N := some 51) (v := ?_) (a' := ?_) #[false, true, true, true, false, false, false, false, false, false, false] rfl rfl (any_of HT_.out (by kernel_rfl)) (fun _ _ _ h => h) (Or.inl ⟨by rfl, ?_⟩) ?_ ?_
                        rotate_left
                        · intro w'
                          go_simp
                          with_reducible rfl
                        rotate_left
                        · simp only [Act.put, List.setIfInBounds_toArray, List.set_cons_zero, List.set_cons_succ, i64_w, i32_w]
                          rfl
                        refine pure_ (i := 6) (N := some 54) (v := ?_) (a' := ?_) #[false, true, true, true, false, false, true, false, false, false, false] rfl rfl (any_of HT_.out (by kernel_rfl)) (fun _ _ _ h => h) (Or.inl ⟨by rfl, ?_⟩) ?_ ?_
                        rotate_left
                        · intro w'
                          go_simp
                          with_reducible rfl
                        rotate_left
                        · simp only [Act.put, List.setIfInBounds_toArray, List.set_cons_zero, List.set_cons_succ, i64_w, i32_w]
                          rfl
                        refine pure_ (i := 7) (N := some 55) (v := ?_) (a' := ?_) #[false, true, true, true, false, false, true, true, false, false, false] rfl rfl (any_of HT_.out (by kernel_rfl)) (fun _ _ _ h => h) (Or.inl ⟨by rfl, ?_⟩) ?_ ?_
                        rotate_left
                        · intro w'
                          go_simp
                          with_reducible rfl
                        rotate_left
                        · simp only [Act.put, List.setIfInBounds_toArray, List.set_cons_zero, List.set_cons_succ, i64_w, i32_w]
                          rfl
                        refine pure_ (i := 8) (N := some 56) (v := ?_) (a' := ?_) #[false, true, true, true, false, false, true, true, true, false, false] rfl rfl (any_of HT_.out (by kernel_rfl)) (fun _ _ _ h => h) (Or.inl ⟨by rfl, ?_⟩) ?_ ?_
                        rotate_left
                        · intro w'
                          go_simp
                          with_reducible rfl
                        rotate_left
                        · simp only [Act.put, List.setIfInBounds_toArray, List.set_cons_zero, List.set_cons_succ, i64_w, i32_w]
                          rfl
                        refine take_ (i := 0) (N := some 48) (v := ?_) (a' := ?_) #[true, true, true, true, false, false, true, true, true, false, false] rfl rfl (take_ofW HT_.out HW_.out (by kernel_rfl)) (fun _ _ _ h => h) (Or.inl ⟨by rfl, ?_⟩) hHeld ?_ ?_
                        rotate_left
                        · rintro w' ⟨s0, s1, s2, s3⟩
                          go_simp
                          with_reducible rfl
                        rotate_left
                        · simp only [Act.put, List.setIfInBounds_toArray, List.set_cons_zero, List.set_cons_succ, i64_w, i32_w]
                          rfl
                        refine take_ (i := 5) (N := some 53) (v := ?_) (a' := ?_) #[true, true, true, true, false, true, true, true, true, false, false] rfl rfl (take_ofW HT_.out HW_.out (by kernel_rfl)) (fun _ _ _ h => h) (Or.inl ⟨by rfl, ?_⟩) hHeld ?_ ?_
                        rotate_left
                        · rintro w' ⟨s0, s1, s2, s3⟩
                          go_simp
                          with_reducible rfl
                        rotate_left
                        · simp only [Act.put, List.setIfInBounds_toArray, List.set_cons_zero, List.set_cons_succ, i64_w, i32_w]
                          rfl
                        refine one_ (i := 4) (N := some 52) #[true, true, true, true, true, true, true, true, true, false, false] rfl rfl (one_of HT_.out (by kernel_rfl)) (by decide) (fun K hK => ?_)
                        refine goes_ Try.func21 (by kernel_rfl) rfl #[.agg #[.int .i64 ((rd_T41 y239 x44_1).f0), .int .i64 ((rd_T41 y239 x44_1).f1), .int .i64 ((rd_T41 y239 x44_1).f2), .int .u8 ((rd_T41 y239 x44_1).f3)], .int .i64 (wrap64 (a4)), .int .i64 (wrap64 (1 + (wrap64 (Int.tmod a3 64))))] (by rfl) rfl rfl (by (try simp only [List.map_toArray, List.map_cons, List.map_nil]); first | done | rfl | (simp only [List.length_drop, List.length_take]; rfl)) ?_
                        with_reducible refine (span_Next.calls ((rd_T41 y239 x44_1).f0) ((rd_T41 y239 x44_1).f1) ((rd_T41 y239 x44_1).f2) ((rd_T41 y239 x44_1).f3) (wrap64 (a4)) (wrap64 (1 + (wrap64 (Int.tmod a3 64)))) t252 _ A30.out).mono ?_
                        rintro e w38 ⟨rfl, hb⟩
                        refine ⟨_, rfl, ?_⟩
                        have n0_ := Aside0.mk (Kd.R_below (by (with_reducible repeat (first | apply Kd.R_alloc | apply Kd.R_drewN | apply Kd.R_drew)); exact HO_237000.out) hb)
                        have n1_ := Aside0.mk (Kd.R_below (by (with_reducible repeat (first | apply Kd.R_alloc | apply Kd.R_drewN | apply Kd.R_drew)); exact HO_237001.out) hb)
                        have n2_ := Aside0.mk (blk_below (g := gb236) (o := .cells #[.slice Ao19 t230.length co19, .slice Ao21 t233.length co21] 35 (0, 0)) (by (with_reducible repeat (first | refine blk_drewN ?_ _ | refine blk_drew ?_ | refine blk_alloc ?_ _)); exact BK236.out) hb)
                        have n3_ := Aside0.mk (blk_below (g := gb251) (o := .cells #[.int .i64 ((rd_T41 y239 x44_1).f0), .int .i64 ((rd_T41 y239 x44_1).f1), .int .i64 ((rd_T41 y239 x44_1).f2), .int .u8 ((rd_T41 y239 x44_1).f3)] 41 (0, 0)) (by (with_reducible repeat (first | refine blk_drewN ?_ _ | refine blk_drew ?_ | refine blk_alloc ?_ _)); exact BK251.out) hb)
                        have n4_ := Aside0.mk (below_step (by repeat (first | (with_reducible first | exact HB.out | apply below_alloc | apply pw_below_drewN | apply below_drew1 | refine below_set ?_ GE236.out | refine below_set ?_ GE251.out) | exact HB.out)) hb)
                        clear HO_237000
                        clear HO_237001
                        clear BK236
                        clear BK251
                        clear HB
                        have HO_237000 := n0_
                        have HO_237001 := n1_
                        have BK236 := n2_
                        have BK251 := n3_
                        have HB := n4_
                        clear n0_ n1_ n2_ n3_ n4_
                        (try clear hb)
                        (try clear hb2)
                        (try clear hk)
                        (try clear hi)
                        refine hK.out _ _ ⟨(blk_cell BK251.out 0).trans rfl, (blk_cell BK251.out 1).trans rfl, (blk_cell BK251.out 2).trans rfl, (blk_cell BK251.out 3).trans rfl⟩ (fun hHeld => ?_)
                        clear hK K
                        refine norm_ (a' := ?_) ?_ ?_
                        rotate_left
                        · show Act.put _ (some 52) _ = _
                          simp only [Act.put, List.setIfInBounds_toArray, List.set_cons_zero, List.set_cons_succ, i64_w, i32_w]
                          rfl
                        refine one_ (i := 9) (N := some 57) #[true, true, true, true, true, true, true, true, true, true, false] rfl rfl (one_of HT_.out (by kernel_rfl)) (by decide) (fun K hK => ?_)
                        refine goes_ Try.func22 (by kernel_rfl) rfl #[.agg #[.int .i64 ((rd_T41 y239 x44_1).f0), .int .i64 ((rd_T41 y239 x44_1).f1), .int .i64 ((rd_T41 y239 x44_1).f2), .int .u8 ((rd_T41 y239 x44_1).f3)], .int .i64 (wrap64 (a4)), .int .i64 (wrap64 (1 + (wrap64 (Int.tmod a3 64))))] (by rfl) rfl rfl (by (try simp only [List.map_toArray, List.map_cons, List.map_nil]); first | done | rfl | (simp only [List.length_drop, List.length_take]; rfl)) ?_
                        with_reducible refine (stanzaref13_Next.calls k1 ((rd_T41 y239 x44_1).f0) ((rd_T41 y239 x44_1).f1) ((rd_T41 y239 x44_1).f2) ((rd_T41 y239 x44_1).f3) (wrap64 (a4)) (wrap64 (1 + (wrap64 (Int.tmod a3 64)))) t253 _ A31.out).mono ?_
                        rintro e w39 ⟨rfl, hb⟩
                        refine ⟨_, rfl, ?_⟩
                        have n0_ := Aside0.mk (Kd.R_below (by (with_reducible repeat (first | apply Kd.R_alloc | apply Kd.R_drewN | apply Kd.R_drew)); exact HO_237000.out) hb)
                        have n1_ := Aside0.mk (Kd.R_below (by (with_reducible repeat (first | apply Kd.R_alloc | apply Kd.R_drewN | apply Kd.R_drew)); exact HO_237001.out) hb)
                        have n2_ := Aside0.mk (blk_below (g := gb236) (o := .cells #[.slice Ao19 t230.length co19, .slice Ao21 t233.length co21] 35 (0, 0)) (by (with_reducible repeat (first | refine blk_drewN ?_ _ | refine blk_drew ?_ | refine blk_alloc ?_ _)); exact BK236.out) hb)
                        have n3_ := Aside0.mk (blk_below (g := gb251) (o := .cells #[.int .i64 ((rd_T41 y239 x44_1).f0), .int .i64 ((rd_T41 y239 x44_1).f1), .int .i64 ((rd_T41 y239 x44_1).f2), .int .u8 ((rd_T41 y239 x44_1).f3)] 41 (0, 0)) (by (with_reducible repeat (first | refine blk_drewN ?_ _ | refine blk_drew ?_ | refine blk_alloc ?_ _)); exact BK251.out) hb)
                        have n4_ := Aside0.mk (below_step (by repeat (first | (with_reducible first | exact HB.out | apply below_alloc | apply pw_below_drewN | apply below_drew1 | refine below_set ?_ GE236.out | refine below_set ?_ GE251.out) | exact HB.out)) hb)
                        clear HO_237000
                        clear HO_237001
                        clear BK236
                        clear BK251
                        clear HB
                        have HO_237000 := n0_
                        have HO_237001 := n1_
                        have BK236 := n2_
                        have BK251 := n3_
                        have HB := n4_
                        clear n0_ n1_ n2_ n3_ n4_
                        (try clear hb)
                        (try clear hb2)
                        (try clear hk)
                        (try clear hi)
                        refine hK.out _ _ ⟨(blk_cell BK251.out 0).trans rfl, (blk_cell BK251.out 1).trans rfl, (blk_cell BK251.out 2).trans rfl, (blk_cell BK251.out 3).trans rfl⟩ (fun hHeld => ?_)
                        clear hK K
                        refine norm_ (a' := ?_) ?_ ?_
                        rotate_left
                        · show Act.put _ (some 57) _ = _
                          simp only [Act.put, List.setIfInBounds_toArray, List.set_cons_zero, List.set_cons_succ, i64_w, i32_w]
                          rfl
                        refine pure_ (i := 10) (N := some 58) (v := ?_) (a' := ?_) #[true, true, true, true, true, true, true, true, true, true, true] rfl rfl (any_of HT_.out (by kernel_rfl)) (fun _ _ _ h => h) (Or.inl ⟨by rfl, ?_⟩) ?_ ?_
                        rotate_left
                        · intro w'
                          go_simp
                          with_reducible rfl
                        rotate_left
                        · simp only [Act.put, List.setIfInBounds_toArray, List.set_cons_zero, List.set_cons_succ, i64_w, i32_w]
                          rfl
                        refine done_ (done_of HT_.out (by kernel_rfl)) ?_
                        try go_wp2
                        go_roundg k1
                        case measure => have := HK1.out; omega
                        case rel => exact ⟨(wrap64 (x44_1 + 1)), (by first | rfl | (simp; done) | (simp [*]; done)), H', ⟨by have := HK1.out; omega⟩, ⟨by (with_reducible repeat (first | apply Kd.R_alloc | apply Kd.R_drewN | apply Kd.R_drew)); exact Kd.R_mono HO_237000.out (fun _ hk => trivial)⟩, ⟨by (with_reducible repeat (first | apply Kd.R_alloc | apply Kd.R_drewN | apply Kd.R_drew)); exact HO_237001.out⟩, ⟨by (with_reducible repeat (first | refine blk_drewN ?_ _ | refine blk_drew ?_ | refine blk_alloc ?_ _)); exact BK236.out⟩, ⟨by repeat (first | (with_reducible first | exact HB.out | apply below_alloc | apply pw_below_drewN | apply below_drew1 | refine below_set ?_ GE236.out | refine below_set ?_ GE251.out) | exact HB.out)⟩⟩
                      · rw [if_neg c32] at H
                        have c32b0 : (t252 == t253) = false := beq_eq_false_iff_ne.mpr c32
                        have c32b1 : (t252 != t253) = true := bne_iff_ne.mpr c32
                        exact absurd ((Option.some.inj H).trans hrt_.out) (by decide)
                    · rw [if_neg c29] at H
                      exact absurd H (by simp)
                  · rw [if_neg c28] at H
                    exact absurd H (by simp)
                · rw [if_neg c27] at H
                  have c27b0 : decide (x44_1 < (y239.length : Int)) = false := decide_eq_false c27
                  clear c27
                  replace H := Option.bind_eq_some_iff.mp H
                  obtain ⟨t243, A400, H⟩ := H
                  replace H : ((stanzaref13_Columns.f k1 t230 t233 t237 t238 (wrap64 (1 + (wrap64 (Int.tmod a3 64))))).bind fun t246 => ((stanzaref01_SameInts.f k1 t243 t246).bind fun t249 => (some t249))) = some r := H
                  have A40 := Aside0.mk A400
                  clear A400
                  replace H := Option.bind_eq_some_iff.mp H
                  obtain ⟨t246, A410, H⟩ := H
                  replace H : ((stanzaref01_SameInts.f k1 t243 t246).bind fun t249 => (some t249)) = some r := H
                  have A41 := Aside0.mk A410
                  clear A410
                  replace H := Option.bind_eq_some_iff.mp H
                  obtain ⟨t249, A420, H⟩ := H
                  replace H : (some t249) = some r := H
                  have A42 := Aside0.mk A420
                  clear A420
                  obtain rfl := Option.some.inj H
                  try go_wp2
                  have n0_ := Aside0.mk (Kd.R_drew HO_237000.out)
                  have n1_ := Aside0.mk (Kd.R_drew HO_237001.out)
                  have n2_ := Aside0.mk (blk_drew BK236.out)
                  have n3_ := Aside0.mk (below_drew1 HB.out)
                  clear HO_237000
                  clear HO_237001
                  clear BK236
                  clear HB
                  have HO_237000 := n0_
                  have HO_237001 := n1_
                  have BK236 := n2_
                  have HB := n3_
                  clear n0_ n1_ n2_ n3_
                  refine start_ (n := 12) (S := fun w' => w'.cell? ⟨gb236, 0, none⟩ = some (.slice Ao19 t230.length co19) ∧ w'.cell? ⟨gb236, 1, none⟩ = some (.slice Ao21 t233.length co21)) (ds := []) #[false, false, false, false, false, false, false, false, false, false, false, false] (by kernel_rfl) rfl rfl ⟨(blk_cell BK236.out 0).trans rfl, (blk_cell BK236.out 1).trans rfl⟩ (fun hHeld => ?_); refine with_tabW stanzalaw13_SpanColumns.tab14 stanzalaw13_SpanColumns.bits14 (fun HT_ HW_ => ?_)
                  generalize wr.drew = w43 at HO_237000 HO_237001 BK236 HB hHeld ⊢
                  refine pure_ (i := 1) (N := some 61) (v := ?_) (a' := ?_) #[false, true, false, false, false, false, false, false, false, false, false, false] rfl rfl (any_of HT_.out (by kernel_rfl)) (fun _ _ _ h => h) (Or.inl ⟨by rfl, ?_⟩) ?_ ?_
                  rotate_left
                  · intro w'
                    go_simp
                    with_reducible rfl
                  rotate_left
                  · simp only [Act.put, List.setIfInBounds_toArray, List.set_cons_zero, List.set_cons_succ, i64_w, i32_w]
                    rfl
                  refine pure_ (i := 2) (N := some 62) (v := ?_) (a' := ?_) #[false, true, true, false, false, false, false, false, false, false, false, false] rfl rfl (any_of HT_.out (by kernel_rfl)) (fun _ _ _ h => h) (Or.inl ⟨by rfl, ?_⟩) ?_ ?_
                  rotate_left
                  · intro w'
                    go_simp
                    with_reducible rfl
                  rotate_left
                  · simp only [Act.put, List.setIfInBounds_toArray, List.set_cons_zero, List.set_cons_succ, i64_w, i32_w]
                    rfl
                  refine pure_ (i := 3) (N := some 63) (v := ?_) (a' := ?_) #[false, true, true, true, false, false, false, false, false, false, false, false] rfl rfl (any_of HT_.out (by kernel_rfl)) (fun _ _ _ h => h) (Or.inl ⟨by rfl, ?_⟩) ?_ ?_
                  rotate_left
                  · intro w'
                    go_simp
                    with_reducible rfl
                  rotate_left
                  · simp only [Act.put, List.setIfInBounds_toArray, List.set_cons_zero, List.set_cons_succ, i64_w, i32_w]
                    rfl
                  refine pure_ (i := 6) (N := some 66) (v := ?_) (a' := ?_) #[false, true, true, true, false, false, true, false, false, false, false, false] rfl rfl (any_of HT_.out (by kernel_rfl)) (fun _ _ _ h => h) (Or.inl ⟨by rfl, ?_⟩) ?_ ?_
                  rotate_left
                  · intro w'
                    go_simp
                    with_reducible rfl
                  rotate_left
                  · simp only [Act.put, List.setIfInBounds_toArray, List.set_cons_zero, List.set_cons_succ, i64_w, i32_w]
                    rfl
                  refine pure_ (i := 7) (N := some 67) (v := ?_) (a' := ?_) #[false, true, true, true, false, false, true, true, false, false, false, false] rfl rfl (any_of HT_.out (by kernel_rfl)) (fun _ _ _ h => h) (Or.inl ⟨by rfl, ?_⟩) ?_ ?_
                  rotate_left
                  · intro w'
                    go_simp
                    with_reducible rfl
                  rotate_left
                  · simp only [Act.put, List.setIfInBounds_toArray, List.set_cons_zero, List.set_cons_succ, i64_w, i32_w]
                    rfl
                  refine pure_ (i := 8) (N := some 68) (v := ?_) (a' := ?_) #[false, true, true, true, false, false, true, true, true, false, false, false] rfl rfl (any_of HT_.out (by kernel_rfl)) (fun _ _ _ h => h) (Or.inl ⟨by rfl, ?_⟩) ?_ ?_
                  rotate_left
                  · intro w'
                    go_simp
                    with_reducible rfl
                  rotate_left
                  · simp only [Act.put, List.setIfInBounds_toArray, List.set_cons_zero, List.set_cons_succ, i64_w, i32_w]
                    rfl
                  refine take_ (i := 0) (N := some 60) (v := ?_) (a' := ?_) #[true, true, true, true, false, false, true, true, true, false, false, false] rfl rfl (take_ofW HT_.out HW_.out (by kernel_rfl)) (fun _ _ _ h => h) (Or.inl ⟨by rfl, ?_⟩) hHeld ?_ ?_
                  rotate_left
                  · rintro w' ⟨s0, s1⟩
                    go_simp
                    with_reducible rfl
                  rotate_left
                  · simp only [Act.put, List.setIfInBounds_toArray, List.set_cons_zero, List.set_cons_succ, i64_w, i32_w]
                    rfl
                  refine take_ (i := 5) (N := some 65) (v := ?_) (a' := ?_) #[true, true, true, true, false, true, true, true, true, false, false, false] rfl rfl (take_ofW HT_.out HW_.out (by kernel_rfl)) (fun _ _ _ h => h) (Or.inl ⟨by rfl, ?_⟩) hHeld ?_ ?_
                  rotate_left
                  · rintro w' ⟨s0, s1⟩
                    go_simp
                    with_reducible rfl
                  rotate_left
                  · simp only [Act.put, List.setIfInBounds_toArray, List.set_cons_zero, List.set_cons_succ, i64_w, i32_w]
                    rfl
                  refine one_ (i := 4) (N := some 64) #[true, true, true, true, true, true, true, true, true, false, false, false] rfl rfl (one_of HT_.out (by kernel_rfl)) (by decide) (fun K hK => ?_)
                  refine goes_ Try.func23 (by kernel_rfl) rfl #[.agg #[.slice Ao19 t230.length co19, .slice Ao21 t233.length co21], .int .i64 t237, .int .i64 t238, .int .i64 (wrap64 (1 + (wrap64 (Int.tmod a3 64))))] (by rfl) rfl rfl (by (try simp only [List.map_toArray, List.map_cons, List.map_nil]); first | done | rfl | (simp only [List.length_drop, List.length_take]; rfl)) ?_
                  with_reducible refine (span_Columns.calls k1 _ _ t230 _ _ t233 t237 t238 (wrap64 (1 + (wrap64 (Int.tmod a3 64)))) t243 _ ?side1 ?side2 ?side3 ?side4 A40.out).mono ?_
                  (case side1 => repeat (first | exact (Kd.R_reads' HO_237000.out).2.2 | (with_reducible refine Kd.C_alloc ?_ _) | (with_reducible refine Kd.C_drewN ?_ _) | (with_reducible refine Kd.C_drew ?_)))
                  (case side2 => exact (Kd.R_reads' HO_237000.out).2.1)
                  (case side3 => repeat (first | exact (Kd.R_reads' HO_237001.out).2.2 | (with_reducible refine Kd.C_alloc ?_ _) | (with_reducible refine Kd.C_drewN ?_ _) | (with_reducible refine Kd.C_drew ?_)))
                  (case side4 => exact (Kd.R_reads' HO_237001.out).2.1)
                  rintro e w44 ⟨v244, rfl, ho0, hb⟩
                  refine ⟨_, rfl, ?_⟩
                  have n0_ := Aside0.mk (Kd.R_below (by (with_reducible repeat (first | apply Kd.R_alloc | apply Kd.R_drewN | apply Kd.R_drew)); exact HO_237000.out) hb)
                  have n1_ := Aside0.mk (Kd.R_below (by (with_reducible repeat (first | apply Kd.R_alloc | apply Kd.R_drewN | apply Kd.R_drew)); exact HO_237001.out) hb)
                  have n2_ := Aside0.mk (Kd.R_lower ho0 (below_size (by repeat (first | (with_reducible first | exact HB.out | apply below_alloc | apply pw_below_drewN | apply below_drew1 | refine below_set ?_ GE236.out) | exact HB.out))))
                  have n3_ := Aside0.mk (blk_below (g := gb236) (o := .cells #[.slice Ao19 t230.length co19, .slice Ao21 t233.length co21] 35 (0, 0)) (by (with_reducible repeat (first | refine blk_drewN ?_ _ | refine blk_drew ?_ | refine blk_alloc ?_ _)); exact BK236.out) hb)
                  have n4_ := Aside0.mk (below_step (by repeat (first | (with_reducible first | exact HB.out | apply below_alloc | apply pw_below_drewN | apply below_drew1 | refine below_set ?_ GE236.out) | exact HB.out)) hb)
                  clear HO_237000
                  clear HO_237001
                  clear BK236
                  clear HB
                  have HO_237000 := n0_
                  have HO_237001 := n1_
                  have HO245 := n2_
                  have BK236 := n3_
                  have HB := n4_
                  clear n0_ n1_ n2_ n3_ n4_
                  (try clear hb)
                  (try clear hb2)
                  (try clear hk)
                  (try clear hi)
                  (try clear ho0)
                  refine hK.out _ _ ⟨(blk_cell BK236.out 0).trans rfl, (blk_cell BK236.out 1).trans rfl⟩ (fun hHeld => ?_)
                  clear hK K
                  refine norm_ (a' := ?_) ?_ ?_
                  rotate_left
                  · show Act.put _ (some 64) _ = _
                    simp only [Act.put, List.setIfInBounds_toArray, List.set_cons_zero, List.set_cons_succ, i64_w, i32_w]
                    rfl
                  refine one_ (i := 9) (N := some 69) #[true, true, true, true, true, true, true, true, true, true, false, false] rfl rfl (one_of HT_.out (by kernel_rfl)) (by decide) (fun K hK => ?_)
                  refine goes_ Try.func24 (by kernel_rfl) rfl #[.agg #[.slice Ao19 t230.length co19, .slice Ao21 t233.length co21], .int .i64 t237, .int .i64 t238, .int .i64 (wrap64 (1 + (wrap64 (Int.tmod a3 64))))] (by rfl) rfl rfl (by (try simp only [List.map_toArray, List.map_cons, List.map_nil]); first | done | rfl | (simp only [List.length_drop, List.length_take]; rfl)) ?_
                  with_reducible refine (stanzaref13_Columns.calls k1 _ _ t230 _ _ t233 t237 t238 (wrap64 (1 + (wrap64 (Int.tmod a3 64)))) t246 _ ?side1 ?side2 ?side3 ?side4 A41.out).mono ?_
                  (case side1 => repeat (first | exact (Kd.R_reads' HO_237000.out).2.2 | (with_reducible refine Kd.C_alloc ?_ _) | (with_reducible refine Kd.C_drewN ?_ _) | (with_reducible refine Kd.C_drew ?_)))
                  (case side2 => exact (Kd.R_reads' HO_237000.out).2.1)
                  (case side3 => repeat (first | exact (Kd.R_reads' HO_237001.out).2.2 | (with_reducible refine Kd.C_alloc ?_ _) | (with_reducible refine Kd.C_drewN ?_ _) | (with_reducible refine Kd.C_drew ?_)))
                  (case side4 => exact (Kd.R_reads' HO_237001.out).2.1)
                  rintro e w45 ⟨v247, rfl, ho0, hb⟩
                  refine ⟨_, rfl, ?_⟩
                  have n0_ := Aside0.mk (Kd.R_below (by (with_reducible repeat (first | apply Kd.R_alloc | apply Kd.R_drewN | apply Kd.R_drew)); exact HO_237000.out) hb)
                  have n1_ := Aside0.mk (Kd.R_below (by (with_reducible repeat (first | apply Kd.R_alloc | apply Kd.R_drewN | apply Kd.R_drew)); exact HO_237001.out) hb)
                  have n2_ := Aside0.mk (Kd.R_elder' (by (with_reducible repeat (first | apply Kd.R_alloc | apply Kd.R_drewN | apply Kd.R_drew)); exact HO245.out) (Kd.R_base ho0) hb)
                  have n3_ := Aside0.mk (Kd.R_lower (Kd.R_new' ho0 (Kd.R_lt (by (with_reducible repeat (first | apply Kd.R_alloc | apply Kd.R_drewN | apply Kd.R_drew)); exact HO245.out))) (below_size (by repeat (first | (with_reducible first | exact HB.out | apply below_alloc | apply pw_below_drewN | apply below_drew1 | refine below_set ?_ GE236.out) | exact HB.out))))
                  have n4_ := Aside0.mk (blk_below (g := gb236) (o := .cells #[.slice Ao19 t230.length co19, .slice Ao21 t233.length co21] 35 (0, 0)) (by (with_reducible repeat (first | refine blk_drewN ?_ _ | refine blk_drew ?_ | refine blk_alloc ?_ _)); exact BK236.out) hb)
                  have n5_ := Aside0.mk (below_step (by repeat (first | (with_reducible first | exact HB.out | apply below_alloc | apply pw_below_drewN | apply below_drew1 | refine below_set ?_ GE236.out) | exact HB.out)) hb)
                  clear HO_237000
                  clear HO_237001
                  clear HO245
                  clear BK236
                  clear HB
                  have HO_237000 := n0_
                  have HO_237001 := n1_
                  have HO245 := n2_
                  have HO248 := n3_
                  have BK236 := n4_
                  have HB := n5_
                  clear n0_ n1_ n2_ n3_ n4_ n5_
                  (try clear hb)
                  (try clear hb2)
                  (try clear hk)
                  (try clear hi)
                  (try clear ho0)
                  obtain ⟨Ao46, co46, eo46⟩ := Kd.R_slice HO245.out
                  (first | subst eo46 | (injection eo46 with f1_ f2_ f3_; have f4_ := f1_.symm; have f5_ := f3_.symm; clear f1_ f2_ f3_; subst f4_; subst f5_))
                  obtain ⟨Ao47, co47, eo47⟩ := Kd.R_slice HO248.out
                  (first | subst eo47 | (injection eo47 with f1_ f2_ f3_; have f4_ := f1_.symm; have f5_ := f3_.symm; clear f1_ f2_ f3_; subst f4_; subst f5_))
                  refine hK.out _ _ ⟨(blk_cell BK236.out 0).trans rfl, (blk_cell BK236.out 1).trans rfl⟩ (fun hHeld => ?_)
                  clear hK K
                  refine norm_ (a' := ?_) ?_ ?_
                  rotate_left
                  · show Act.put _ (some 69) _ = _
                    simp only [Act.put, List.setIfInBounds_toArray, List.set_cons_zero, List.set_cons_succ, i64_w, i32_w]
                    rfl
                  refine one_ (i := 10) (N := some 70) #[true, true, true, true, true, true, true, true, true, true, true, false] rfl rfl (one_of HT_.out (by kernel_rfl)) (by decide) (fun K hK => ?_)
                  refine goes_ Try.func15 (by kernel_rfl) rfl #[.slice Ao46 t243.length co46, .slice Ao47 t246.length co47] (by rfl) rfl rfl (by (try simp only [List.map_toArray, List.map_cons, List.map_nil]); first | done | rfl | (simp only [List.length_drop, List.length_take]; rfl)) ?_
                  with_reducible refine (stanzaref01_SameInts.calls k1 _ _ t243 _ _ t246 t249 _ ?side1 ?side2 ?side3 ?side4 A42.out).mono ?_
                  (case side1 => repeat (first | exact (Kd.R_reads' HO245.out).2.2 | (with_reducible refine Kd.C_alloc ?_ _) | (with_reducible refine Kd.C_drewN ?_ _) | (with_reducible refine Kd.C_drew ?_)))
                  (case side2 => exact (Kd.R_reads' HO245.out).2.1)
                  (case side3 => repeat (first | exact (Kd.R_reads' HO248.out).2.2 | (with_reducible refine Kd.C_alloc ?_ _) | (with_reducible refine Kd.C_drewN ?_ _) | (with_reducible refine Kd.C_drew ?_)))
                  (case side4 => exact (Kd.R_reads' HO248.out).2.1)
                  rintro e w' ⟨rfl, ⟨nd, rfl⟩⟩
                  refine ⟨_, rfl, ?_⟩
                  refine hK.out _ _ ⟨(blk_cell BK236.out 0).trans rfl, (blk_cell BK236.out 1).trans rfl⟩ (fun hHeld => ?_)
                  clear hK K
                  refine norm_ (a' := ?_) ?_ ?_
                  rotate_left
                  · show Act.put _ (some 70) _ = _
                    simp only [Act.put, List.setIfInBounds_toArray, List.set_cons_zero, List.set_cons_succ, i64_w, i32_w]
                    rfl
                  refine pure_ (i := 11) (N := some 10) (v := ?_) (a' := ?_) #[true, true, true, true, true, true, true, true, true, true, true, true] rfl rfl (any_of HT_.out (by kernel_rfl)) (fun _ _ _ h => h) (Or.inl ⟨by rfl, ?_⟩) ?_ ?_
                  rotate_left
                  · intro w'
                    go_simp
                    with_reducible rfl
                  rotate_left
                  · simp only [Act.put, List.setIfInBounds_toArray, List.set_cons_zero, List.set_cons_succ, i64_w, i32_w]
                    rfl
                  refine done_ (done_of HT_.out (by kernel_rfl)) ?_
                  try go_wp2
                  go_ret
                  exact ⟨by first | rfl | (simp [errW_none, errW_some] <;> rfl) | (simp only [← hji12]; first | rfl | (simp [errW_none, errW_some] <;> rfl)) | (simp [*, errW_none, errW_some] <;> rfl), by repeat (first | (with_reducible first | exact HB.out | apply below_alloc | apply pw_below_drewN | apply below_drew1 | refine below_set ?_ GE236.out) | exact HB.out)⟩
          · rw [if_neg c15] at H
            exact absurd H (by simp)
        · rw [if_neg c14] at H
          exact absurd H (by simp)
      · rw [if_neg c13] at H
        exact absurd H (by simp)
  · replace c7 := Bool.eq_false_iff.mpr c7
    subst c7
    have H1 : (some false) = some r := by rw [if_neg (show ¬ (false = true) by decide)] at H; exact H
    clear H
    have H := H1
    clear H1
    exact absurd ((Option.some.inj H).trans hrt_.out) (by decide)

/-- THE ONE PURE STATEMENT of stanzalaw13_SpanColumns. -/
def stanzalaw13_SpanColumns.Pure : Prop := ∀ (l0 : List (S50)) (a1 : Int) (a2 : Int) (a3 : Int) (a4 : Int), (l0.length * 4 ≤ 140737488351232 ∧ ∀ y0 ∈ l0, ((Lit.int .u8 y0.f0).wf = true ∧ ((Lit.int .u8 y0.f1).wf = true ∧ ((Lit.int .u8 y0.f2).wf = true ∧ (Lit.int .u8 y0.f3).wf = true)))) → (Lit.int .i64 a1).wf = true → (Lit.int .i64 a2).wf = true → (Lit.int .u8 a3).wf = true → (Lit.int .u16 a4).wf = true → ∃ k, stanzalaw13_SpanColumns.f k l0 a1 a2 a3 a4 = some true

end Go.Proofs.Ytbnoeeflpegcoaa.F
