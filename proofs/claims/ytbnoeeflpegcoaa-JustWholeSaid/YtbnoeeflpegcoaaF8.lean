/- Printed by a program of this session (wip/fork): Lean functions that answer as the Go functions do, and the proofs that the Go code comes to them; no condition but those that each statement tells. -/
import Derived.Test.YtbnoeeflpegcoaaF0
import Derived.Test.YtbnoeeflpegcoaaF3
import Derived.Test.YtbnoeeflpegcoaaF4
namespace Go.Proofs.Ytbnoeeflpegcoaa.F
open Go.RowKit Go.Proofs.YtbnoeeflpegcoaaW.PrintWords Go.Proofs.YtbnoeeflpegcoaaW.PrintLast Go.Proofs.YtbnoeeflpegcoaaW.PrintMore
attribute [local go_sem] max2_int min2_int max_two min_two max_three min_three max_four min_four   -- for this text's walks alone
set_option linter.unusedVariables false
set_option linter.unusedSimpArgs false

/-! ### stanzalaw18_JustWhole: function 5 -/
mutual
def stanzalaw18_JustWhole.j0 : Nat → Int → List Int → List Int → List Int → Bool → Option (Bool)
  | 0, _, _, _, _, _ => none
  | k + 1, x8, x10, x11, x12, x55 => if x55 = true then (some false) else (stanzalaw18_JustWhole.l0 k x8 x10 x11 x12 (x10.length : Int) 0)
def stanzalaw18_JustWhole.l0 : Nat → Int → List Int → List Int → List Int → Int → Int → Option (Bool)
  | 0, _, _, _, _, _, _ => none
  | k + 1, x8, x10, x11, x12, x57, x58 => if x58 < x57 then (if 0 ≤ x58 then (if x58 < (x10.length : Int) then (if (rd x10 x58) = x8 then (if x58 < (x12.length : Int) then (if x58 < (x11.length : Int) then (if (rd x12 x58) = (wrap64 ((rd x11 x58) + x8)) then (stanzalaw18_JustWhole.l0 k x8 x10 x11 x12 x57 (wrap64 (x58 + 1))) else (some false)) else (none)) else (none)) else (some false)) else (none)) else (none)) else (some true)
end
def stanzalaw18_JustWhole.f (k : Nat) (a0 : Int) (a1 : Int) (a2 : Int) : Option (Bool) := (stanzalaw18_Awake.f k).bind fun t140 => (if t140 = true then ((just_Spread.f k (wrap64 ((wrap64 (Int.tmod a1 200)) * (wrap64 (1 + (wrap64 (a2)))))) (wrap64 (1 + (wrap64 (a2))))).bind fun t141 => ((just_Spread.f k (wrap64 (Int.tmod a0 5000)) (wrap64 (1 + (wrap64 (a2))))).bind fun t144 => ((just_Spread.f k (wrap64 ((wrap64 (Int.tmod a0 5000)) + (wrap64 ((wrap64 (Int.tmod a1 200)) * (wrap64 (1 + (wrap64 (a2)))))))) (wrap64 (1 + (wrap64 (a2))))).bind fun t147 => (if (t141.length : Int) = (wrap64 (1 + (wrap64 (a2)))) then (if (t144.length : Int) = (wrap64 (1 + (wrap64 (a2)))) then (stanzalaw18_JustWhole.j0 k (wrap64 (Int.tmod a1 200)) t141 t144 t147 ((t147.length : Int) != (wrap64 (1 + (wrap64 (a2)))))) else (stanzalaw18_JustWhole.j0 k (wrap64 (Int.tmod a1 200)) t141 t144 t147 true)) else (stanzalaw18_JustWhole.j0 k (wrap64 (Int.tmod a1 200)) t141 t144 t147 true))))) else (some false))
theorem stanzalaw18_JustWhole.mono_l : ∀ k, (∀ y0 y1 y2 y3 y4, LeO (stanzalaw18_JustWhole.j0 k y0 y1 y2 y3 y4) (stanzalaw18_JustWhole.j0 (k + 1) y0 y1 y2 y3 y4)) ∧ (∀ y0 y1 y2 y3 y4 y5, LeO (stanzalaw18_JustWhole.l0 k y0 y1 y2 y3 y4 y5) (stanzalaw18_JustWhole.l0 (k + 1) y0 y1 y2 y3 y4 y5))
  | 0 => ⟨fun _ _ _ _ _ r h => by simp [stanzalaw18_JustWhole.j0] at h, fun _ _ _ _ _ _ r h => by simp [stanzalaw18_JustWhole.l0] at h⟩
  | k + 1 => by
    obtain ⟨ih0, ih1⟩ := stanzalaw18_JustWhole.mono_l k
    refine ⟨?_, ?_⟩
    · intro y0 y1 y2 y3 y4
      unfold stanzalaw18_JustWhole.j0
      repeat' first
      | (with_reducible exact ih0 _ _ _ _ _)
      | (with_reducible exact ih1 _ _ _ _ _ _)
      | (with_reducible exact just_Spread.mono _ _ _)
      | (with_reducible exact stanzalaw18_Awake.mono _)
      | (with_reducible exact LeO.refl _)
      | (with_reducible exact LeO.none _)
      | (with_reducible refine LeO.ite ?_ ?_)
      | (with_reducible refine LeO.bind ?_ (fun _ => ?_))
      | exact ih0 _ _ _ _ _
      | exact ih1 _ _ _ _ _ _
      | exact just_Spread.mono _ _ _
      | exact stanzalaw18_Awake.mono _
      | exact LeO.none _
      | refine LeO.ite ?_ ?_
      | refine LeO.bind ?_ (fun _ => ?_)
    · intro y0 y1 y2 y3 y4 y5
      unfold stanzalaw18_JustWhole.l0
      repeat' first
      | (with_reducible exact ih0 _ _ _ _ _)
      | (with_reducible exact ih1 _ _ _ _ _ _)
      | (with_reducible exact just_Spread.mono _ _ _)
      | (with_reducible exact stanzalaw18_Awake.mono _)
      | (with_reducible exact LeO.refl _)
      | (with_reducible exact LeO.none _)
      | (with_reducible refine LeO.ite ?_ ?_)
      | (with_reducible refine LeO.bind ?_ (fun _ => ?_))
      | exact ih0 _ _ _ _ _
      | exact ih1 _ _ _ _ _ _
      | exact just_Spread.mono _ _ _
      | exact stanzalaw18_Awake.mono _
      | exact LeO.none _
      | refine LeO.ite ?_ ?_
      | refine LeO.bind ?_ (fun _ => ?_)
theorem stanzalaw18_JustWhole.mono : ∀ a0 a1 a2 k, LeO (stanzalaw18_JustWhole.f k a0 a1 a2) (stanzalaw18_JustWhole.f (k + 1) a0 a1 a2) := by
  intro a0 a1 a2 k
  obtain ⟨ih0, ih1⟩ := stanzalaw18_JustWhole.mono_l k
  unfold stanzalaw18_JustWhole.f
  repeat' first
      | (with_reducible exact ih0 _ _ _ _ _)
      | (with_reducible exact ih1 _ _ _ _ _ _)
      | (with_reducible exact just_Spread.mono _ _ _)
      | (with_reducible exact stanzalaw18_Awake.mono _)
      | (with_reducible exact LeO.refl _)
      | (with_reducible exact LeO.none _)
      | (with_reducible refine LeO.ite ?_ ?_)
      | (with_reducible refine LeO.bind ?_ (fun _ => ?_))
      | exact ih0 _ _ _ _ _
      | exact ih1 _ _ _ _ _ _
      | exact just_Spread.mono _ _ _
      | exact stanzalaw18_Awake.mono _
      | exact LeO.none _
      | refine LeO.ite ?_ ?_
      | refine LeO.bind ?_ (fun _ => ?_)
set_option maxHeartbeats 8000000 in
set_option maxRecDepth 100000 in
theorem stanzalaw18_JustWhole.calls (k : Nat) (a0 : Int) (a1 : Int) (a2 : Int) (r : Bool) (w : World) (h : stanzalaw18_JustWhole.f k a0 a1 a2 = some r) (hrt_ : Aside0 (r = true)) :
    Calls Try.prog 5 #[.int .u16 a0, .int .u16 a1, .int .u8 a2] w fun e w' => e = .returned (.bool r) ∧ Below w.heap.size w w' := by
  have HB := Aside0.mk (Below.refl w.heap.size w)
  have H : ((stanzalaw18_Awake.f k).bind fun t140 => (if t140 = true then ((just_Spread.f k (wrap64 ((wrap64 (Int.tmod a1 200)) * (wrap64 (1 + (wrap64 (a2)))))) (wrap64 (1 + (wrap64 (a2))))).bind fun t141 => ((just_Spread.f k (wrap64 (Int.tmod a0 5000)) (wrap64 (1 + (wrap64 (a2))))).bind fun t144 => ((just_Spread.f k (wrap64 ((wrap64 (Int.tmod a0 5000)) + (wrap64 ((wrap64 (Int.tmod a1 200)) * (wrap64 (1 + (wrap64 (a2)))))))) (wrap64 (1 + (wrap64 (a2))))).bind fun t147 => (if (t141.length : Int) = (wrap64 (1 + (wrap64 (a2)))) then (if (t144.length : Int) = (wrap64 (1 + (wrap64 (a2)))) then (stanzalaw18_JustWhole.j0 k (wrap64 (Int.tmod a1 200)) t141 t144 t147 ((t147.length : Int) != (wrap64 (1 + (wrap64 (a2)))))) else (stanzalaw18_JustWhole.j0 k (wrap64 (Int.tmod a1 200)) t141 t144 t147 true)) else (stanzalaw18_JustWhole.j0 k (wrap64 (Int.tmod a1 200)) t141 t144 t147 true))))) else (some false))) = some r := h
  clear h
  replace H := Option.bind_eq_some_iff.mp H
  obtain ⟨t140, A40, H⟩ := H
  replace H : (if t140 = true then ((just_Spread.f k (wrap64 ((wrap64 (Int.tmod a1 200)) * (wrap64 (1 + (wrap64 (a2)))))) (wrap64 (1 + (wrap64 (a2))))).bind fun t141 => ((just_Spread.f k (wrap64 (Int.tmod a0 5000)) (wrap64 (1 + (wrap64 (a2))))).bind fun t144 => ((just_Spread.f k (wrap64 ((wrap64 (Int.tmod a0 5000)) + (wrap64 ((wrap64 (Int.tmod a1 200)) * (wrap64 (1 + (wrap64 (a2)))))))) (wrap64 (1 + (wrap64 (a2))))).bind fun t147 => (if (t141.length : Int) = (wrap64 (1 + (wrap64 (a2)))) then (if (t144.length : Int) = (wrap64 (1 + (wrap64 (a2)))) then (stanzalaw18_JustWhole.j0 k (wrap64 (Int.tmod a1 200)) t141 t144 t147 ((t147.length : Int) != (wrap64 (1 + (wrap64 (a2)))))) else (stanzalaw18_JustWhole.j0 k (wrap64 (Int.tmod a1 200)) t141 t144 t147 true)) else (stanzalaw18_JustWhole.j0 k (wrap64 (Int.tmod a1 200)) t141 t144 t147 true))))) else (some false)) = some r := H
  have A4 := Aside0.mk A40
  clear A40
  by_cases c5 : t140 = true
  · subst c5
    have H1 : ((just_Spread.f k (wrap64 ((wrap64 (Int.tmod a1 200)) * (wrap64 (1 + (wrap64 (a2)))))) (wrap64 (1 + (wrap64 (a2))))).bind fun t141 => ((just_Spread.f k (wrap64 (Int.tmod a0 5000)) (wrap64 (1 + (wrap64 (a2))))).bind fun t144 => ((just_Spread.f k (wrap64 ((wrap64 (Int.tmod a0 5000)) + (wrap64 ((wrap64 (Int.tmod a1 200)) * (wrap64 (1 + (wrap64 (a2)))))))) (wrap64 (1 + (wrap64 (a2))))).bind fun t147 => (if (t141.length : Int) = (wrap64 (1 + (wrap64 (a2)))) then (if (t144.length : Int) = (wrap64 (1 + (wrap64 (a2)))) then (stanzalaw18_JustWhole.j0 k (wrap64 (Int.tmod a1 200)) t141 t144 t147 ((t147.length : Int) != (wrap64 (1 + (wrap64 (a2)))))) else (stanzalaw18_JustWhole.j0 k (wrap64 (Int.tmod a1 200)) t141 t144 t147 true)) else (stanzalaw18_JustWhole.j0 k (wrap64 (Int.tmod a1 200)) t141 t144 t147 true))))) = some r := by rw [if_pos rfl] at H; exact H
    clear H
    have H := H1
    clear H1
    replace H := Option.bind_eq_some_iff.mp H
    obtain ⟨t141, A60, H⟩ := H
    replace H : ((just_Spread.f k (wrap64 (Int.tmod a0 5000)) (wrap64 (1 + (wrap64 (a2))))).bind fun t144 => ((just_Spread.f k (wrap64 ((wrap64 (Int.tmod a0 5000)) + (wrap64 ((wrap64 (Int.tmod a1 200)) * (wrap64 (1 + (wrap64 (a2)))))))) (wrap64 (1 + (wrap64 (a2))))).bind fun t147 => (if (t141.length : Int) = (wrap64 (1 + (wrap64 (a2)))) then (if (t144.length : Int) = (wrap64 (1 + (wrap64 (a2)))) then (stanzalaw18_JustWhole.j0 k (wrap64 (Int.tmod a1 200)) t141 t144 t147 ((t147.length : Int) != (wrap64 (1 + (wrap64 (a2)))))) else (stanzalaw18_JustWhole.j0 k (wrap64 (Int.tmod a1 200)) t141 t144 t147 true)) else (stanzalaw18_JustWhole.j0 k (wrap64 (Int.tmod a1 200)) t141 t144 t147 true)))) = some r := H
    have A6 := Aside0.mk A60
    clear A60
    replace H := Option.bind_eq_some_iff.mp H
    obtain ⟨t144, A70, H⟩ := H
    replace H : ((just_Spread.f k (wrap64 ((wrap64 (Int.tmod a0 5000)) + (wrap64 ((wrap64 (Int.tmod a1 200)) * (wrap64 (1 + (wrap64 (a2)))))))) (wrap64 (1 + (wrap64 (a2))))).bind fun t147 => (if (t141.length : Int) = (wrap64 (1 + (wrap64 (a2)))) then (if (t144.length : Int) = (wrap64 (1 + (wrap64 (a2)))) then (stanzalaw18_JustWhole.j0 k (wrap64 (Int.tmod a1 200)) t141 t144 t147 ((t147.length : Int) != (wrap64 (1 + (wrap64 (a2)))))) else (stanzalaw18_JustWhole.j0 k (wrap64 (Int.tmod a1 200)) t141 t144 t147 true)) else (stanzalaw18_JustWhole.j0 k (wrap64 (Int.tmod a1 200)) t141 t144 t147 true))) = some r := H
    have A7 := Aside0.mk A70
    clear A70
    replace H := Option.bind_eq_some_iff.mp H
    obtain ⟨t147, A80, H⟩ := H
    replace H : (if (t141.length : Int) = (wrap64 (1 + (wrap64 (a2)))) then (if (t144.length : Int) = (wrap64 (1 + (wrap64 (a2)))) then (stanzalaw18_JustWhole.j0 k (wrap64 (Int.tmod a1 200)) t141 t144 t147 ((t147.length : Int) != (wrap64 (1 + (wrap64 (a2)))))) else (stanzalaw18_JustWhole.j0 k (wrap64 (Int.tmod a1 200)) t141 t144 t147 true)) else (stanzalaw18_JustWhole.j0 k (wrap64 (Int.tmod a1 200)) t141 t144 t147 true)) = some r := H
    have A8 := Aside0.mk A80
    clear A80
    have HC9 := Aside0.mk H
    clear H
    go_enter Try.func5, Try.ntmps5
    go_upto_region 5 with (first | (go_at_call 14; (with_reducible refine (stanzalaw18_Awake.calls k  true _ A4.out (by first | exact ⟨rfl⟩ | exact hrt_)).mono ?_); rintro e w10 ⟨rfl, hb⟩; have n0_ := Aside0.mk (below_step (by repeat (first | (with_reducible first | exact HB.out | apply below_alloc | apply pw_below_drewN | apply below_drew1) | exact HB.out)) hb); clear HB; have HB := n0_; clear n0_; (try clear hb); (try clear hb2); (try clear hk); (try clear hi)) | (go_at_call 16; (with_reducible refine (just_Spread.calls k (wrap64 ((wrap64 (Int.tmod a1 200)) * (wrap64 (1 + (wrap64 (a2)))))) (wrap64 (1 + (wrap64 (a2)))) t141 _ A6.out).mono ?_); rintro e w11 ⟨v142, rfl, ho0, hb⟩; have n0_ := Aside0.mk (Kd.R_lower ho0 (below_size (by repeat (first | (with_reducible first | exact HB.out | apply below_alloc | apply pw_below_drewN | apply below_drew1) | exact HB.out)))); have n1_ := Aside0.mk (below_step (by repeat (first | (with_reducible first | exact HB.out | apply below_alloc | apply pw_below_drewN | apply below_drew1) | exact HB.out)) hb); clear HB; have HO143 := n0_; have HB := n1_; clear n0_ n1_; (try clear hb); (try clear hb2); (try clear hk); (try clear hi); (try clear ho0)) | (go_at_call 16; (with_reducible refine (just_Spread.calls k (wrap64 (Int.tmod a0 5000)) (wrap64 (1 + (wrap64 (a2)))) t144 _ A7.out).mono ?_); rintro e w12 ⟨v145, rfl, ho0, hb⟩; have n0_ := Aside0.mk (Kd.R_elder' (by (with_reducible repeat (first | apply Kd.R_alloc | apply Kd.R_drewN | apply Kd.R_drew)); exact HO143.out) (Kd.R_base ho0) hb); have n1_ := Aside0.mk (Kd.R_lower (Kd.R_new' ho0 (Kd.R_lt (by (with_reducible repeat (first | apply Kd.R_alloc | apply Kd.R_drewN | apply Kd.R_drew)); exact HO143.out))) (below_size (by repeat (first | (with_reducible first | exact HB.out | apply below_alloc | apply pw_below_drewN | apply below_drew1) | exact HB.out)))); have n2_ := Aside0.mk (below_step (by repeat (first | (with_reducible first | exact HB.out | apply below_alloc | apply pw_below_drewN | apply below_drew1) | exact HB.out)) hb); clear HO143; clear HB; have HO143 := n0_; have HO146 := n1_; have HB := n2_; clear n0_ n1_ n2_; (try clear hb); (try clear hb2); (try clear hk); (try clear hi); (try clear ho0)) | (go_at_call 16; (with_reducible refine (just_Spread.calls k (wrap64 ((wrap64 (Int.tmod a0 5000)) + (wrap64 ((wrap64 (Int.tmod a1 200)) * (wrap64 (1 + (wrap64 (a2)))))))) (wrap64 (1 + (wrap64 (a2)))) t147 _ A8.out).mono ?_); rintro e w13 ⟨v148, rfl, ho0, hb⟩; have n0_ := Aside0.mk (Kd.R_elder' (by (with_reducible repeat (first | apply Kd.R_alloc | apply Kd.R_drewN | apply Kd.R_drew)); exact HO143.out) (Kd.R_base ho0) hb); have n1_ := Aside0.mk (Kd.R_elder' (by (with_reducible repeat (first | apply Kd.R_alloc | apply Kd.R_drewN | apply Kd.R_drew)); exact HO146.out) (Kd.R_base ho0) hb); have n2_ := Aside0.mk (Kd.R_lower (Kd.R_new' (Kd.R_new' ho0 (Kd.R_lt (by (with_reducible repeat (first | apply Kd.R_alloc | apply Kd.R_drewN | apply Kd.R_drew)); exact HO143.out))) (Kd.R_lt (by (with_reducible repeat (first | apply Kd.R_alloc | apply Kd.R_drewN | apply Kd.R_drew)); exact HO146.out))) (below_size (by repeat (first | (with_reducible first | exact HB.out | apply below_alloc | apply pw_below_drewN | apply below_drew1) | exact HB.out)))); have n3_ := Aside0.mk (below_step (by repeat (first | (with_reducible first | exact HB.out | apply below_alloc | apply pw_below_drewN | apply below_drew1) | exact HB.out)) hb); clear HO143; clear HO146; clear HB; have HO143 := n0_; have HO146 := n1_; have HO149 := n2_; have HB := n3_; clear n0_ n1_ n2_ n3_; (try clear hb); (try clear hb2); (try clear hk); (try clear hi); (try clear ho0)))
    repeat (go_quiet (first | (go_at_call 14; (with_reducible refine (stanzalaw18_Awake.calls k  true _ A4.out (by first | exact ⟨rfl⟩ | exact hrt_)).mono ?_); rintro e w10 ⟨rfl, hb⟩; have n0_ := Aside0.mk (below_step (by repeat (first | (with_reducible first | exact HB.out | apply below_alloc | apply pw_below_drewN | apply below_drew1) | exact HB.out)) hb); clear HB; have HB := n0_; clear n0_; (try clear hb); (try clear hb2); (try clear hk); (try clear hi)) | (go_at_call 16; (with_reducible refine (just_Spread.calls k (wrap64 ((wrap64 (Int.tmod a1 200)) * (wrap64 (1 + (wrap64 (a2)))))) (wrap64 (1 + (wrap64 (a2)))) t141 _ A6.out).mono ?_); rintro e w11 ⟨v142, rfl, ho0, hb⟩; have n0_ := Aside0.mk (Kd.R_lower ho0 (below_size (by repeat (first | (with_reducible first | exact HB.out | apply below_alloc | apply pw_below_drewN | apply below_drew1) | exact HB.out)))); have n1_ := Aside0.mk (below_step (by repeat (first | (with_reducible first | exact HB.out | apply below_alloc | apply pw_below_drewN | apply below_drew1) | exact HB.out)) hb); clear HB; have HO143 := n0_; have HB := n1_; clear n0_ n1_; (try clear hb); (try clear hb2); (try clear hk); (try clear hi); (try clear ho0)) | (go_at_call 16; (with_reducible refine (just_Spread.calls k (wrap64 (Int.tmod a0 5000)) (wrap64 (1 + (wrap64 (a2)))) t144 _ A7.out).mono ?_); rintro e w12 ⟨v145, rfl, ho0, hb⟩; have n0_ := Aside0.mk (Kd.R_elder' (by (with_reducible repeat (first | apply Kd.R_alloc | apply Kd.R_drewN | apply Kd.R_drew)); exact HO143.out) (Kd.R_base ho0) hb); have n1_ := Aside0.mk (Kd.R_lower (Kd.R_new' ho0 (Kd.R_lt (by (with_reducible repeat (first | apply Kd.R_alloc | apply Kd.R_drewN | apply Kd.R_drew)); exact HO143.out))) (below_size (by repeat (first | (with_reducible first | exact HB.out | apply below_alloc | apply pw_below_drewN | apply below_drew1) | exact HB.out)))); have n2_ := Aside0.mk (below_step (by repeat (first | (with_reducible first | exact HB.out | apply below_alloc | apply pw_below_drewN | apply below_drew1) | exact HB.out)) hb); clear HO143; clear HB; have HO143 := n0_; have HO146 := n1_; have HB := n2_; clear n0_ n1_ n2_; (try clear hb); (try clear hb2); (try clear hk); (try clear hi); (try clear ho0)) | (go_at_call 16; (with_reducible refine (just_Spread.calls k (wrap64 ((wrap64 (Int.tmod a0 5000)) + (wrap64 ((wrap64 (Int.tmod a1 200)) * (wrap64 (1 + (wrap64 (a2)))))))) (wrap64 (1 + (wrap64 (a2)))) t147 _ A8.out).mono ?_); rintro e w13 ⟨v148, rfl, ho0, hb⟩; have n0_ := Aside0.mk (Kd.R_elder' (by (with_reducible repeat (first | apply Kd.R_alloc | apply Kd.R_drewN | apply Kd.R_drew)); exact HO143.out) (Kd.R_base ho0) hb); have n1_ := Aside0.mk (Kd.R_elder' (by (with_reducible repeat (first | apply Kd.R_alloc | apply Kd.R_drewN | apply Kd.R_drew)); exact HO146.out) (Kd.R_base ho0) hb); have n2_ := Aside0.mk (Kd.R_lower (Kd.R_new' (Kd.R_new' ho0 (Kd.R_lt (by (with_reducible repeat (first | apply Kd.R_alloc | apply Kd.R_drewN | apply Kd.R_drew)); exact HO143.out))) (Kd.R_lt (by (with_reducible repeat (first | apply Kd.R_alloc | apply Kd.R_drewN | apply Kd.R_drew)); exact HO146.out))) (below_size (by repeat (first | (with_reducible first | exact HB.out | apply below_alloc | apply pw_below_drewN | apply below_drew1) | exact HB.out)))); have n3_ := Aside0.mk (below_step (by repeat (first | (with_reducible first | exact HB.out | apply below_alloc | apply pw_below_drewN | apply below_drew1) | exact HB.out)) hb); clear HO143; clear HO146; clear HB; have HO143 := n0_; have HO146 := n1_; have HO149 := n2_; have HB := n3_; clear n0_ n1_ n2_ n3_; (try clear hb); (try clear hb2); (try clear hk); (try clear hi); (try clear ho0))); go_upto_region 5 with (first | (go_at_call 14; (with_reducible refine (stanzalaw18_Awake.calls k  true _ A4.out (by first | exact ⟨rfl⟩ | exact hrt_)).mono ?_); rintro e w10 ⟨rfl, hb⟩; have n0_ := Aside0.mk (below_step (by repeat (first | (with_reducible first | exact HB.out | apply below_alloc | apply pw_below_drewN | apply below_drew1) | exact HB.out)) hb); clear HB; have HB := n0_; clear n0_; (try clear hb); (try clear hb2); (try clear hk); (try clear hi)) | (go_at_call 16; (with_reducible refine (just_Spread.calls k (wrap64 ((wrap64 (Int.tmod a1 200)) * (wrap64 (1 + (wrap64 (a2)))))) (wrap64 (1 + (wrap64 (a2)))) t141 _ A6.out).mono ?_); rintro e w11 ⟨v142, rfl, ho0, hb⟩; have n0_ := Aside0.mk (Kd.R_lower ho0 (below_size (by repeat (first | (with_reducible first | exact HB.out | apply below_alloc | apply pw_below_drewN | apply below_drew1) | exact HB.out)))); have n1_ := Aside0.mk (below_step (by repeat (first | (with_reducible first | exact HB.out | apply below_alloc | apply pw_below_drewN | apply below_drew1) | exact HB.out)) hb); clear HB; have HO143 := n0_; have HB := n1_; clear n0_ n1_; (try clear hb); (try clear hb2); (try clear hk); (try clear hi); (try clear ho0)) | (go_at_call 16; (with_reducible refine (just_Spread.calls k (wrap64 (Int.tmod a0 5000)) (wrap64 (1 + (wrap64 (a2)))) t144 _ A7.out).mono ?_); rintro e w12 ⟨v145, rfl, ho0, hb⟩; have n0_ := Aside0.mk (Kd.R_elder' (by (with_reducible repeat (first | apply Kd.R_alloc | apply Kd.R_drewN | apply Kd.R_drew)); exact HO143.out) (Kd.R_base ho0) hb); have n1_ := Aside0.mk (Kd.R_lower (Kd.R_new' ho0 (Kd.R_lt (by (with_reducible repeat (first | apply Kd.R_alloc | apply Kd.R_drewN | apply Kd.R_drew)); exact HO143.out))) (below_size (by repeat (first | (with_reducible first | exact HB.out | apply below_alloc | apply pw_below_drewN | apply below_drew1) | exact HB.out)))); have n2_ := Aside0.mk (below_step (by repeat (first | (with_reducible first | exact HB.out | apply below_alloc | apply pw_below_drewN | apply below_drew1) | exact HB.out)) hb); clear HO143; clear HB; have HO143 := n0_; have HO146 := n1_; have HB := n2_; clear n0_ n1_ n2_; (try clear hb); (try clear hb2); (try clear hk); (try clear hi); (try clear ho0)) | (go_at_call 16; (with_reducible refine (just_Spread.calls k (wrap64 ((wrap64 (Int.tmod a0 5000)) + (wrap64 ((wrap64 (Int.tmod a1 200)) * (wrap64 (1 + (wrap64 (a2)))))))) (wrap64 (1 + (wrap64 (a2)))) t147 _ A8.out).mono ?_); rintro e w13 ⟨v148, rfl, ho0, hb⟩; have n0_ := Aside0.mk (Kd.R_elder' (by (with_reducible repeat (first | apply Kd.R_alloc | apply Kd.R_drewN | apply Kd.R_drew)); exact HO143.out) (Kd.R_base ho0) hb); have n1_ := Aside0.mk (Kd.R_elder' (by (with_reducible repeat (first | apply Kd.R_alloc | apply Kd.R_drewN | apply Kd.R_drew)); exact HO146.out) (Kd.R_base ho0) hb); have n2_ := Aside0.mk (Kd.R_lower (Kd.R_new' (Kd.R_new' ho0 (Kd.R_lt (by (with_reducible repeat (first | apply Kd.R_alloc | apply Kd.R_drewN | apply Kd.R_drew)); exact HO143.out))) (Kd.R_lt (by (with_reducible repeat (first | apply Kd.R_alloc | apply Kd.R_drewN | apply Kd.R_drew)); exact HO146.out))) (below_size (by repeat (first | (with_reducible first | exact HB.out | apply below_alloc | apply pw_below_drewN | apply below_drew1) | exact HB.out)))); have n3_ := Aside0.mk (below_step (by repeat (first | (with_reducible first | exact HB.out | apply below_alloc | apply pw_below_drewN | apply below_drew1) | exact HB.out)) hb); clear HO143; clear HO146; clear HB; have HO143 := n0_; have HO146 := n1_; have HO149 := n2_; have HB := n3_; clear n0_ n1_ n2_ n3_; (try clear hb); (try clear hb2); (try clear hk); (try clear hi); (try clear ho0))))
    (try simp only [Act.put, List.setIfInBounds_toArray, List.set_cons_zero, List.set_cons_succ])
    go_cut [55] (fun v55 wc => ∃ (kq : Nat) (x55_8 : Bool), v55 = .bool x55_8 ∧ Aside0 (stanzalaw18_JustWhole.j0 kq (wrap64 (Int.tmod a1 200)) t141 t144 t147 x55_8 = some r) ∧ Aside0 (kq ≤ k) ∧ Aside0 (Kd.R (Kd.int .i64) 3 wc w.heap.size (fun k_ => some k_ ≠ (v145 : Value).ownBlock ∧ some k_ ≠ (v148 : Value).ownBlock) v142 t141) ∧ Aside0 (Kd.R (Kd.int .i64) 3 wc w.heap.size (fun k_ => some k_ ≠ (v142 : Value).ownBlock ∧ some k_ ≠ (v148 : Value).ownBlock) v145 t144) ∧ Aside0 (Kd.R (Kd.int .i64) 3 wc w.heap.size (fun k_ => some k_ ≠ (v142 : Value).ownBlock ∧ some k_ ≠ (v145 : Value).ownBlock) v148 t147) ∧ Aside0 (Below w.heap.size w wc))
    case first =>
      have H := HC9.out
      clear HC9
      by_cases c14 : (t141.length : Int) = (wrap64 (1 + (wrap64 (a2))))
      · rw [if_pos c14] at H
        have c14b0 : ((t141.length : Int) == (wrap64 (1 + (wrap64 (a2))))) = true := beq_iff_eq.mpr c14
        have c14b1 : ((t141.length : Int) != (wrap64 (1 + (wrap64 (a2))))) = false := bne_eq_false_iff_eq.mpr c14
        clear c14
        (first | rw [c14b0] | (simp only [i64_w, i32_w]; rw [c14b0]) | skip)
        by_cases c15 : (t144.length : Int) = (wrap64 (1 + (wrap64 (a2))))
        · rw [if_pos c15] at H
          have c15b0 : ((t144.length : Int) == (wrap64 (1 + (wrap64 (a2))))) = true := beq_iff_eq.mpr c15
          have c15b1 : ((t144.length : Int) != (wrap64 (1 + (wrap64 (a2))))) = false := bne_eq_false_iff_eq.mpr c15
          clear c15
          have H' := Aside0.mk H
          clear H
          obtain ⟨Ao16, co16, eo16⟩ := Kd.R_slice HO143.out
          subst eo16
          obtain ⟨Ao17, co17, eo17⟩ := Kd.R_slice HO146.out
          subst eo17
          obtain ⟨Ao18, co18, eo18⟩ := Kd.R_slice HO149.out
          subst eo18
          go_wp2
          repeat (go_quiet (fail); try go_wp2)
          go_meet
          case rel => exact ⟨_, (((t147.length : Int) != (wrap64 (1 + (wrap64 (a2)))))), (by first | rfl | (simp; done) | (simp [*]; done)), H', ⟨by first | omega | exact Nat.le_refl _⟩, ⟨by (with_reducible repeat (first | apply Kd.R_alloc | apply Kd.R_drewN | apply Kd.R_drew)); exact Kd.R_mono HO143.out (fun _ hk => ⟨hk.1.2, hk.2⟩)⟩, ⟨by (with_reducible repeat (first | apply Kd.R_alloc | apply Kd.R_drewN | apply Kd.R_drew)); exact Kd.R_mono HO146.out (fun _ hk => ⟨hk.1.2, hk.2⟩)⟩, ⟨by (with_reducible repeat (first | apply Kd.R_alloc | apply Kd.R_drewN | apply Kd.R_drew)); exact Kd.R_mono HO149.out (fun _ hk => ⟨hk.1.2, hk.2⟩)⟩, ⟨by repeat (first | (with_reducible first | exact HB.out | apply below_alloc | apply pw_below_drewN | apply below_drew1) | exact HB.out)⟩⟩
        · rw [if_neg c15] at H
          have c15b0 : ((t144.length : Int) == (wrap64 (1 + (wrap64 (a2))))) = false := beq_eq_false_iff_ne.mpr c15
          have c15b1 : ((t144.length : Int) != (wrap64 (1 + (wrap64 (a2))))) = true := bne_iff_ne.mpr c15
          have H' := Aside0.mk H
          clear H
          obtain ⟨Ao19, co19, eo19⟩ := Kd.R_slice HO143.out
          subst eo19
          obtain ⟨Ao20, co20, eo20⟩ := Kd.R_slice HO146.out
          subst eo20
          go_wp2
          repeat (go_quiet (fail); try go_wp2)
          go_meet
          case rel => exact ⟨_, (true), (by first | rfl | (simp; done) | (simp [*]; done)), H', ⟨by first | omega | exact Nat.le_refl _⟩, ⟨by (with_reducible repeat (first | apply Kd.R_alloc | apply Kd.R_drewN | apply Kd.R_drew)); exact Kd.R_mono HO143.out (fun _ hk => ⟨hk.1.2, hk.2⟩)⟩, ⟨by (with_reducible repeat (first | apply Kd.R_alloc | apply Kd.R_drewN | apply Kd.R_drew)); exact Kd.R_mono HO146.out (fun _ hk => ⟨hk.1.2, hk.2⟩)⟩, ⟨by (with_reducible repeat (first | apply Kd.R_alloc | apply Kd.R_drewN | apply Kd.R_drew)); exact Kd.R_mono HO149.out (fun _ hk => ⟨hk.1.2, hk.2⟩)⟩, ⟨by repeat (first | (with_reducible first | exact HB.out | apply below_alloc | apply pw_below_drewN | apply below_drew1) | exact HB.out)⟩⟩
      · rw [if_neg c14] at H
        have c14b0 : ((t141.length : Int) == (wrap64 (1 + (wrap64 (a2))))) = false := beq_eq_false_iff_ne.mpr c14
        have c14b1 : ((t141.length : Int) != (wrap64 (1 + (wrap64 (a2))))) = true := bne_iff_ne.mpr c14
        (first | rw [c14b0] | (simp only [i64_w, i32_w]; rw [c14b0]) | skip)
        have H' := Aside0.mk H
        clear H
        obtain ⟨Ao21, co21, eo21⟩ := Kd.R_slice HO143.out
        subst eo21
        go_wp2
        repeat (go_quiet (fail); try go_wp2)
        go_meet
        case rel => exact ⟨_, (true), (by first | rfl | (simp; done) | (simp [*]; done)), H', ⟨by first | omega | exact Nat.le_refl _⟩, ⟨by (with_reducible repeat (first | apply Kd.R_alloc | apply Kd.R_drewN | apply Kd.R_drew)); exact Kd.R_mono HO143.out (fun _ hk => ⟨hk.1.2, hk.2⟩)⟩, ⟨by (with_reducible repeat (first | apply Kd.R_alloc | apply Kd.R_drewN | apply Kd.R_drew)); exact Kd.R_mono HO146.out (fun _ hk => ⟨hk.1.2, hk.2⟩)⟩, ⟨by (with_reducible repeat (first | apply Kd.R_alloc | apply Kd.R_drewN | apply Kd.R_drew)); exact Kd.R_mono HO149.out (fun _ hk => ⟨hk.1.2, hk.2⟩)⟩, ⟨by repeat (first | (with_reducible first | exact HB.out | apply below_alloc | apply pw_below_drewN | apply below_drew1) | exact HB.out)⟩⟩
    case rest =>
      clear HC9
      try clear c1
      try clear p2
      try clear c5
      try clear p6
      try clear c14
      try clear c14b0
      try clear c14b1
      try clear c15
      try clear c15b0
      try clear c15b1
      obtain ⟨kq, x55_8, rfl, HA, HJ8, HO_10, HO_11, HO_12, HB⟩ := hcut
      cases kq with
      | zero => exact absurd HA.out (by simp [stanzalaw18_JustWhole.j0])
      | succ kj8 =>
        have H := HA.out
        clear HA
        simp only [stanzalaw18_JustWhole.j0] at H
        by_cases c22 : x55_8 = true
        · subst c22
          have H1 : (some false) = some r := by rw [if_pos rfl] at H; exact H
          clear H
          have H := H1
          clear H1
          exact absurd ((Option.some.inj H).trans hrt_.out) (by decide)
        · replace c22 := Bool.eq_false_iff.mpr c22
          subst c22
          have H1 : (stanzalaw18_JustWhole.l0 kj8 (wrap64 (Int.tmod a1 200)) t141 t144 t147 (t141.length : Int) 0) = some r := by rw [if_neg (show ¬ (false = true) by decide)] at H; exact H
          clear H
          have H := H1
          clear H1
          have H' := Aside0.mk H
          clear H
          obtain ⟨Ao23, co23, eo23⟩ := Kd.R_slice HO_10.out
          subst eo23
          go_wp2
          repeat (go_quiet (fail); try go_wp2)
          go_loopg [58] kj8 (fun kq v58 w' => ∃ (x58_2 : Int), v58 = .int .i64 x58_2 ∧ Aside0 (stanzalaw18_JustWhole.l0 kq (wrap64 (Int.tmod a1 200)) t141 t144 t147 (t141.length : Int) x58_2 = some r) ∧ Aside0 (kq ≤ kj8) ∧ Aside0 (Kd.R (Kd.int .i64) 3 w' w.heap.size (fun k_ => some k_ ≠ (v145 : Value).ownBlock ∧ some k_ ≠ (v148 : Value).ownBlock) (.slice Ao23 t141.length co23) t141) ∧ Aside0 (Kd.R (Kd.int .i64) 3 w' w.heap.size (fun k_ => some k_ ≠ ((.slice Ao23 t141.length co23) : Value).ownBlock ∧ some k_ ≠ (v148 : Value).ownBlock) v145 t144) ∧ Aside0 (Kd.R (Kd.int .i64) 3 w' w.heap.size (fun k_ => some k_ ≠ ((.slice Ao23 t141.length co23) : Value).ownBlock ∧ some k_ ≠ (v145 : Value).ownBlock) v148 t147) ∧ Aside0 (Below w.heap.size w w'))
          case atStart => exact ⟨(0), (by first | rfl | (simp; done) | (simp [*]; done)), H', ⟨Nat.le_refl _⟩, ⟨by (with_reducible repeat (first | apply Kd.R_alloc | apply Kd.R_drewN | apply Kd.R_drew)); exact HO_10.out⟩, ⟨by (with_reducible repeat (first | apply Kd.R_alloc | apply Kd.R_drewN | apply Kd.R_drew)); exact HO_11.out⟩, ⟨by (with_reducible repeat (first | apply Kd.R_alloc | apply Kd.R_drewN | apply Kd.R_drew)); exact HO_12.out⟩, ⟨by repeat (first | (with_reducible first | exact HB.out | apply below_alloc | apply pw_below_drewN | apply below_drew1) | exact HB.out)⟩⟩
          case round =>
            clear H'
            try clear c1
            try clear c2
            try clear p2
            try clear c5
            try clear p6
            try clear c14
            try clear c14b0
            try clear c14b1
            try clear c15
            try clear c15b0
            try clear c15b1
            try clear c22
            try clear p2
            try clear p6
            obtain ⟨x58_2, rfl, HA, HK2, HO_10, HO_11, HO_12, HB⟩ := hrel
            cases gk with
            | zero => exact absurd HA.out (by simp [stanzalaw18_JustWhole.l0])
            | succ k2 =>
              have H := HA.out
              clear HA
              simp only [stanzalaw18_JustWhole.l0] at H
              by_cases c24 : x58_2 < (t141.length : Int)
              · rw [if_pos c24] at H
                have c24b0 : decide (x58_2 < (t141.length : Int)) = true := decide_eq_true c24
                clear c24
                by_cases c25 : 0 ≤ x58_2
                · rw [if_pos c25] at H
                  have c25b0 : decide (0 ≤ x58_2) = true := decide_eq_true c25
                  clear c25
                  by_cases c26 : x58_2 < (t141.length : Int)
                  · rw [if_pos c26] at H
                    have c26b0 : decide (x58_2 < (t141.length : Int)) = true := decide_eq_true c26
                    clear c26
                    by_cases c27 : (rd t141 x58_2) = (wrap64 (Int.tmod a1 200))
                    · rw [if_pos c27] at H
                      have c27b0 : ((rd t141 x58_2) == (wrap64 (Int.tmod a1 200))) = true := beq_iff_eq.mpr c27
                      have c27b1 : ((rd t141 x58_2) != (wrap64 (Int.tmod a1 200))) = false := bne_eq_false_iff_eq.mpr c27
                      clear c27
                      by_cases c28 : x58_2 < (t147.length : Int)
                      · rw [if_pos c28] at H
                        have c28b0 : decide (x58_2 < (t147.length : Int)) = true := decide_eq_true c28
                        clear c28
                        by_cases c29 : x58_2 < (t144.length : Int)
                        · rw [if_pos c29] at H
                          have c29b0 : decide (x58_2 < (t144.length : Int)) = true := decide_eq_true c29
                          clear c29
                          by_cases c30 : (rd t147 x58_2) = (wrap64 ((rd t144 x58_2) + (wrap64 (Int.tmod a1 200))))
                          · rw [if_pos c30] at H
                            have c30b0 : ((rd t147 x58_2) == (wrap64 ((rd t144 x58_2) + (wrap64 (Int.tmod a1 200))))) = true := beq_iff_eq.mpr c30
                            have c30b1 : ((rd t147 x58_2) != (wrap64 ((rd t144 x58_2) + (wrap64 (Int.tmod a1 200))))) = false := bne_eq_false_iff_eq.mpr c30
                            clear c30
                            have H' := Aside0.mk H
                            clear H
                            have p150 : 0 ≤ (x58_2 : Int) := of_decide_eq_true (by first | (with_reducible assumption) | assumption)
                            have q150 : x58_2 < (t141.length : Int) := of_decide_eq_true (by first | (with_reducible assumption) | assumption)
                            obtain ⟨ad150, e150, hx150_0⟩ := Kd.at_int (Kd.R_reads' HO_10.out).2.2 x58_2 p150 q150
                            cases e150
                            replace p150 := eq_true p150
                            replace q150 := eq_true q150
                            obtain ⟨Ao31, co31, eo31⟩ := Kd.R_slice HO_12.out
                            subst eo31
                            have p151 : 0 ≤ (x58_2 : Int) := of_decide_eq_true (by first | (with_reducible assumption) | assumption)
                            have q151 : x58_2 < (t147.length : Int) := of_decide_eq_true (by first | (with_reducible assumption) | assumption)
                            obtain ⟨ad151, e151, hx151_0⟩ := Kd.at_int (Kd.R_reads' HO_12.out).2.2 x58_2 p151 q151
                            cases e151
                            replace p151 := eq_true p151
                            replace q151 := eq_true q151
                            obtain ⟨Ao32, co32, eo32⟩ := Kd.R_slice HO_11.out
                            subst eo32
                            have p152 : 0 ≤ (x58_2 : Int) := of_decide_eq_true (by first | (with_reducible assumption) | assumption)
                            have q152 : x58_2 < (t144.length : Int) := of_decide_eq_true (by first | (with_reducible assumption) | assumption)
                            obtain ⟨ad152, e152, hx152_0⟩ := Kd.at_int (Kd.R_reads' HO_11.out).2.2 x58_2 p152 q152
                            cases e152
                            replace p152 := eq_true p152
                            replace q152 := eq_true q152
                            go_wp2
                            repeat (go_quiet (fail); try go_wp2)
                            go_roundg k2
                            case measure => have := HJ8.out; have := HK2.out; omega
                            case rel => exact ⟨(wrap64 (x58_2 + 1)), (by first | rfl | (simp; done) | (simp [*]; done)), H', ⟨by have := HJ8.out; have := HK2.out; omega⟩, ⟨by (with_reducible repeat (first | apply Kd.R_alloc | apply Kd.R_drewN | apply Kd.R_drew)); exact HO_10.out⟩, ⟨by (with_reducible repeat (first | apply Kd.R_alloc | apply Kd.R_drewN | apply Kd.R_drew)); exact HO_11.out⟩, ⟨by (with_reducible repeat (first | apply Kd.R_alloc | apply Kd.R_drewN | apply Kd.R_drew)); exact HO_12.out⟩, ⟨by repeat (first | (with_reducible first | exact HB.out | apply below_alloc | apply pw_below_drewN | apply below_drew1) | exact HB.out)⟩⟩
                          · rw [if_neg c30] at H
                            have c30b0 : ((rd t147 x58_2) == (wrap64 ((rd t144 x58_2) + (wrap64 (Int.tmod a1 200))))) = false := beq_eq_false_iff_ne.mpr c30
                            have c30b1 : ((rd t147 x58_2) != (wrap64 ((rd t144 x58_2) + (wrap64 (Int.tmod a1 200))))) = true := bne_iff_ne.mpr c30
                            exact absurd ((Option.some.inj H).trans hrt_.out) (by decide)
                        · rw [if_neg c29] at H
                          exact absurd H (by simp)
                      · rw [if_neg c28] at H
                        exact absurd H (by simp)
                    · rw [if_neg c27] at H
                      have c27b0 : ((rd t141 x58_2) == (wrap64 (Int.tmod a1 200))) = false := beq_eq_false_iff_ne.mpr c27
                      have c27b1 : ((rd t141 x58_2) != (wrap64 (Int.tmod a1 200))) = true := bne_iff_ne.mpr c27
                      exact absurd ((Option.some.inj H).trans hrt_.out) (by decide)
                  · rw [if_neg c26] at H
                    exact absurd H (by simp)
                · rw [if_neg c25] at H
                  exact absurd H (by simp)
              · rw [if_neg c24] at H
                have c24b0 : decide (x58_2 < (t141.length : Int)) = false := decide_eq_false c24
                clear c24
                obtain rfl := Option.some.inj H
                go_wp2
                repeat (go_quiet (fail); try go_wp2)
                go_ret
                exact ⟨by first | rfl | (simp [errW_none, errW_some] <;> rfl) | (simp [*, errW_none, errW_some] <;> rfl), by repeat (first | (with_reducible first | exact HB.out | apply below_alloc | apply pw_below_drewN | apply below_drew1) | exact HB.out)⟩
  · replace c5 := Bool.eq_false_iff.mpr c5
    subst c5
    have H1 : (some false) = some r := by rw [if_neg (show ¬ (false = true) by decide)] at H; exact H
    clear H
    have H := H1
    clear H1
    exact absurd ((Option.some.inj H).trans hrt_.out) (by decide)

/-- THE ONE PURE STATEMENT of stanzalaw18_JustWhole. -/
def stanzalaw18_JustWhole.Pure : Prop := ∀ (a0 : Int) (a1 : Int) (a2 : Int), (Lit.int .u16 a0).wf = true → (Lit.int .u16 a1).wf = true → (Lit.int .u8 a2).wf = true → ∃ k, stanzalaw18_JustWhole.f k a0 a1 a2 = some true

end Go.Proofs.Ytbnoeeflpegcoaa.F
