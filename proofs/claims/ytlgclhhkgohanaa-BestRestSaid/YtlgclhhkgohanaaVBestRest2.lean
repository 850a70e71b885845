/- Printed by a program: Lean functions that answer as the Go functions do, and the proofs of it. -/
import Derived.Test.YtlgclhhkgohanaaVBestRest0
import Derived.Test.YtlgclhhkgohanaaVBestRest1
section
namespace Go.Proofs.Ytlgclhhkgohanaa.F
open Go.RowKit Go.Proofs.YtlgclhhkgohanaaW.PrintWords Go.Proofs.YtlgclhhkgohanaaW.PrintLast Go.Proofs.YtlgclhhkgohanaaW.PrintMore
attribute [local go_sem] max2_int min2_int max_two min_two max_three min_three max_four min_four   -- for this text's walks alone
set_option linter.unusedVariables false
set_option linter.unusedSimpArgs false
def stanzalaw15_Awake.f (k : Nat)  : Option (Bool) := (stanzalaw14_Text.f k (⟨#[97, 97, 97, 32, 98, 98, 98, 32, 99, 32, 100, 100, 100, 100, 32, 101, 101, 101, 101, 101, 101, 101, 101, 101]⟩ : ByteArray)).bind fun bt211 => ((best_Break.f k bt211.1 bt211.2 0 24 9 8 1 0 0 4741671816366391296).bind fun bt218 => (if bt218.2 = true then (if (bt218.1.length : Int) = 3 then (if 0 < (bt218.1.length : Int) then (if ((rd_T48 bt218.1 0).f1) = 8 then (if 1 < (bt218.1.length : Int) then (if ((rd_T48 bt218.1 1).f1) = 15 then (some (((rd_T48 bt218.1 1).f2) == 6)) else (some false)) else (none)) else (some false)) else (none)) else (some false)) else (some false)))
theorem stanzalaw15_Awake.mono : ∀ k, LeO (stanzalaw15_Awake.f k ) (stanzalaw15_Awake.f (k + 1) ) := by
  intro  k
  unfold stanzalaw15_Awake.f
  repeat' first
      | (with_reducible exact best_Break.mono _ _ _ _ _ _ _ _ _ _ _)
      | (with_reducible exact stanzalaw14_Text.mono _ _)
      | (with_reducible exact LeO.refl _)
      | (with_reducible exact LeO.none _)
      | (with_reducible refine LeO.ite ?_ ?_)
      | (with_reducible refine LeO.bind ?_ (fun _ => ?_))
      | exact best_Break.mono _ _ _ _ _ _ _ _ _ _ _
      | exact stanzalaw14_Text.mono _ _
      | exact LeO.none _
      | refine LeO.ite ?_ ?_
      | refine LeO.bind ?_ (fun _ => ?_)
set_option maxHeartbeats 8000000 in
set_option maxRecDepth 100000 in
theorem stanzalaw15_Awake.calls (k : Nat)  (r : Bool) (w : World) (h : stanzalaw15_Awake.f k  = some r) (hrt_ : zC (r = true)) :
    Calls Try.prog 10 #[] w fun e w' => e = .returned (.bool r) ∧ Below w.heap.size w w' := by
  have hu31 := Try.underlying31; have hu35 := Try.underlying35; have HB := zC.mk (Below.refl w.heap.size w); have H : ((stanzalaw14_Text.f k (⟨#[97, 97, 97, 32, 98, 98, 98, 32, 99, 32, 100, 100, 100, 100, 32, 101, 101, 101, 101, 101, 101, 101, 101, 101]⟩ : ByteArray)).bind fun bt211 => ((best_Break.f k bt211.1 bt211.2 0 24 9 8 1 0 0 4741671816366391296).bind fun bt218 => (if bt218.2 = true then (if (bt218.1.length : Int) = 3 then (if 0 < (bt218.1.length : Int) then (if ((rd_T48 bt218.1 0).f1) = 8 then (if 1 < (bt218.1.length : Int) then (if ((rd_T48 bt218.1 1).f1) = 15 then (some (((rd_T48 bt218.1 1).f2) == 6)) else (some false)) else (none)) else (some false)) else (none)) else (some false)) else (some false)))) = some r := h
  clear h; replace H := Option.bind_eq_some_iff.mp H; obtain ⟨⟨t211, t214⟩, A10, H⟩ := H; replace H : ((best_Break.f k t211 t214 0 24 9 8 1 0 0 4741671816366391296).bind fun bt218 => (if bt218.2 = true then (if (bt218.1.length : Int) = 3 then (if 0 < (bt218.1.length : Int) then (if ((rd_T48 bt218.1 0).f1) = 8 then (if 1 < (bt218.1.length : Int) then (if ((rd_T48 bt218.1 1).f1) = 15 then (some (((rd_T48 bt218.1 1).f2) == 6)) else (some false)) else (none)) else (some false)) else (none)) else (some false)) else (some false))) = some r := H
  have A1 := zC.mk A10; clear A10; replace H := Option.bind_eq_some_iff.mp H; obtain ⟨⟨t218, t221⟩, A20, H⟩ := H; replace H : (if t221 = true then (if (t218.length : Int) = 3 then (if 0 < (t218.length : Int) then (if ((rd_T48 t218 0).f1) = 8 then (if 1 < (t218.length : Int) then (if ((rd_T48 t218 1).f1) = 15 then (some (((rd_T48 t218 1).f2) == 6)) else (some false)) else (none)) else (some false)) else (none)) else (some false)) else (some false)) = some r := H; have A2 := zC.mk A20; clear A20; by_cases c3 : t221 = true
  rotate_left
  · replace c3 := Bool.eq_false_iff.mpr c3
    subst c3; have H1 : (some false) = some r := by rw [if_neg (show ¬ (false = true) by decide)] at H; exact H
    clear H; have H := H1; clear H1; exact absurd ((Option.some.inj H).trans hrt_.out) (by decide)
  subst c3; have H1 : (if (t218.length : Int) = 3 then (if 0 < (t218.length : Int) then (if ((rd_T48 t218 0).f1) = 8 then (if 1 < (t218.length : Int) then (if ((rd_T48 t218 1).f1) = 15 then (some (((rd_T48 t218 1).f2) == 6)) else (some false)) else (none)) else (some false)) else (none)) else (some false)) = some r := by rw [if_pos rfl] at H; exact H
  clear H; have H := H1; clear H1; by_cases c4 : (t218.length : Int) = 3
  rotate_left
  · rw [if_neg c4] at H
    have c4b0 : ((t218.length : Int) == 3) = false := beq_eq_false_iff_ne.mpr c4
    have c4b1 : ((t218.length : Int) != 3) = true := bne_iff_ne.mpr c4
    exact absurd ((Option.some.inj H).trans hrt_.out) (by decide)
  rw [if_pos c4] at H; have c4b0 : ((t218.length : Int) == 3) = true := beq_iff_eq.mpr c4
  have c4b1 : ((t218.length : Int) != 3) = false := bne_eq_false_iff_eq.mpr c4
  clear c4; by_cases c5 : 0 < (t218.length : Int)
  rotate_left
  · rw [if_neg c5] at H
    exact absurd H (by simp)
  rw [if_pos c5] at H; have c5b0 : decide (0 < (t218.length : Int)) = true := decide_eq_true c5
  have c5b1 : decide (0 < t218.length) = true := decide_eq_true (by omega)
  clear c5; by_cases c6 : ((rd_T48 t218 0).f1) = 8
  rotate_left
  · rw [if_neg c6] at H
    have c6b0 : (((rd_T48 t218 0).f1) == 8) = false := beq_eq_false_iff_ne.mpr c6
    have c6b1 : (((rd_T48 t218 0).f1) != 8) = true := bne_iff_ne.mpr c6
    exact absurd ((Option.some.inj H).trans hrt_.out) (by decide)
  rw [if_pos c6] at H; have c6b0 : (((rd_T48 t218 0).f1) == 8) = true := beq_iff_eq.mpr c6
  have c6b1 : (((rd_T48 t218 0).f1) != 8) = false := bne_eq_false_iff_eq.mpr c6
  clear c6; by_cases c7 : 1 < (t218.length : Int)
  rotate_left
  · rw [if_neg c7] at H
    exact absurd H (by simp)
  rw [if_pos c7] at H; have c7b0 : decide (1 < (t218.length : Int)) = true := decide_eq_true c7
  have c7b1 : decide (1 < t218.length) = true := decide_eq_true (by omega)
  clear c7; by_cases c8 : ((rd_T48 t218 1).f1) = 15
  rotate_left
  · rw [if_neg c8] at H
    have c8b0 : (((rd_T48 t218 1).f1) == 15) = false := beq_eq_false_iff_ne.mpr c8
    have c8b1 : (((rd_T48 t218 1).f1) != 15) = true := bne_iff_ne.mpr c8
    exact absurd ((Option.some.inj H).trans hrt_.out) (by decide)
  rw [if_pos c8] at H; have c8b0 : (((rd_T48 t218 1).f1) == 15) = true := beq_iff_eq.mpr c8
  have c8b1 : (((rd_T48 t218 1).f1) != 15) = false := bne_eq_false_iff_eq.mpr c8
  clear c8; obtain rfl := Option.some.inj H
  go_enter Try.func10, Try.ntmps10
  go_wp2_with (first | ((with_reducible refine gate_callee (f := 23) rfl ?_); refine goesL_ (some 4) rfl rfl Try.func23 (by kernel_rfl) rfl #[.string (⟨#[97, 97, 97, 32, 98, 98, 98, 32, 99, 32, 100, 100, 100, 100, 32, 101, 101, 101, 101, 101, 101, 101, 101, 101]⟩ : ByteArray)] rfl (by (try simp only [List.map_toArray, List.map_cons, List.map_nil]); first | done | rfl | (simp only [List.length_drop, List.length_take]; rfl)) ?_; (with_reducible refine (stanzalaw14_Text.calls k (⟨#[97, 97, 97, 32, 98, 98, 98, 32, 99, 32, 100, 100, 100, 100, 32, 101, 101, 101, 101, 101, 101, 101, 101, 101]⟩ : ByteArray) t211 t214 _ A1.out).mono ?_); rintro e w9 ⟨v212, v215, rfl, ho0, ho1, hb⟩; refine ⟨_, rfl, ?_⟩; have n0_ := zC.mk (Kd.R_lower ho0 (zL (by repeat (first | (with_reducible first | exact HB.out | apply zJ | apply zF | apply zI) | exact HB.out)))); have n1_ := zC.mk (Kd.R_lower ho1 (zL (by repeat (first | (with_reducible first | exact HB.out | apply zJ | apply zF | apply zI) | exact HB.out)))); have n2_ := zC.mk (below_step (by repeat (first | (with_reducible first | exact HB.out | apply zJ | apply zF | apply zI) | exact HB.out)) hb); clear HB; have HO213 := n0_; have HO216 := n1_; have HB := n2_; clear n0_ n1_ n2_; (try clear hb); (try clear hb2); (try clear hk); (try clear hi); (try clear ho0); (try clear ho1)) | ((with_reducible refine gate_dst (N := 1) rfl ?_); (try (refine gate_guard (by rfl) ?_; dsimp only)); refine box_event ?hg (N := 1) ?hd (cs := #[.slice none 0 0, .slice none 0 0]) (t := 31) ?hr ?_; (case hd => rfl); (case hg => rfl); (case hr => first | (go_simp; done) | (go_simp; rfl)); intro gb217 hg w10 hbox hb; have n0_ := zC.mk (Kd.R_below (by (with_reducible repeat (first | apply Kd.R_alloc | apply Kd.R_drewN | apply Kd.R_drew)); exact HO213.out) hb); have n1_ := zC.mk (Kd.R_below (by (with_reducible repeat (first | apply Kd.R_alloc | apply Kd.R_drewN | apply Kd.R_drew)); exact HO216.out) hb); have n2_ := zC.mk (below_step (by repeat (first | (with_reducible first | exact HB.out | apply zJ | apply zF | apply zI) | exact HB.out)) hb); have n3_ := zC.mk (hbox); have n4_ := zC.mk ((by rw [hg]; exact (zL (by repeat (first | (with_reducible first | exact HB.out | apply zJ | apply zF | apply zI) | exact HB.out))) : w.heap.size ≤ gb217)); have n5_ := zC.mk ((by rw [hg]; exact (zL (by repeat (first | (with_reducible first | exact HB.out | apply zJ | apply zF | apply zI) | exact HB.out))) : w.heap.size ≤ gb217)); clear HO213; clear HO216; clear HB; have HO213 := n0_; have HO216 := n1_; have HB := n2_; have BK217 := n3_; have GW217 := n4_; have GE217 := n5_; clear n0_ n1_ n2_ n3_ n4_ n5_; clear hb hbox hg; obtain ⟨Ao11, co11, eo11⟩ := Kd.R_slice HO213.out; subst eo11; have hcz12_0 : w10.cell? ⟨gb217, 0, none⟩ = some (.slice none 0 0) := (zG BK217.out 0).trans rfl; have hcz12_1 : w10.cell? ⟨gb217, 1, none⟩ = some (.slice none 0 0) := (zG BK217.out 1).trans rfl; have hfz12_0 := zH BK217.out 0; have hfz12_1 := zH BK217.out 1; obtain ⟨Ao13, co13, eo13⟩ := Kd.R_slice HO216.out; subst eo13) | ((with_reducible refine gate_store (t := 31) (p := 1) rfl ?_); refine store_event (t := 31) (p := 1) (v := ?vo_w14) (w1 := ((w10.setCell ⟨gb217, 0, none⟩ (.slice Ao11 t211.length co11)).setCell ⟨gb217, 1, none⟩ (.slice Ao13 t214.length co13))) ?hg ?ho ?hn ?hr ?_; (case ho => rfl); (case hg => rfl); (case hn => rfl); (case hr => first | (go_simp; done) | (go_simp; rfl)); intro w14 hw; have n0_ : zC (Kd.R k62 62 w14 w.heap.size (fun _ => True) (.slice Ao11 t211.length co11) t211) := ⟨(by rw [hw]; exact (by (with_reducible repeat (first | apply Kd.R_alloc | apply Kd.R_drewN | apply Kd.R_drew)); exact Kd.R_mono (Kd.R_far (p := ⟨gb217, 1, none⟩) (Kd.R_far (p := ⟨gb217, 0, none⟩) (Kd.R_types HO213.out BK217.out (by decide)) (fun _ hk => hk.2) (.slice Ao11 t211.length co11)) (fun _ hk => hk.2) (.slice Ao13 t214.length co13)) (fun _ hk => trivial)))⟩; have n1_ : zC (Kd.R (Kd.int .u8) 46 w14 w.heap.size (fun _ => True) (.slice Ao13 t214.length co13) t214) := ⟨(by rw [hw]; exact (by (with_reducible repeat (first | apply Kd.R_alloc | apply Kd.R_drewN | apply Kd.R_drew)); exact Kd.R_mono (Kd.R_far (p := ⟨gb217, 1, none⟩) (Kd.R_far (p := ⟨gb217, 0, none⟩) (Kd.R_types HO216.out BK217.out (by decide)) (fun _ hk => hk.2) (.slice Ao11 t211.length co11)) (fun _ hk => hk.2) (.slice Ao13 t214.length co13)) (fun _ hk => trivial)))⟩; have n2_ : zC (w14.heap[gb217]? = some (.cells #[.slice Ao11 t211.length co11, .slice Ao13 t214.length co13] 31 (0, 0))) := ⟨(by rw [hw]; exact (by (with_reducible repeat (first | refine zB ?_ _ | refine zD ?_ | refine zA ?_ _)); refine blk_put (cs := #[.slice Ao11 t211.length co11, .slice none 0 0]) ?_ 1 _ rfl; (with_reducible repeat (first | refine zB ?_ _ | refine zD ?_ | refine zA ?_ _)); refine blk_put (cs := #[.slice none 0 0, .slice none 0 0]) ?_ 0 _ rfl; (with_reducible repeat (first | refine zB ?_ _ | refine zD ?_ | refine zA ?_ _)); exact BK217.out))⟩; have n3_ : zC (Below w.heap.size w w14) := ⟨(by rw [hw]; exact (by repeat (first | (with_reducible first | exact HB.out | apply zJ | apply zF | apply zI | refine zE ?_ GE217.out) | exact HB.out)))⟩; clear hw; clear HO213; clear HO216; clear BK217; clear HB; have HO213 := n0_; have HO216 := n1_; have BK217 := n2_; have HB := n3_; clear n0_ n1_ n2_ n3_; have hcz15_0 : w14.cell? ⟨gb217, 0, none⟩ = some (.slice Ao11 t211.length co11) := (zG BK217.out 0).trans rfl; have hcz15_1 : w14.cell? ⟨gb217, 1, none⟩ = some (.slice Ao13 t214.length co13) := (zG BK217.out 1).trans rfl; have hfz15_0 := zH BK217.out 0; have hfz15_1 := zH BK217.out 1) | ((with_reducible refine gate_callee (f := 14) rfl ?_); refine goesL_ (some 8) rfl rfl Try.func14 (by kernel_rfl) rfl #[.agg #[.slice Ao11 t211.length co11, .slice Ao13 t214.length co13], .int .i64 0, .int .i64 24, .agg #[.int .i64 9, .int .i64 8, .int .u8 1, .int .i64 0, .int .i64 0, .float .f64 4741671816366391296]] rfl (by (try simp only [List.map_toArray, List.map_cons, List.map_nil]); first | done | rfl | (simp only [List.length_drop, List.length_take]; rfl)) ?_; (with_reducible refine (best_Break.calls k _ _ t211 _ _ t214 0 24 9 8 1 0 0 4741671816366391296 t218 true _ ?side1 ?side2 ?side3 ?side4 A2.out).mono ?_); (case side1 => repeat (first | exact (Kd.R_reads' HO213.out).2.2 | (with_reducible refine Kd.C_alloc ?_ _) | (with_reducible refine Kd.C_drewN ?_ _) | (with_reducible refine Kd.C_drew ?_))); (case side2 => exact (Kd.R_reads' HO213.out).2.1); (case side3 => repeat (first | exact (Kd.R_reads' HO216.out).2.2 | (with_reducible refine Kd.C_alloc ?_ _) | (with_reducible refine Kd.C_drewN ?_ _) | (with_reducible refine Kd.C_drew ?_))); (case side4 => exact (Kd.R_reads' HO216.out).2.1); rintro e w16 ⟨v219, rfl, ho0, hb⟩; refine ⟨_, rfl, ?_⟩; have n0_ := zC.mk (Kd.R_below (by (with_reducible repeat (first | apply Kd.R_alloc | apply Kd.R_drewN | apply Kd.R_drew)); exact HO213.out) hb); have n1_ := zC.mk (Kd.R_below (by (with_reducible repeat (first | apply Kd.R_alloc | apply Kd.R_drewN | apply Kd.R_drew)); exact HO216.out) hb); have n2_ := zC.mk (Kd.R_lower ho0 (zL (by repeat (first | (with_reducible first | exact HB.out | apply zJ | apply zF | apply zI | refine zE ?_ GE217.out) | exact HB.out)))); have n3_ := zC.mk (zK (g := gb217) (o := .cells #[.slice Ao11 t211.length co11, .slice Ao13 t214.length co13] 31 (0, 0)) (by (with_reducible repeat (first | refine zB ?_ _ | refine zD ?_ | refine zA ?_ _)); exact BK217.out) hb); have n4_ := zC.mk (below_step (by repeat (first | (with_reducible first | exact HB.out | apply zJ | apply zF | apply zI | refine zE ?_ GE217.out) | exact HB.out)) hb); clear HO213; clear HO216; clear BK217; clear HB; have HO213 := n0_; have HO216 := n1_; have HO220 := n2_; have BK217 := n3_; have HB := n4_; clear n0_ n1_ n2_ n3_ n4_; (try clear hb); (try clear hb2); (try clear hk); (try clear hi); (try clear ho0); obtain ⟨Ao17, co17, eo17⟩ := Kd.R_slice HO220.out; subst eo17; have p222 : 0 ≤ (0 : Int) := (by omega); have q222 : 0 < (t218.length : Int) := of_decide_eq_true (by first | (with_reducible assumption) | assumption); obtain ⟨ad222, e222, hx222_0, hx222_1, hx222_2, hx222_3⟩ := at_T48 (Kd.R_reads' HO220.out).2.2 0 p222 q222; cases e222; have qi222 : (0 < t218.length) = True := eq_true (by omega); (try rw [show ((0 : Int)).toNat = 0 from rfl] at hx222_0); (try rw [show 0 * 4 = 0 from rfl] at hx222_0); (try rw [Addr.add_zero'] at hx222_0); (try rw [show ((0 : Int)).toNat = 0 from rfl] at hx222_1); (try rw [show 0 * 4 = 0 from rfl] at hx222_1); (try rw [Addr.add_zero'] at hx222_1); (try rw [show ((0 : Int)).toNat = 0 from rfl] at hx222_2); (try rw [show 0 * 4 = 0 from rfl] at hx222_2); (try rw [Addr.add_zero'] at hx222_2); (try rw [show ((0 : Int)).toNat = 0 from rfl] at hx222_3); (try rw [show 0 * 4 = 0 from rfl] at hx222_3); (try rw [Addr.add_zero'] at hx222_3); replace p222 := eq_true p222; replace q222 := eq_true q222; have p223 : 0 ≤ (1 : Int) := (by omega); have q223 : 1 < (t218.length : Int) := of_decide_eq_true (by first | (with_reducible assumption) | assumption); obtain ⟨ad223, e223, hx223_0, hx223_1, hx223_2, hx223_3⟩ := at_T48 (Kd.R_reads' HO220.out).2.2 1 p223 q223; obtain rfl : ad222 = ad223 := (by injection e223); (try simp only [show (1 : Int).toNat = 1 from rfl, Nat.reduceMul, Nat.reduceEqDiff, Go.Addr.add, ↓reduceIte] at hx223_0); (try simp only [show (1 : Int).toNat = 1 from rfl, Nat.reduceMul, Nat.reduceEqDiff, Go.Addr.add, ↓reduceIte] at hx223_1); (try simp only [show (1 : Int).toNat = 1 from rfl, Nat.reduceMul, Nat.reduceEqDiff, Go.Addr.add, ↓reduceIte] at hx223_2); (try simp only [show (1 : Int).toNat = 1 from rfl, Nat.reduceMul, Nat.reduceEqDiff, Go.Addr.add, ↓reduceIte] at hx223_3); have qi223 : (1 < t218.length) = True := eq_true (by omega); (try rw [show ((1 : Int)).toNat = 1 from rfl] at hx223_0); (try rw [show 1 * 4 = 4 from rfl] at hx223_0); (try rw [show ((1 : Int)).toNat = 1 from rfl] at hx223_1); (try rw [show 1 * 4 = 4 from rfl] at hx223_1); (try rw [show ((1 : Int)).toNat = 1 from rfl] at hx223_2); (try rw [show 1 * 4 = 4 from rfl] at hx223_2); (try rw [show ((1 : Int)).toNat = 1 from rfl] at hx223_3); (try rw [show 1 * 4 = 4 from rfl] at hx223_3); replace p223 := eq_true p223; replace q223 := eq_true q223; have p224 : 0 ≤ (1 : Int) := (by omega); have q224 : 1 < (t218.length : Int) := of_decide_eq_true (by first | (with_reducible assumption) | assumption); obtain ⟨ad224, e224, hx224_0, hx224_1, hx224_2, hx224_3⟩ := at_T48 (Kd.R_reads' HO220.out).2.2 1 p224 q224; obtain rfl : ad222 = ad224 := (by injection e224); (try simp only [show (1 : Int).toNat = 1 from rfl, Nat.reduceMul, Nat.reduceEqDiff, Go.Addr.add, ↓reduceIte] at hx224_0); (try simp only [show (1 : Int).toNat = 1 from rfl, Nat.reduceMul, Nat.reduceEqDiff, Go.Addr.add, ↓reduceIte] at hx224_1); (try simp only [show (1 : Int).toNat = 1 from rfl, Nat.reduceMul, Nat.reduceEqDiff, Go.Addr.add, ↓reduceIte] at hx224_2); (try simp only [show (1 : Int).toNat = 1 from rfl, Nat.reduceMul, Nat.reduceEqDiff, Go.Addr.add, ↓reduceIte] at hx224_3); have qi224 : (1 < t218.length) = True := eq_true (by omega); (try rw [show ((1 : Int)).toNat = 1 from rfl] at hx224_0); (try rw [show 1 * 4 = 4 from rfl] at hx224_0); (try rw [show ((1 : Int)).toNat = 1 from rfl] at hx224_1); (try rw [show 1 * 4 = 4 from rfl] at hx224_1); (try rw [show ((1 : Int)).toNat = 1 from rfl] at hx224_2); (try rw [show 1 * 4 = 4 from rfl] at hx224_2); (try rw [show ((1 : Int)).toNat = 1 from rfl] at hx224_3); (try rw [show 1 * 4 = 4 from rfl] at hx224_3); replace p224 := eq_true p224; replace q224 := eq_true q224))
  go_ret
  exact ⟨by first | rfl | (simp [errW_none, errW_some] <;> rfl) | (simp [*, errW_none, errW_some] <;> rfl), by repeat (first | (with_reducible first | exact HB.out | apply zJ | apply zF | apply zI | refine zE ?_ GE217.out) | exact HB.out)⟩
def stanzahand03_Config.f (a0_0 : Int) (a0_1 : Int) (a0_2 : Int) (a0_3 : Int) (a0_4 : Int) (a0_5 : Nat) : Option (Int × Int × Int × Int × Int × Nat) := some (wrap64 (1 + (wrap64 (a0_0))), wrap64 (1 + (wrap64 (Int.tmod a0_1 64))), Int.tmod a0_2 2, wrap64 (a0_3), wrap64 (a0_4), a0_5)
set_option maxHeartbeats 8000000 in
set_option maxRecDepth 100000 in
theorem stanzahand03_Config.calls (a0_0 : Int) (a0_1 : Int) (a0_2 : Int) (a0_3 : Int) (a0_4 : Int) (a0_5 : Nat) (r1 : Int) (r2 : Int) (r3 : Int) (r4 : Int) (r5 : Int) (r6 : Nat) (w : World) (h : stanzahand03_Config.f a0_0 a0_1 a0_2 a0_3 a0_4 a0_5 = some (r1, r2, r3, r4, r5, r6)) :
    Calls Try.prog 12 #[.agg #[.int .u8 a0_0, .int .u8 a0_1, .int .u8 a0_2, .int .u16 a0_3, .int .u16 a0_4, .float .f64 a0_5]] w fun e w' => e = .returned (.agg #[.int .i64 r1, .int .i64 r2, .int .u8 r3, .int .i64 r4, .int .i64 r5, .float .f64 r6]) ∧ Below w.heap.size w w' := by
  have hu26 := Try.underlying26; have hu35 := Try.underlying35; have HB := zC.mk (Below.refl w.heap.size w); have H : (some (wrap64 (1 + (wrap64 (a0_0))), wrap64 (1 + (wrap64 (Int.tmod a0_1 64))), Int.tmod a0_2 2, wrap64 (a0_3), wrap64 (a0_4), a0_5)) = some (r1, r2, r3, r4, r5, r6) := h
  clear h; simp only [Option.some.injEq, Prod.mk.injEq] at H; obtain ⟨rfl, rfl, rfl, rfl, rfl, rfl⟩ := H; go_enter Try.func12, Try.ntmps12
  go_wp2_with (first | ((with_reducible refine gate_dst (N := 1) rfl ?_); refine box_event ?hg (N := 1) ?hd (cs := #[.int .u8 a0_0, .int .u8 a0_1, .int .u8 a0_2, .int .u16 a0_3, .int .u16 a0_4, .float .f64 a0_5]) (t := 26) ?hr ?_; (case hd => rfl); (case hg => rfl); (case hr => first | (go_simp; done) | (go_simp; rfl)); intro gb225 hg w2 hbox hb; have n0_ := zC.mk (below_step (by repeat (first | (with_reducible first | exact HB.out | apply zJ | apply zF | apply zI) | exact HB.out)) hb); have n1_ := zC.mk (hbox); have n2_ := zC.mk ((by rw [hg]; exact (zL (by repeat (first | (with_reducible first | exact HB.out | apply zJ | apply zF | apply zI) | exact HB.out))) : w.heap.size ≤ gb225)); have n3_ := zC.mk ((by rw [hg]; exact (zL (by repeat (first | (with_reducible first | exact HB.out | apply zJ | apply zF | apply zI) | exact HB.out))) : w.heap.size ≤ gb225)); clear HB; have HB := n0_; have BK225 := n1_; have GW225 := n2_; have GE225 := n3_; clear n0_ n1_ n2_ n3_; clear hb hbox hg) | ((with_reducible refine gate_dst (N := 2) rfl ?_); refine box_event ?hg (N := 2) ?hd (cs := #[.int .i64 0, .int .i64 0, .int .u8 0, .int .i64 0, .int .i64 0, .float .f64 0]) (t := 35) ?hr ?_; (case hd => rfl); (case hg => rfl); (case hr => first | (go_simp; done) | (go_simp; rfl)); intro gb226 hg w3 hbox hb; have n0_ := zC.mk (zK (g := gb225) (o := .cells #[.int .u8 a0_0, .int .u8 a0_1, .int .u8 a0_2, .int .u16 a0_3, .int .u16 a0_4, .float .f64 a0_5] 26 (0, 0)) (by (with_reducible repeat (first | refine zB ?_ _ | refine zD ?_ | refine zA ?_ _)); exact BK225.out) hb); have n1_ := zC.mk (below_step (by repeat (first | (with_reducible first | exact HB.out | apply zJ | apply zF | apply zI | refine zE ?_ GE225.out) | exact HB.out)) hb); have n2_ := zC.mk (hbox); have n3_ := zC.mk ((by rw [hg]; exact (zL (by repeat (first | (with_reducible first | exact HB.out | apply zJ | apply zF | apply zI | refine zE ?_ GE225.out) | exact HB.out))) : w.heap.size ≤ gb226)); have n4_ := zC.mk ((by rw [hg]; exact (zL (by repeat (first | (with_reducible first | exact HB.out | apply zJ | apply zF | apply zI | refine zE ?_ GE225.out) | exact HB.out))) : w.heap.size ≤ gb226)); have n5_ := zC.mk ((by rw [hg]; exact Nat.ne_of_lt (blk_lt (g := gb225) (o := .cells #[.int .u8 a0_0, .int .u8 a0_1, .int .u8 a0_2, .int .u16 a0_3, .int .u16 a0_4, .float .f64 a0_5] 26 (0, 0)) (by (with_reducible repeat (first | refine zB ?_ _ | refine zD ?_ | refine zA ?_ _)); exact BK225.out)) : gb225 ≠ gb226)); have n6_ := zC.mk ((by rw [hg]; exact Nat.ne_of_gt (blk_lt (g := gb225) (o := .cells #[.int .u8 a0_0, .int .u8 a0_1, .int .u8 a0_2, .int .u16 a0_3, .int .u16 a0_4, .float .f64 a0_5] 26 (0, 0)) (by (with_reducible repeat (first | refine zB ?_ _ | refine zD ?_ | refine zA ?_ _)); exact BK225.out)) : gb226 ≠ gb225)); clear BK225; clear HB; have BK225 := n0_; have HB := n1_; have BK226 := n2_; have GW226 := n3_; have GE226 := n4_; have NB225_226 := n5_; have NB226_225 := n6_; clear n0_ n1_ n2_ n3_ n4_ n5_ n6_; clear hb hbox hg; have hnb4 := NB225_226.out; have hnc4 := NB226_225.out; have hcz5_0 : w3.cell? ⟨gb225, 0, none⟩ = some (.int .u8 a0_0) := (zG BK225.out 0).trans rfl; have hcz5_1 : w3.cell? ⟨gb225, 1, none⟩ = some (.int .u8 a0_1) := (zG BK225.out 1).trans rfl; have hcz5_2 : w3.cell? ⟨gb225, 2, none⟩ = some (.int .u8 a0_2) := (zG BK225.out 2).trans rfl; have hcz5_3 : w3.cell? ⟨gb225, 3, none⟩ = some (.int .u16 a0_3) := (zG BK225.out 3).trans rfl; have hcz5_4 : w3.cell? ⟨gb225, 4, none⟩ = some (.int .u16 a0_4) := (zG BK225.out 4).trans rfl; have hcz5_5 : w3.cell? ⟨gb225, 5, none⟩ = some (.float .f64 a0_5) := (zG BK225.out 5).trans rfl; have hfz5_0 := zH BK225.out 0; have hfz5_1 := zH BK225.out 1; have hfz5_2 := zH BK225.out 2; have hfz5_3 := zH BK225.out 3; have hfz5_4 := zH BK225.out 4; have hfz5_5 := zH BK225.out 5; have hcz6_0 : w3.cell? ⟨gb226, 0, none⟩ = some (.int .i64 0) := (zG BK226.out 0).trans rfl; have hcz6_1 : w3.cell? ⟨gb226, 1, none⟩ = some (.int .i64 0) := (zG BK226.out 1).trans rfl; have hcz6_2 : w3.cell? ⟨gb226, 2, none⟩ = some (.int .u8 0) := (zG BK226.out 2).trans rfl; have hcz6_3 : w3.cell? ⟨gb226, 3, none⟩ = some (.int .i64 0) := (zG BK226.out 3).trans rfl; have hcz6_4 : w3.cell? ⟨gb226, 4, none⟩ = some (.int .i64 0) := (zG BK226.out 4).trans rfl; have hcz6_5 : w3.cell? ⟨gb226, 5, none⟩ = some (.float .f64 0) := (zG BK226.out 5).trans rfl; have hfz6_0 := zH BK226.out 0; have hfz6_1 := zH BK226.out 1; have hfz6_2 := zH BK226.out 2; have hfz6_3 := zH BK226.out 3; have hfz6_4 := zH BK226.out 4; have hfz6_5 := zH BK226.out 5) | ((with_reducible refine gate_store (t := 35) (p := 2) rfl ?_); refine store_event (t := 35) (p := 2) (v := ?vo_w7) (w1 := ((((((w3.setCell ⟨gb226, 0, none⟩ (.int .i64 (wrap64 (1 + (wrap64 (a0_0)))))).setCell ⟨gb226, 1, none⟩ (.int .i64 (wrap64 (1 + (wrap64 (Int.tmod a0_1 64)))))).setCell ⟨gb226, 2, none⟩ (.int .u8 (Int.tmod a0_2 2))).setCell ⟨gb226, 3, none⟩ (.int .i64 (wrap64 (a0_3)))).setCell ⟨gb226, 4, none⟩ (.int .i64 (wrap64 (a0_4)))).setCell ⟨gb226, 5, none⟩ (.float .f64 a0_5))) ?hg ?ho ?hn ?hr ?_; (case ho => rfl); (case hg => rfl); (case hn => rfl); (case hr => first | (go_simp; done) | (go_simp; rfl)); intro w7 hw; have n0_ : zC (w7.heap[gb225]? = some (.cells #[.int .u8 a0_0, .int .u8 a0_1, .int .u8 a0_2, .int .u16 a0_3, .int .u16 a0_4, .float .f64 a0_5] 26 (0, 0))) := ⟨(by rw [hw]; exact (by (with_reducible repeat (first | refine zB ?_ _ | refine zD ?_ | refine zA ?_ _)); refine blk_far ?_ NB225_226.out _; (with_reducible repeat (first | refine zB ?_ _ | refine zD ?_ | refine zA ?_ _)); refine blk_far ?_ NB225_226.out _; (with_reducible repeat (first | refine zB ?_ _ | refine zD ?_ | refine zA ?_ _)); refine blk_far ?_ NB225_226.out _; (with_reducible repeat (first | refine zB ?_ _ | refine zD ?_ | refine zA ?_ _)); refine blk_far ?_ NB225_226.out _; (with_reducible repeat (first | refine zB ?_ _ | refine zD ?_ | refine zA ?_ _)); refine blk_far ?_ NB225_226.out _; (with_reducible repeat (first | refine zB ?_ _ | refine zD ?_ | refine zA ?_ _)); refine blk_far ?_ NB225_226.out _; (with_reducible repeat (first | refine zB ?_ _ | refine zD ?_ | refine zA ?_ _)); exact BK225.out))⟩; have n1_ : zC (w7.heap[gb226]? = some (.cells #[.int .i64 (wrap64 (1 + (wrap64 (a0_0)))), .int .i64 (wrap64 (1 + (wrap64 (Int.tmod a0_1 64)))), .int .u8 (Int.tmod a0_2 2), .int .i64 (wrap64 (a0_3)), .int .i64 (wrap64 (a0_4)), .float .f64 a0_5] 35 (0, 0))) := ⟨(by rw [hw]; exact (by (with_reducible repeat (first | refine zB ?_ _ | refine zD ?_ | refine zA ?_ _)); refine blk_put (cs := #[.int .i64 (wrap64 (1 + (wrap64 (a0_0)))), .int .i64 (wrap64 (1 + (wrap64 (Int.tmod a0_1 64)))), .int .u8 (Int.tmod a0_2 2), .int .i64 (wrap64 (a0_3)), .int .i64 (wrap64 (a0_4)), .float .f64 0]) ?_ 5 _ rfl; (with_reducible repeat (first | refine zB ?_ _ | refine zD ?_ | refine zA ?_ _)); refine blk_put (cs := #[.int .i64 (wrap64 (1 + (wrap64 (a0_0)))), .int .i64 (wrap64 (1 + (wrap64 (Int.tmod a0_1 64)))), .int .u8 (Int.tmod a0_2 2), .int .i64 (wrap64 (a0_3)), .int .i64 0, .float .f64 0]) ?_ 4 _ rfl; (with_reducible repeat (first | refine zB ?_ _ | refine zD ?_ | refine zA ?_ _)); refine blk_put (cs := #[.int .i64 (wrap64 (1 + (wrap64 (a0_0)))), .int .i64 (wrap64 (1 + (wrap64 (Int.tmod a0_1 64)))), .int .u8 (Int.tmod a0_2 2), .int .i64 0, .int .i64 0, .float .f64 0]) ?_ 3 _ rfl; (with_reducible repeat (first | refine zB ?_ _ | refine zD ?_ | refine zA ?_ _)); refine blk_put (cs := #[.int .i64 (wrap64 (1 + (wrap64 (a0_0)))), .int .i64 (wrap64 (1 + (wrap64 (Int.tmod a0_1 64)))), .int .u8 0, .int .i64 0, .int .i64 0, .float .f64 0]) ?_ 2 _ rfl; (with_reducible repeat (first | refine zB ?_ _ | refine zD ?_ | refine zA ?_ _)); refine blk_put (cs := #[.int .i64 (wrap64 (1 + (wrap64 (a0_0)))), .int .i64 0, .int .u8 0, .int .i64 0, .int .i64 0, .float .f64 0]) ?_ 1 _ rfl; (with_reducible repeat (first | refine zB ?_ _ | refine zD ?_ | refine zA ?_ _)); refine blk_put (cs := #[.int .i64 0, .int .i64 0, .int .u8 0, .int .i64 0, .int .i64 0, .float .f64 0]) ?_ 0 _ rfl; (with_reducible repeat (first | refine zB ?_ _ | refine zD ?_ | refine zA ?_ _)); exact BK226.out))⟩; have n2_ : zC (Below w.heap.size w w7) := ⟨(by rw [hw]; exact (by repeat (first | (with_reducible first | exact HB.out | apply zJ | apply zF | apply zI | refine zE ?_ GE225.out | refine zE ?_ GE226.out) | exact HB.out)))⟩; clear hw; clear BK225; clear BK226; clear HB; have BK225 := n0_; have BK226 := n1_; have HB := n2_; clear n0_ n1_ n2_))
  refine bodyPost_ret (results_cell_row rfl _ _ gb226 35 #[.int .i64 (wrap64 (1 + (wrap64 (a0_0)))), .int .i64 (wrap64 (1 + (wrap64 (Int.tmod a0_1 64)))), .int .u8 (Int.tmod a0_2 2), .int .i64 (wrap64 (a0_3)), .int .i64 (wrap64 (a0_4)), .float .f64 a0_5] (0, 0) _ rfl (by (with_reducible repeat (first | refine zB ?_ _ | refine zD ?_ | refine zA ?_ _)); exact BK226.out) Try.underlying35 rfl (by kernel_rfl)) rfl ?_
  exact ⟨by first | rfl | (simp [errW_none, errW_some] <;> rfl) | (simp [*, errW_none, errW_some] <;> rfl), by repeat (first | (with_reducible first | exact HB.out | apply zJ | apply zF | apply zI | refine zE ?_ GE225.out | refine zE ?_ GE226.out) | exact HB.out)⟩
end Go.Proofs.Ytlgclhhkgohanaa.F
end
section
namespace Go.Proofs.Ytlgclhhkgohanaa.F
open Go.RowKit Go.Proofs.YtlgclhhkgohanaaW.PrintWords Go.Proofs.YtlgclhhkgohanaaW.PrintLast Go.Proofs.YtlgclhhkgohanaaW.PrintMore
attribute [local go_sem] max2_int min2_int max_two min_two max_three min_three max_four min_four   -- for this text's walks alone
set_option linter.unusedVariables false
set_option linter.unusedSimpArgs false
theorem eqA48 (d : Nat) (w : World) (x0 y0 : Int) (x1 y1 : Int) (x2 y2 : Int) (x3 y3 : Int) :
    (Op.equalIn (d + 2) 48 (.agg #[.int .i64 x0, .int .i64 x1, .int .i64 x2, .int .u8 x3]) (.agg #[.int .i64 y0, .int .i64 y1, .int .i64 y2, .int .u8 y3])).run Try.prog w = .ok (x0 == y0 && (x1 == y1 && (x2 == y2 && (x3 == y3)))) w := by
  refine eqA_of Try.underlying48 (by kernel_rfl) ?_
  refine eqf_cons (by rfl) (by go_simp; rfl) (by go_simp; rfl) (by go_simp) ?_
  refine eqf_cons (by rfl) (by go_simp; rfl) (by go_simp; rfl) (by go_simp) ?_
  refine eqf_cons (by rfl) (by go_simp; rfl) (by go_simp; rfl) (by go_simp) ?_
  exact eqf_last (by rfl) (by go_simp; rfl) (by go_simp; rfl) (by go_simp)
end Go.Proofs.Ytlgclhhkgohanaa.F
end
section
namespace Go.Proofs.Ytlgclhhkgohanaa.F
open Go.RowKit Go.Proofs.YtlgclhhkgohanaaW.PrintWords Go.Proofs.YtlgclhhkgohanaaW.PrintLast Go.Proofs.YtlgclhhkgohanaaW.PrintMore
attribute [local go_sem] max2_int min2_int max_two min_two max_three min_three max_four min_four   -- for this text's walks alone
set_option linter.unusedVariables false
set_option linter.unusedSimpArgs false
attribute [local go_sem high] eqA48
def stanzaref13_SameLines.l0 : Nat → List (S48) → List (S48) → Int → Option (Bool)
  | 0, _, _, _ => none
  | k + 1, x0, x1, x5 => if x5 < (x0.length : Int) then (if 0 ≤ x5 then (if x5 < (x1.length : Int) then (if (!(((rd_T48 x0 x5).f0) == ((rd_T48 x1 x5).f0)) || (!(((rd_T48 x0 x5).f1) == ((rd_T48 x1 x5).f1)) || (!(((rd_T48 x0 x5).f2) == ((rd_T48 x1 x5).f2)) || (!(((rd_T48 x0 x5).f3) == ((rd_T48 x1 x5).f3)))))) = true then (some false) else (stanzaref13_SameLines.l0 k x0 x1 (wrap64 (x5 + 1)))) else (none)) else (none)) else (some true)
def stanzaref13_SameLines.f (k : Nat) (l0 : List (S48)) (l1 : List (S48)) : Option (Bool) := if (l0.length : Int) = (l1.length : Int) then (stanzaref13_SameLines.l0 k l0 l1 0) else (some false)
theorem stanzaref13_SameLines.mono_l : ∀ k, (∀ y0 y1 y2, LeO (stanzaref13_SameLines.l0 k y0 y1 y2) (stanzaref13_SameLines.l0 (k + 1) y0 y1 y2))
  | 0 => fun _ _ _ r h => by simp [stanzaref13_SameLines.l0] at h
  | k + 1 => by
    have ih0 := stanzaref13_SameLines.mono_l k
    · intro y0 y1 y2
      unfold stanzaref13_SameLines.l0
      repeat' first
      | (with_reducible exact ih0 _ _ _)
      | (with_reducible exact LeO.refl _)
      | (with_reducible exact LeO.none _)
      | (with_reducible refine LeO.ite ?_ ?_)
      | (with_reducible refine LeO.bind ?_ (fun _ => ?_))
      | exact ih0 _ _ _
      | exact LeO.none _
      | refine LeO.ite ?_ ?_
      | refine LeO.bind ?_ (fun _ => ?_)
theorem stanzaref13_SameLines.mono : ∀ a0 a1 k, LeO (stanzaref13_SameLines.f k a0 a1) (stanzaref13_SameLines.f (k + 1) a0 a1) := by
  intro a0 a1 k
  have ih0 := stanzaref13_SameLines.mono_l k; unfold stanzaref13_SameLines.f
  repeat' first
      | (with_reducible exact ih0 _ _ _)
      | (with_reducible exact LeO.refl _)
      | (with_reducible exact LeO.none _)
      | (with_reducible refine LeO.ite ?_ ?_)
      | (with_reducible refine LeO.bind ?_ (fun _ => ?_))
      | exact ih0 _ _ _
      | exact LeO.none _
      | refine LeO.ite ?_ ?_
      | refine LeO.bind ?_ (fun _ => ?_)
set_option maxHeartbeats 8000000 in
set_option maxRecDepth 100000 in
theorem stanzaref13_SameLines.calls (k : Nat) (A0 : Option Addr) (c0 : Nat) (l0 : List (S48)) (A1 : Option Addr) (c1 : Nat) (l1 : List (S48)) (r : Bool) (w : World) (hr0 : Kd.C k48 w A0 l0.length l0) (hc0 : l0.length ≤ c0) (hr1 : Kd.C k48 w A1 l1.length l1) (hc1 : l1.length ≤ c1) (h : stanzaref13_SameLines.f k l0 l1 = some r) :
    Calls Try.prog 16 #[.slice A0 l0.length c0, .slice A1 l1.length c1] w fun e w' => e = .returned (.bool r) ∧ Drawn0 w w' := by
  have hu48 := Try.underlying48; have HR0 := zC.mk hr0; have HC0 := zC.mk hc0; clear hr0 hc0; have HR1 := zC.mk hr1; have HC1 := zC.mk hc1; clear hr1 hc1; have H : (if (l0.length : Int) = (l1.length : Int) then (stanzaref13_SameLines.l0 k l0 l1 0) else (some false)) = some r := h
  clear h; by_cases c3 : (l0.length : Int) = (l1.length : Int)
  rotate_left
  · rw [if_neg c3] at H
    have c3b0 : ((l0.length : Int) == (l1.length : Int)) = false := beq_eq_false_iff_ne.mpr c3
    have c3b1 : ((l0.length : Int) != (l1.length : Int)) = true := bne_iff_ne.mpr c3
    have c3b2 : (l0.length == l1.length) = false := by first | simpa using c3 | (simp at c3 ⊢; omega)
    obtain rfl := Option.some.inj H
    go_enter Try.func16, Try.ntmps16
    go_wp2
    repeat (go_quiet (fail); try go_wp2)
    go_ret
    exact ⟨by first | rfl | (simp; done) | (simp [*]; done), by repeat (first | exact Drawn0.refl _ | apply Drawn0.step)⟩
  rw [if_pos c3] at H; have c3b0 : ((l0.length : Int) == (l1.length : Int)) = true := beq_iff_eq.mpr c3
  have c3b1 : ((l0.length : Int) != (l1.length : Int)) = false := bne_eq_false_iff_eq.mpr c3
  have c3b2 : (l0.length == l1.length) = true := by first | simpa using c3 | (simp at c3 ⊢; omega)
  clear c3; have H' := zC.mk H
  clear H; go_enter Try.func16, Try.ntmps16
  go_wp2
  repeat (go_quiet (fail); try go_wp2)
  go_loopg [5] k (fun kq v5 w' => ∃ (x5_1 : Int), v5 = .int .i64 x5_1 ∧ zC (stanzaref13_SameLines.l0 kq l0 l1 x5_1 = some r) ∧ zC (kq ≤ k) ∧ Drawn0 w w')
  case atStart => exact ⟨(0), (by first | rfl | (simp; done) | (simp [*]; done)), H', ⟨Nat.le_refl _⟩, by repeat (first | exact Drawn0.refl _ | apply Drawn0.step)⟩
  clear H'; try clear c1
  try clear p2
  try clear c3
  try clear c3b0
  try clear c3b1
  try clear c3b2
  obtain ⟨x5_1, rfl, HA, HK1, ⟨m1, rfl⟩⟩ := hrel; cases gk with
  | zero => exact absurd HA.out (by simp [stanzaref13_SameLines.l0])
  | succ k1 =>
    have H := HA.out; clear HA; simp only [stanzaref13_SameLines.l0] at H; by_cases c4 : x5_1 < (l0.length : Int)
    rotate_left
    · rw [if_neg c4] at H
      have c4b0 : decide (x5_1 < (l0.length : Int)) = false := decide_eq_false c4
      clear c4; obtain rfl := Option.some.inj H
      go_wp2
      repeat (go_quiet (fail); try go_wp2)
      go_ret
      exact ⟨by first | rfl | (simp; done) | (simp [*]; done), by repeat (first | exact Drawn0.refl _ | apply Drawn0.step)⟩
    rw [if_pos c4] at H; have c4b0 : decide (x5_1 < (l0.length : Int)) = true := decide_eq_true c4
    clear c4; by_cases c5 : 0 ≤ x5_1
    rotate_left
    · rw [if_neg c5] at H
      exact absurd H (by simp)
    rw [if_pos c5] at H; have c5b0 : decide (0 ≤ x5_1) = true := decide_eq_true c5
    clear c5; by_cases c6 : x5_1 < (l1.length : Int)
    rotate_left
    · rw [if_neg c6] at H
      exact absurd H (by simp)
    rw [if_pos c6] at H; have c6b0 : decide (x5_1 < (l1.length : Int)) = true := decide_eq_true c6
    clear c6; by_cases c7 : (!(((rd_T48 l0 x5_1).f0) == ((rd_T48 l1 x5_1).f0)) || (!(((rd_T48 l0 x5_1).f1) == ((rd_T48 l1 x5_1).f1)) || (!(((rd_T48 l0 x5_1).f2) == ((rd_T48 l1 x5_1).f2)) || (!(((rd_T48 l0 x5_1).f3) == ((rd_T48 l1 x5_1).f3)))))) = true
    · rw [if_pos c7] at H
      have c7b0 : (!(((rd_T48 l0 x5_1).f0) == ((rd_T48 l1 x5_1).f0)) || (!(((rd_T48 l0 x5_1).f1) == ((rd_T48 l1 x5_1).f1)) || (!(((rd_T48 l0 x5_1).f2) == ((rd_T48 l1 x5_1).f2)) || (!(((rd_T48 l0 x5_1).f3) == ((rd_T48 l1 x5_1).f3)))))) = true := c7
      clear c7; obtain rfl := Option.some.inj H
      have p272 : 0 ≤ (x5_1 : Int) := of_decide_eq_true (by first | (with_reducible assumption) | assumption)
      have q272 : x5_1 < (l0.length : Int) := of_decide_eq_true (by first | (with_reducible assumption) | assumption)
      obtain ⟨ad272, e272, hx272_0, hx272_1, hx272_2, hx272_3⟩ := at_T48 HR0.out x5_1 p272 q272; cases e272
      replace p272 := eq_true p272; replace q272 := eq_true q272; have p273 : 0 ≤ (x5_1 : Int) := of_decide_eq_true (by first | (with_reducible assumption) | assumption)
      have q273 : x5_1 < (l1.length : Int) := of_decide_eq_true (by first | (with_reducible assumption) | assumption)
      obtain ⟨ad273, e273, hx273_0, hx273_1, hx273_2, hx273_3⟩ := at_T48 HR1.out x5_1 p273 q273; cases e273
      replace p273 := eq_true p273; replace q273 := eq_true q273; go_wp2
      repeat (go_quiet (fail); try go_wp2)
      go_ret
      exact ⟨by first | rfl | (simp; done) | (simp [*]; done), by repeat (first | exact Drawn0.refl _ | apply Drawn0.step)⟩
    rw [if_neg c7] at H; have c7b0 : (!(((rd_T48 l0 x5_1).f0) == ((rd_T48 l1 x5_1).f0)) || (!(((rd_T48 l0 x5_1).f1) == ((rd_T48 l1 x5_1).f1)) || (!(((rd_T48 l0 x5_1).f2) == ((rd_T48 l1 x5_1).f2)) || (!(((rd_T48 l0 x5_1).f3) == ((rd_T48 l1 x5_1).f3)))))) = false := by simpa using c7
    clear c7; have H' := zC.mk H
    clear H; have p272 : 0 ≤ (x5_1 : Int) := of_decide_eq_true (by first | (with_reducible assumption) | assumption)
    have q272 : x5_1 < (l0.length : Int) := of_decide_eq_true (by first | (with_reducible assumption) | assumption)
    obtain ⟨ad272, e272, hx272_0, hx272_1, hx272_2, hx272_3⟩ := at_T48 HR0.out x5_1 p272 q272; cases e272
    replace p272 := eq_true p272; replace q272 := eq_true q272; have p273 : 0 ≤ (x5_1 : Int) := of_decide_eq_true (by first | (with_reducible assumption) | assumption)
    have q273 : x5_1 < (l1.length : Int) := of_decide_eq_true (by first | (with_reducible assumption) | assumption)
    obtain ⟨ad273, e273, hx273_0, hx273_1, hx273_2, hx273_3⟩ := at_T48 HR1.out x5_1 p273 q273; cases e273
    replace p273 := eq_true p273; replace q273 := eq_true q273; go_wp2
    repeat (go_quiet (fail); try go_wp2)
    go_roundg k1
    case measure => have := HK1.out; omega
    case rel => exact ⟨(wrap64 (x5_1 + 1)), (by first | rfl | (simp; done) | (simp [*]; done)), H', ⟨by have := HK1.out; omega⟩, by repeat (first | exact Drawn0.refl _ | apply Drawn0.step)⟩
end Go.Proofs.Ytlgclhhkgohanaa.F
end
section
namespace Go.Proofs.Ytlgclhhkgohanaa.F
open Go.RowKit Go.Proofs.YtlgclhhkgohanaaW.PrintWords Go.Proofs.YtlgclhhkgohanaaW.PrintLast Go.Proofs.YtlgclhhkgohanaaW.PrintMore
attribute [local go_sem] max2_int min2_int max_two min_two max_three min_three max_four min_four   -- for this text's walks alone
set_option linter.unusedVariables false
set_option linter.unusedSimpArgs false
mutual
def stanzalaw15_BestRest.l0 : Nat → List (S45) → Int → Int → Int → Int → Int → Int → Int → Nat → Option (Bool)
  | 0, _, _, _, _, _, _, _, _, _ => none
  | k + 1, x0, x24, x25, x304000, x304001, x304002, x304003, x304004, x304005 => if x25 < x24 then (if 0 ≤ x25 then (if x25 < (x0.length : Int) then (if (Int.tmod ((rd_T45 x0 x25).f3) 4) = 2 then (stanzalaw15_BestRest.l0 k (x0.set (x25 : Int).toNat (⟨(rd_T45 x0 x25).f0, (rd_T45 x0 x25).f1, (rd_T45 x0 x25).f2, 1⟩ : S45)) x24 (wrap64 (x25 + 1)) x304000 x304001 x304002 x304003 x304004 x304005) else (stanzalaw15_BestRest.l0 k x0 x24 (wrap64 (x25 + 1)) x304000 x304001 x304002 x304003 x304004 x304005)) else (none)) else (none)) else ((stanzahand03_Para.f k x0).bind fun bt317 => ((stanzahand03_Config.f x304000 x304001 x304002 x304003 x304004 x304005).bind fun bt323 => ((best_Break.f k bt317.1 bt317.2 0 (bt317.1.length : Int) bt323.1 bt323.2.1 bt323.2.2.1 bt323.2.2.2.1 bt323.2.2.2.2.1 bt323.2.2.2.2.2).bind fun bt331 => (if bt331.2 = true then (stanzalaw15_BestRest.l1 k (bt317.1.length : Int) bt331.1 (bt331.1.length : Int) 0 bt317.1 bt317.2 bt323.1 bt323.2.1 bt323.2.2.1 bt323.2.2.2.1 bt323.2.2.2.2.1 bt323.2.2.2.2.2) else (some ((bt331.1.length : Int) == 0))))))
def stanzalaw15_BestRest.l1 : Nat → Int → List (S48) → Int → Int → List (S62) → List Int → Int → Int → Int → Int → Int → Nat → Option (Bool)
  | 0, _, _, _, _, _, _, _, _, _, _, _, _ => none
  | k + 1, x8, x9, x60, x61, x330000, x330001, x331000, x331001, x331002, x331003, x331004, x331005 => if x61 < x60 then (if 0 ≤ x61 then (if x61 < (x9.length : Int) then ((best_Break.f k x330000 x330001 ((rd_T48 x9 x61).f0) x8 x331000 x331001 x331002 x331003 x331004 x331005).bind fun bt336 => (if bt336.2 = true then (if x61 ≤ (x9.length : Int) then ((stanzaref13_SameLines.f k bt336.1 (x9.drop (x61 : Int).toNat)).bind fun t344 => (if t344 = true then (stanzalaw15_BestRest.l1 k x8 x9 x60 (wrap64 (x61 + 1)) x330000 x330001 x331000 x331001 x331002 x331003 x331004 x331005) else (some false))) else (none)) else (some false))) else (none)) else (none)) else (some true)
end
def stanzalaw15_BestRest.f (k : Nat) (l0 : List (S45)) (a1_0 : Int) (a1_1 : Int) (a1_2 : Int) (a1_3 : Int) (a1_4 : Int) (a1_5 : Nat) : Option (Bool) := (stanzalaw15_Awake.f k).bind fun t304 => (if t304 = true then ((some (([] : List (S45)) : List (S45))).bind fun y305 => (if 0 ≤ (mn (l0.length : Int) 80) then (if (mn (l0.length : Int) 80) ≤ (l0.length : Int) then ((some (l0.take ((mn (l0.length : Int) 80) : Int).toNat : List (S45))).bind fun y308 => (if y305.length + y308.length < 35184372088832 then ((some (y305 ++ y308 : List (S45))).bind fun y312 => (stanzalaw15_BestRest.l0 k y312 (y312.length : Int) 0 a1_0 a1_1 a1_2 a1_3 a1_4 a1_5)) else (none))) else (none)) else (none))) else (some false))
theorem stanzalaw15_BestRest.mono_l : ∀ k, (∀ y0 y1 y2 y3 y4 y5 y6 y7 y8, LeO (stanzalaw15_BestRest.l0 k y0 y1 y2 y3 y4 y5 y6 y7 y8) (stanzalaw15_BestRest.l0 (k + 1) y0 y1 y2 y3 y4 y5 y6 y7 y8)) ∧ (∀ y0 y1 y2 y3 y4 y5 y6 y7 y8 y9 y10 y11, LeO (stanzalaw15_BestRest.l1 k y0 y1 y2 y3 y4 y5 y6 y7 y8 y9 y10 y11) (stanzalaw15_BestRest.l1 (k + 1) y0 y1 y2 y3 y4 y5 y6 y7 y8 y9 y10 y11))
  | 0 => ⟨fun _ _ _ _ _ _ _ _ _ r h => by simp [stanzalaw15_BestRest.l0] at h, fun _ _ _ _ _ _ _ _ _ _ _ _ r h => by simp [stanzalaw15_BestRest.l1] at h⟩
  | k + 1 => by
    obtain ⟨ih0, ih1⟩ := stanzalaw15_BestRest.mono_l k; refine ⟨?_, ?_⟩
    · intro y0 y1 y2 y3 y4 y5 y6 y7 y8
      unfold stanzalaw15_BestRest.l0
      repeat' first
      | (with_reducible exact ih0 _ _ _ _ _ _ _ _ _)
      | (with_reducible exact ih1 _ _ _ _ _ _ _ _ _ _ _ _)
      | (with_reducible exact best_Break.mono _ _ _ _ _ _ _ _ _ _ _)
      | (with_reducible exact stanzahand03_Para.mono _ _)
      | (with_reducible exact stanzalaw15_Awake.mono _)
      | (with_reducible exact stanzaref13_SameLines.mono _ _ _)
      | (with_reducible exact LeO.refl _)
      | (with_reducible exact LeO.none _)
      | (with_reducible refine LeO.ite ?_ ?_)
      | (with_reducible refine LeO.bind ?_ (fun _ => ?_))
      | exact ih0 _ _ _ _ _ _ _ _ _
      | exact ih1 _ _ _ _ _ _ _ _ _ _ _ _
      | exact best_Break.mono _ _ _ _ _ _ _ _ _ _ _
      | exact stanzahand03_Para.mono _ _
      | exact stanzalaw15_Awake.mono _
      | exact stanzaref13_SameLines.mono _ _ _
      | exact LeO.none _
      | refine LeO.ite ?_ ?_
      | refine LeO.bind ?_ (fun _ => ?_)
    · intro y0 y1 y2 y3 y4 y5 y6 y7 y8 y9 y10 y11
      unfold stanzalaw15_BestRest.l1
      repeat' first
      | (with_reducible exact ih0 _ _ _ _ _ _ _ _ _)
      | (with_reducible exact ih1 _ _ _ _ _ _ _ _ _ _ _ _)
      | (with_reducible exact best_Break.mono _ _ _ _ _ _ _ _ _ _ _)
      | (with_reducible exact stanzahand03_Para.mono _ _)
      | (with_reducible exact stanzalaw15_Awake.mono _)
      | (with_reducible exact stanzaref13_SameLines.mono _ _ _)
      | (with_reducible exact LeO.refl _)
      | (with_reducible exact LeO.none _)
      | (with_reducible refine LeO.ite ?_ ?_)
      | (with_reducible refine LeO.bind ?_ (fun _ => ?_))
      | exact ih0 _ _ _ _ _ _ _ _ _
      | exact ih1 _ _ _ _ _ _ _ _ _ _ _ _
      | exact best_Break.mono _ _ _ _ _ _ _ _ _ _ _
      | exact stanzahand03_Para.mono _ _
      | exact stanzalaw15_Awake.mono _
      | exact stanzaref13_SameLines.mono _ _ _
      | exact LeO.none _
      | refine LeO.ite ?_ ?_
      | refine LeO.bind ?_ (fun _ => ?_)
theorem stanzalaw15_BestRest.mono : ∀ a0 a1 a2 a3 a4 a5 a6 k, LeO (stanzalaw15_BestRest.f k a0 a1 a2 a3 a4 a5 a6) (stanzalaw15_BestRest.f (k + 1) a0 a1 a2 a3 a4 a5 a6) := by
  intro a0 a1 a2 a3 a4 a5 a6 k
  obtain ⟨ih0, ih1⟩ := stanzalaw15_BestRest.mono_l k; unfold stanzalaw15_BestRest.f
  repeat' first
      | (with_reducible exact ih0 _ _ _ _ _ _ _ _ _)
      | (with_reducible exact ih1 _ _ _ _ _ _ _ _ _ _ _ _)
      | (with_reducible exact best_Break.mono _ _ _ _ _ _ _ _ _ _ _)
      | (with_reducible exact stanzahand03_Para.mono _ _)
      | (with_reducible exact stanzalaw15_Awake.mono _)
      | (with_reducible exact stanzaref13_SameLines.mono _ _ _)
      | (with_reducible exact LeO.refl _)
      | (with_reducible exact LeO.none _)
      | (with_reducible refine LeO.ite ?_ ?_)
      | (with_reducible refine LeO.bind ?_ (fun _ => ?_))
      | exact ih0 _ _ _ _ _ _ _ _ _
      | exact ih1 _ _ _ _ _ _ _ _ _ _ _ _
      | exact best_Break.mono _ _ _ _ _ _ _ _ _ _ _
      | exact stanzahand03_Para.mono _ _
      | exact stanzalaw15_Awake.mono _
      | exact stanzaref13_SameLines.mono _ _ _
      | exact LeO.none _
      | refine LeO.ite ?_ ?_
      | refine LeO.bind ?_ (fun _ => ?_)
def stanzalaw15_BestRest.T10 : Bool × List (List Nat × List Nat) := (true, [([], []), ([0], [0]), ([], []), ([2, 1], [2]), ([], []), ([], []), ([4, 1, 3, 0, 1, 4, 5], [1, 4]), ([5, 3, 6, 0, 1, 2, 3, 4, 5, 6], [3, 5])])
def stanzalaw15_BestRest.B10 : List Nat := [0, 1, 0, 7, 0, 0, 63, 127]
theorem stanzalaw15_BestRest.tab10 : rtab .any (opsOf Try.f4 10) = stanzalaw15_BestRest.T10 := by kernel_rfl
theorem stanzalaw15_BestRest.bits10 : waitsOk stanzalaw15_BestRest.T10.2 stanzalaw15_BestRest.B10 = true := by kernel_rfl
def stanzalaw15_BestRest.T18 : Bool × List (List Nat × List Nat) := (true, [([], []), ([], []), ([], []), ([1, 2], [1, 2]), ([3], [3]), ([4], [4]), ([], []), ([], []), ([0, 5, 6, 7], [0, 5, 6, 7]), ([8], [8]), ([9], [9]), ([9], [9]), ([10, 8, 0, 1, 2, 3, 4, 5, 6, 7, 8, 9, 10], [10]), ([11, 12, 0, 1, 2, 3, 4, 5, 6, 7, 8, 9, 10, 11, 12], [11])])
def stanzalaw15_BestRest.B18 : List Nat := [0, 0, 0, 6, 14, 30, 0, 0, 255, 511, 1023, 1023, 2047, 8191]
theorem stanzalaw15_BestRest.tab18 : rtab .any (opsOf Try.f4 18) = stanzalaw15_BestRest.T18 := by kernel_rfl
theorem stanzalaw15_BestRest.bits18 : waitsOk stanzalaw15_BestRest.T18.2 stanzalaw15_BestRest.B18 = true := by kernel_rfl
set_option maxHeartbeats 8000000 in
set_option maxRecDepth 100000 in
theorem stanzalaw15_BestRest.calls (k : Nat) (A0 : Option Addr) (c0 : Nat) (l0 : List (S45)) (a1_0 : Int) (a1_1 : Int) (a1_2 : Int) (a1_3 : Int) (a1_4 : Int) (a1_5 : Nat) (r : Bool) (w : World) (hr0 : Kd.C k45 w A0 l0.length l0) (hc0 : l0.length ≤ c0) (h : stanzalaw15_BestRest.f k l0 a1_0 a1_1 a1_2 a1_3 a1_4 a1_5 = some r) (hrt_ : zC (r = true)) :
    Calls Try.prog 4 #[.slice A0 l0.length c0, .agg #[.int .u8 a1_0, .int .u8 a1_1, .int .u8 a1_2, .int .u16 a1_3, .int .u16 a1_4, .float .f64 a1_5]] w fun e w' => e = .returned (.bool r) ∧ Below w.heap.size w w' := by
  have hu26 := Try.underlying26; have hu31 := Try.underlying31; have hu35 := Try.underlying35; have HR0 := zC.mk hr0; have HC0 := zC.mk hc0; clear hr0 hc0; have HB := zC.mk (Below.refl w.heap.size w); have H : ((stanzalaw15_Awake.f k).bind fun t304 => (if t304 = true then ((some (([] : List (S45)) : List (S45))).bind fun y305 => (if 0 ≤ (mn (l0.length : Int) 80) then (if (mn (l0.length : Int) 80) ≤ (l0.length : Int) then ((some (l0.take ((mn (l0.length : Int) 80) : Int).toNat : List (S45))).bind fun y308 => (if y305.length + y308.length < 35184372088832 then ((some (y305 ++ y308 : List (S45))).bind fun y312 => (stanzalaw15_BestRest.l0 k y312 (y312.length : Int) 0 a1_0 a1_1 a1_2 a1_3 a1_4 a1_5)) else (none))) else (none)) else (none))) else (some false))) = some r := h
  clear h; replace H := Option.bind_eq_some_iff.mp H; obtain ⟨t304, A30, H⟩ := H; replace H : (if t304 = true then ((some (([] : List (S45)) : List (S45))).bind fun y305 => (if 0 ≤ (mn (l0.length : Int) 80) then (if (mn (l0.length : Int) 80) ≤ (l0.length : Int) then ((some (l0.take ((mn (l0.length : Int) 80) : Int).toNat : List (S45))).bind fun y308 => (if y305.length + y308.length < 35184372088832 then ((some (y305 ++ y308 : List (S45))).bind fun y312 => (stanzalaw15_BestRest.l0 k y312 (y312.length : Int) 0 a1_0 a1_1 a1_2 a1_3 a1_4 a1_5)) else (none))) else (none)) else (none))) else (some false)) = some r := H
  have A3 := zC.mk A30; clear A30; by_cases c4 : t304 = true
  rotate_left
  · replace c4 := Bool.eq_false_iff.mpr c4
    subst c4; have H1 : (some false) = some r := by rw [if_neg (show ¬ (false = true) by decide)] at H; exact H
    clear H; have H := H1; clear H1; exact absurd ((Option.some.inj H).trans hrt_.out) (by decide)
  subst c4; have H1 : ((some (([] : List (S45)) : List (S45))).bind fun y305 => (if 0 ≤ (mn (l0.length : Int) 80) then (if (mn (l0.length : Int) 80) ≤ (l0.length : Int) then ((some (l0.take ((mn (l0.length : Int) 80) : Int).toNat : List (S45))).bind fun y308 => (if y305.length + y308.length < 35184372088832 then ((some (y305 ++ y308 : List (S45))).bind fun y312 => (stanzalaw15_BestRest.l0 k y312 (y312.length : Int) 0 a1_0 a1_1 a1_2 a1_3 a1_4 a1_5)) else (none))) else (none)) else (none))) = some r := by rw [if_pos rfl] at H; exact H
  clear H; have H := H1; clear H1; obtain ⟨y305, hy305⟩ : ∃ y_ : List (S45), y_ = (([] : List (S45))) := ⟨_, rfl⟩; replace H : (if 0 ≤ (mn (l0.length : Int) 80) then (if (mn (l0.length : Int) 80) ≤ (l0.length : Int) then ((some (l0.take ((mn (l0.length : Int) 80) : Int).toNat : List (S45))).bind fun y308 => (if y305.length + y308.length < 35184372088832 then ((some (y305 ++ y308 : List (S45))).bind fun y312 => (stanzalaw15_BestRest.l0 k y312 (y312.length : Int) 0 a1_0 a1_1 a1_2 a1_3 a1_4 a1_5)) else (none))) else (none)) else (none)) = some r := by first | (rw [hy305]; with_reducible exact H) | (have H2_ := (Option.bind_some _ _).symm.trans H; rw [hy305]; with_reducible exact H2_) | (have H2_ := (Option.bind_some _ _).symm.trans H; with_reducible exact H2_) | with_reducible exact H | (rw [hy305]; exact H) | exact H
  have Ny305 := zC.mk hy305; clear hy305; obtain ⟨ji5, hji5⟩ : ∃ j_ : Int, (mn (l0.length : Int) 80) = j_ := ⟨_, rfl⟩; replace H : (if 0 ≤ (ji5) then (if (ji5) ≤ (l0.length : Int) then ((some (l0.take ((ji5) : Int).toNat : List (S45))).bind fun y308 => (if y305.length + y308.length < 35184372088832 then ((some (y305 ++ y308 : List (S45))).bind fun y312 => (stanzalaw15_BestRest.l0 k y312 (y312.length : Int) 0 a1_0 a1_1 a1_2 a1_3 a1_4 a1_5)) else (none))) else (none)) else (none)) = some r := by first | (rw [hji5] at H; exact H) | (simp only [hji5] at H ⊢; exact H)
  (try rw [hji5] at A3)
  (try (have hji5h : ji5 ≤ 80 := by (rw [← hji5]; unfold mn; (repeat' split) <;> omega)))
  (try (have hji5g : ji5 ≤ 64 := by omega))
  (try (have hji5l : 0 ≤ ji5 := by (rw [← hji5]; unfold mn; (repeat' split) <;> omega)))
  (try (have hji5m : 0 ≤ ji5 := by omega))
  have hji5_ : (if 80 < (l0.length : Int) then 80 else (l0.length : Int)) = ji5 := hji5
  by_cases c6 : 0 ≤ (ji5)
  rotate_left
  · rw [if_neg c6] at H
    exact absurd H (by simp)
  rw [if_pos c6] at H; have c6b0 := eq_true c6; have c6b1 : decide (0 ≤ (ji5)) = true := decide_eq_true c6
  clear c6; by_cases c7 : (ji5) ≤ (l0.length : Int)
  rotate_left
  · rw [if_neg c7] at H
    exact absurd H (by simp)
  rw [if_pos c7] at H; have c7b0 := eq_true c7; have c7b1 : decide ((ji5) ≤ (l0.length : Int)) = true := decide_eq_true c7
  clear c7; obtain ⟨y308, hy308⟩ : ∃ y_ : List (S45), y_ = (l0.take ((ji5) : Int).toNat) := ⟨_, rfl⟩; replace H : (if y305.length + y308.length < 35184372088832 then ((some (y305 ++ y308 : List (S45))).bind fun y312 => (stanzalaw15_BestRest.l0 k y312 (y312.length : Int) 0 a1_0 a1_1 a1_2 a1_3 a1_4 a1_5)) else (none)) = some r := by first | (rw [hy308]; with_reducible exact H) | (have H2_ := (Option.bind_some _ _).symm.trans H; rw [hy308]; with_reducible exact H2_) | (have H2_ := (Option.bind_some _ _).symm.trans H; with_reducible exact H2_) | with_reducible exact H | (rw [hy308]; exact H) | exact H
  have Ny308 := zC.mk hy308; clear hy308; by_cases c8 : y305.length + y308.length < 35184372088832
  rotate_left
  · rw [if_neg c8] at H
    exact absurd H (by simp)
  rw [if_pos c8] at H; have LMc8 := zC.mk c8; clear c8; obtain ⟨y312, hy312⟩ : ∃ y_ : List (S45), y_ = (y305 ++ y308) := ⟨_, rfl⟩; replace H : (stanzalaw15_BestRest.l0 k y312 (y312.length : Int) 0 a1_0 a1_1 a1_2 a1_3 a1_4 a1_5) = some r := by first | (rw [hy312]; with_reducible exact H) | (have H2_ := (Option.bind_some _ _).symm.trans H; rw [hy312]; with_reducible exact H2_) | (have H2_ := (Option.bind_some _ _).symm.trans H; with_reducible exact H2_) | with_reducible exact H | (rw [hy312]; exact H) | exact H
  have Ny312 := zC.mk hy312; clear hy312; have H' := zC.mk H
  clear H; go_enter Try.func4, Try.ntmps4
  go_wp2_with (first | ((with_reducible refine gate_dst (N := 3) rfl ?_); refine box_event ?hg (N := 3) ?hd (cs := #[.int .u8 a1_0, .int .u8 a1_1, .int .u8 a1_2, .int .u16 a1_3, .int .u16 a1_4, .float .f64 a1_5]) (t := 26) ?hr ?_; (case hd => rfl); (case hg => rfl); (case hr => first | (go_simp; done) | (go_simp; rfl)); intro gb303 hg w9 hbox hb; have n0_ := zC.mk (below_step (by repeat (first | (with_reducible first | exact HB.out | apply zJ | apply zF | apply zI) | exact HB.out)) hb); have n1_ := zC.mk (hbox); have n2_ := zC.mk ((by rw [hg]; exact (zL (by repeat (first | (with_reducible first | exact HB.out | apply zJ | apply zF | apply zI) | exact HB.out))) : w.heap.size ≤ gb303)); have n3_ := zC.mk ((by rw [hg]; exact (zL (by repeat (first | (with_reducible first | exact HB.out | apply zJ | apply zF | apply zI) | exact HB.out))) : w.heap.size ≤ gb303)); clear HB; have HB := n0_; have BK303 := n1_; have GW303 := n2_; have GE303 := n3_; clear n0_ n1_ n2_ n3_; clear hb hbox hg) | ((with_reducible refine gate_callee (f := 10) rfl ?_); refine goesL_ (some 14) rfl rfl Try.func10 (by kernel_rfl) rfl #[] rfl (by (try simp only [List.map_toArray, List.map_cons, List.map_nil]); first | done | rfl | (simp only [List.length_drop, List.length_take]; rfl)) ?_; (with_reducible refine (stanzalaw15_Awake.calls k  true _ A3.out (by first | exact ⟨rfl⟩ | exact hrt_)).mono ?_); rintro e w10 ⟨rfl, hb⟩; refine ⟨_, rfl, ?_⟩; have n0_ := zC.mk (zK (g := gb303) (o := .cells #[.int .u8 a1_0, .int .u8 a1_1, .int .u8 a1_2, .int .u16 a1_3, .int .u16 a1_4, .float .f64 a1_5] 26 (0, 0)) (by (with_reducible repeat (first | refine zB ?_ _ | refine zD ?_ | refine zA ?_ _)); exact BK303.out) hb); have n1_ := zC.mk (below_step (by repeat (first | (with_reducible first | exact HB.out | apply zJ | apply zF | apply zI | refine zE ?_ GE303.out) | exact HB.out)) hb); clear BK303; clear HB; have BK303 := n0_; have HB := n1_; clear n0_ n1_; (try clear hb); (try clear hb2); (try clear hk); (try clear hi)) | ((with_reducible refine gate_dst (N := 16) rfl ?_); refine Kd.R_lit k45 _ 45 ?hg (N := 16) ?hd (xs := ([] : List (S45))) (inner := []) (ok := fun _ => True) (okp := fun _ => True) ?hr ?hp (fun _ hk => hk) trivial (Below.refl _ _) (Nat.le_refl _) (by simp) ?_; (case hd => rfl); (case hg => rfl); (case hr => first | (go_simp; done) | (go_simp; rfl)); (case hp => exact (Reps.none _ _)); intro v306 w11 ho12 hb hg_ hnew_; clear hg_ hnew_; (first | rw [← Ny305.out] at ho12 | (simp only [Int.reduceToNat] at ho12; rw [← Ny305.out] at ho12)); have n0_ := zC.mk (Kd.R_lower ho12 (zL (by repeat (first | (with_reducible first | exact HB.out | apply zJ | apply zF | apply zI | refine zE ?_ GE303.out) | exact HB.out)))); have n1_ := zC.mk (zK (g := gb303) (o := .cells #[.int .u8 a1_0, .int .u8 a1_1, .int .u8 a1_2, .int .u16 a1_3, .int .u16 a1_4, .float .f64 a1_5] 26 (0, 0)) (by (with_reducible repeat (first | refine zB ?_ _ | refine zD ?_ | refine zA ?_ _)); exact BK303.out) hb); have n2_ := zC.mk (below_step (by repeat (first | (with_reducible first | exact HB.out | apply zJ | apply zF | apply zI | refine zE ?_ GE303.out) | exact HB.out)) hb); clear BK303; clear HB; have HO307 := n0_; have BK303 := n1_; have HB := n2_; clear n0_ n1_ n2_; clear hb ho12; have q13 : ((ji5) : Int) ≤ ((l0.length : Int) : Int) := of_decide_eq_true (by first | (with_reducible assumption) | assumption); obtain ⟨i013, hi013, _, hsz13, _⟩ := info_parts info45; have hroom13 : l0.length ≤ c0 := HC0.out; have hC13 : Kd.C k45 _ A0 l0.length l0 := HR0.out; have hcut13 := cut_to (P := Try.prog) 22 45 .i64 Try.underlying22 hi013 A0 l0.length c0 (ji5) (of_decide_eq_true (by first | (with_reducible assumption) | assumption)) q13 hroom13; have hr13 := Kd.C_take (m := ((ji5) : Int).toNat) hC13 (by omega); have hy13 : y308.length = ((ji5) : Int).toNat := (by rw [Ny308.out, List.length_take]; omega); rw [← Ny308.out] at hr13; rw [← hy13] at hcut13; have HR311 := zC.mk hr13; have HC311 := zC.mk (show y308.length ≤ c0 from by omega); clear hr13 hC13 hroom13 hi013 hsz13; have KY13 := zC.mk hy13; clear hy13; replace q13 := eq_true q13) | ((with_reducible refine gate_builtin (b := .append) (xs := #[.tmp 16, .tmp 21]) rfl ?_); at_builtin; refine Kd.R_append_rows k45 (w0 := w) w.heap.size rfl (.tmp 16) (.tmp 21) 22 45 (.agg #[(.int .u8 0), (.int .u8 0), (.int .u8 0), (.int .u8 0)]) 4 rfl Try.underlying22 info45 rfl (by decide) (by omega) v306 y305 y308 _ _ _ (fun _ => True) (fun _ => False) rfl rfl ?aO ?aR (fun _ _ h => h) (fun _ h => h.elim) ?aF ?aB ?aS ?aL ?_; (case aR => repeat (first | exact (Kd.C_below HR311.out HB.out) | (with_reducible refine Kd.C_alloc ?_ _) | (with_reducible refine Kd.C_drewN ?_ _) | (with_reducible refine Kd.C_drew ?_))); (case aB => exact (by repeat (first | (with_reducible first | exact HB.out | apply zJ | apply zF | apply zI | refine zE ?_ GE303.out) | exact HB.out))); (case aF => exact (fun _ _ => trivial)); (case aO => exact (by (with_reducible repeat (first | apply Kd.R_alloc | apply Kd.R_drewN | apply Kd.R_drew)); exact HO307.out)); (case aS => exact (zL (by repeat (first | (with_reducible first | exact HB.out | apply zJ | apply zF | apply zI | refine zE ?_ GE303.out) | exact HB.out)))); (case aL => have := LMc8.out; omega); intro v313 w14 ho hb hg hat; rw [← Ny312.out] at ho; have n0_ := zC.mk (blk_grown (g := gb303) (o := .cells #[.int .u8 a1_0, .int .u8 a1_1, .int .u8 a1_2, .int .u16 a1_3, .int .u16 a1_4, .float .f64 a1_5] 26 (0, 0)) (by (with_reducible repeat (first | refine zB ?_ _ | refine zD ?_ | refine zA ?_ _)); exact BK303.out) hg (Kd.R_ne HO307.out BK303.out (by decide))); have n1_ := zC.mk (hb); have n2_ := zC.mk (ho); clear BK303; clear HB; clear HO307; have BK303 := n0_; have HB := n1_; have HO314 := n2_; clear n0_ n1_ n2_; clear ho hb hg hat; obtain ⟨Ao15, co15, eo15⟩ := Kd.R_slice HO314.out; subst eo15))
  go_loopg [25] k (fun kq v25 w' => ∃ (x0_1 : List (S45)) (x25_1 : Int), v25 = .int .i64 x25_1 ∧ zC (stanzalaw15_BestRest.l0 kq x0_1 (y312.length : Int) x25_1 a1_0 a1_1 a1_2 a1_3 a1_4 a1_5 = some r) ∧ zC (kq ≤ k) ∧ zC (Kd.R k45 45 w' w.heap.size (fun _ => True) (.slice Ao15 y312.length co15) x0_1) ∧ zC (w'.heap[gb303]? = some (.cells #[.int .u8 a1_0, .int .u8 a1_1, .int .u8 a1_2, .int .u16 a1_3, .int .u16 a1_4, .float .f64 a1_5] 26 (0, 0))) ∧ zC (Below w.heap.size w w'))
  case atStart => exact ⟨(y312), (0), (by first | rfl | (simp; done) | (simp [*]; done)), H', ⟨Nat.le_refl _⟩, ⟨by (with_reducible repeat (first | apply Kd.R_alloc | apply Kd.R_drewN | apply Kd.R_drew)); exact HO314.out⟩, ⟨by (with_reducible repeat (first | refine zB ?_ _ | refine zD ?_ | refine zA ?_ _)); exact BK303.out⟩, ⟨by repeat (first | (with_reducible first | exact HB.out | apply zJ | apply zF | apply zI | refine zE ?_ GE303.out) | exact HB.out)⟩⟩
  clear H'; try clear c1
  try clear q1
  try clear p2
  try clear c4
  try clear c6
  try clear c6b0
  try clear c6b1
  try clear c7
  try clear c7b0
  try clear c7b1
  try clear c8
  try clear c10
  try clear q13
  try clear q13
  obtain ⟨x0_1, x25_1, rfl, HA, HK1, HO_0, BK303, HB⟩ := hrel; have hl0_1 := (Kd.R_reads' HO_0.out).1; rw [hl0_1] at HO_0; (try simp only [hl0_1])
  (try simp only [hl0_1] at BK303)
  cases gk with
  | zero => exact absurd HA.out (by simp [stanzalaw15_BestRest.l0])
  | succ k1 =>
    have H := HA.out; clear HA; simp only [stanzalaw15_BestRest.l0] at H; by_cases c16 : x25_1 < (y312.length : Int)
    · rw [if_pos c16] at H
      have c16b0 : decide (x25_1 < (y312.length : Int)) = true := decide_eq_true c16
      (try simp only [hl0_1] at c16b0)
      clear c16; by_cases c17 : 0 ≤ x25_1
      rotate_left
      · rw [if_neg c17] at H
        exact absurd H (by simp)
      rw [if_pos c17] at H; have c17b0 : decide (0 ≤ x25_1) = true := decide_eq_true c17
      clear c17; by_cases c18 : x25_1 < (x0_1.length : Int)
      rotate_left
      · rw [if_neg c18] at H
        exact absurd H (by simp)
      rw [if_pos c18] at H; have c18b0 : decide (x25_1 < (x0_1.length : Int)) = true := decide_eq_true c18
      (try simp only [hl0_1] at c18b0)
      clear c18; by_cases c19 : (Int.tmod ((rd_T45 x0_1 x25_1).f3) 4) = 2
      rotate_left
      · rw [if_neg c19] at H
        have c19b0 : ((Int.tmod ((rd_T45 x0_1 x25_1).f3) 4) == 2) = false := beq_eq_false_iff_ne.mpr c19
        have c19b1 : ((Int.tmod ((rd_T45 x0_1 x25_1).f3) 4) != 2) = true := bne_iff_ne.mpr c19
        have H' := zC.mk H
        clear H; have p315 : 0 ≤ (x25_1 : Int) := of_decide_eq_true (by first | (with_reducible assumption) | assumption)
        have q315 : x25_1 < (x0_1.length : Int) := of_decide_eq_true (by first | (with_reducible assumption) | assumption)
        obtain ⟨ad315, e315, hx315_0, hx315_1, hx315_2, hx315_3⟩ := at_T45 (Kd.R_reads' HO_0.out).2.2 x25_1 p315 q315; cases e315
        replace p315 := eq_true p315; replace q315 := eq_true q315; go_wp2
        (try simp only [← hl0_1])
        go_roundg k1
        case measure => have := HK1.out; omega
        case rel => exact ⟨(x0_1), (wrap64 (x25_1 + 1)), (by first | rfl | (simp; done) | (simp [*]; done)), H', ⟨by have := HK1.out; omega⟩, ⟨by (try simp only [hl0_1]); (with_reducible repeat (first | apply Kd.R_alloc | apply Kd.R_drewN | apply Kd.R_drew)); exact HO_0.out⟩, ⟨by (try simp only [hl0_1]); (with_reducible repeat (first | refine zB ?_ _ | refine zD ?_ | refine zA ?_ _)); exact BK303.out⟩, ⟨by repeat (first | (with_reducible first | exact HB.out | apply zJ | apply zF | apply zI | refine zE ?_ GE303.out) | exact HB.out)⟩⟩
      rw [if_pos c19] at H; have c19b0 : ((Int.tmod ((rd_T45 x0_1 x25_1).f3) 4) == 2) = true := beq_iff_eq.mpr c19
      have c19b1 : ((Int.tmod ((rd_T45 x0_1 x25_1).f3) 4) != 2) = false := bne_eq_false_iff_eq.mpr c19
      clear c19; obtain ⟨y316, hy316⟩ : ∃ y_ : List (S45), y_ = (x0_1.set (x25_1 : Int).toNat (⟨(rd_T45 x0_1 x25_1).f0, (rd_T45 x0_1 x25_1).f1, (rd_T45 x0_1 x25_1).f2, 1⟩ : S45)) := ⟨_, rfl⟩; replace H : (stanzalaw15_BestRest.l0 k1 y316 (y312.length : Int) (wrap64 (x25_1 + 1)) a1_0 a1_1 a1_2 a1_3 a1_4 a1_5) = some r := by first | (rw [hy316]; with_reducible exact H) | (have H2_ := (Option.bind_some _ _).symm.trans H; rw [hy316]; with_reducible exact H2_) | (have H2_ := (Option.bind_some _ _).symm.trans H; with_reducible exact H2_) | with_reducible exact H | (rw [hy316]; exact H) | exact H
      have Ny316 := zC.mk hy316; clear hy316; have H' := zC.mk H
      clear H; have p315 : 0 ≤ (x25_1 : Int) := of_decide_eq_true (by first | (with_reducible assumption) | assumption)
      have q315 : x25_1 < (x0_1.length : Int) := of_decide_eq_true (by first | (with_reducible assumption) | assumption)
      obtain ⟨ad315, e315, hx315_0, hx315_1, hx315_2, hx315_3⟩ := at_T45 (Kd.R_reads' HO_0.out).2.2 x25_1 p315 q315; cases e315
      replace p315 := eq_true p315; replace q315 := eq_true q315; have p20 : 0 ≤ (x25_1 : Int) := of_decide_eq_true (by first | (with_reducible assumption) | assumption)
      have q20 : (x25_1 : Int) < ((x0_1.length : Int) : Int) := of_decide_eq_true (by first | (with_reducible assumption) | assumption)
      obtain ⟨go20, co20, eo20, gb20, gl20, cl20, HG20⟩ := Kd.R_form HO_0.out (by omega)
      (first | cases eo20 | (injection eo20 with ea_ en_ ec_; (first | subst ea_ | (injection ea_ with ea_; subst ea_)); subst ec_; clear en_))
      have GB20 := zC.mk gb20; have GG20 := zC.mk HG20; clear gb20 gl20 HG20; (first | simp only [add_plain] at hx315_0 | skip)
      (first | simp only [add_plain] at hx315_1 | skip)
      (first | simp only [add_plain] at hx315_2 | skip)
      (first | simp only [add_plain] at hx315_3 | skip)
      obtain ⟨ce20, hcl20, hM20, hcc20, hfr20⟩ := Kd.R_elem HO_0.out z45 (x25_1 : Int) p20 q20; obtain rfl := k45_openM hM20
      have hx20_0 : wr.cell? ⟨go20, (x25_1 : Int).toNat * 4, none⟩ = some (.int .u8 ((rd_T45 x0_1 x25_1).f0)) := hcc20 0 _ rfl
      have hx20_1 : wr.cell? ⟨go20, (x25_1 : Int).toNat * 4 + 1, none⟩ = some (.int .u8 ((rd_T45 x0_1 x25_1).f1)) := hcc20 1 _ rfl
      have hx20_2 : wr.cell? ⟨go20, (x25_1 : Int).toNat * 4 + 2, none⟩ = some (.int .u8 ((rd_T45 x0_1 x25_1).f2)) := hcc20 2 _ rfl
      have hx20_3 : wr.cell? ⟨go20, (x25_1 : Int).toNat * 4 + 3, none⟩ = some (.int .u8 ((rd_T45 x0_1 x25_1).f3)) := hcc20 3 _ rfl
      have hf20_0 : wr.frozen? ⟨go20, (x25_1 : Int).toNat * 4, none⟩ = false := hfr20 0
      have hf20_1 : wr.frozen? ⟨go20, (x25_1 : Int).toNat * 4 + 1, none⟩ = false := hfr20 1
      have hf20_2 : wr.frozen? ⟨go20, (x25_1 : Int).toNat * 4 + 2, none⟩ = false := hfr20 2
      have hf20_3 : wr.frozen? ⟨go20, (x25_1 : Int).toNat * 4 + 3, none⟩ = false := hfr20 3
      clear hcl20 hcc20 hfr20 hM20; replace p20 := eq_true p20; replace q20 := eq_true q20; have HX21 := zC.mk (show Kd.R k45 45 wr w.heap.size (fun _ => True) (.slice (some ⟨go20, 0, none⟩) x0_1.length co15) x0_1 from (by (with_reducible repeat (first | apply Kd.R_alloc | apply Kd.R_drewN | apply Kd.R_drew)); exact HO_0.out))
      obtain ⟨ce21, hcl21, hM21, hcc21, hfr21⟩ := Kd.R_elem HX21.out z45 (x25_1 : Int) (of_decide_eq_true (by first | (with_reducible assumption) | assumption)) (by have h_ : (x25_1 : Int) < ((x0_1.length : Int) : Int) := of_decide_eq_true (by first | (with_reducible assumption) | assumption); first | exact h_ | (have e_ := (Kd.R_reads' HO_0.out).1; omega) | simpa using h_)
      obtain rfl := k45_openM hM21
      have HP21 := Kd.R_seg HX21.out (x25_1 : Int) (of_decide_eq_true (by first | (with_reducible assumption) | assumption)) (by have h_ : (x25_1 : Int) < ((x0_1.length : Int) : Int) := of_decide_eq_true (by first | (with_reducible assumption) | assumption); first | exact h_ | (have e_ := (Kd.R_reads' HO_0.out).1; omega) | simpa using h_) (seg := [.int .u8 1]) (j := 3) hcl21 hcc21 (show 4 ≤ 4 from by decide) (x' := (⟨(rd_T45 x0_1 x25_1).f0, (rd_T45 x0_1 x25_1).f1, (rd_T45 x0_1 x25_1).f2, 1⟩ : S45)) (k45_mkM _ _ _ (⟨(rd_T45 x0_1 x25_1).f0, (rd_T45 x0_1 x25_1).f1, (rd_T45 x0_1 x25_1).f2, 1⟩ : S45) ) (fun _ hk => hk)
      have hx21_3 := hcc21 3 _ rfl; (try simp only [show (k45).sz = 4 from rfl, Nat.mul_one, Nat.add_zero] at hx21_3)
      have hf21_3 := hfr21 3; (try simp only [show (k45).sz = 4 from rfl, Nat.mul_one, Nat.add_zero] at hf21_3)
      clear hcl21 hcc21 hfr21 hM21; go_wp2_with (first | ((with_reducible refine gate_store (t := 5) (p := 38) rfl ?_); refine store_event (t := 5) (p := 38) (v := ?vo_w22) (w1 := (wr.setCell ⟨go20, (x25_1 : Int).toNat * 4 + 3, none⟩ (.int .u8 1))) ?hg ?ho ?hn ?hr ?_; (case ho => rfl); (case hg => rfl); (case hn => rfl); (case hr => first | (go_simp; done) | (go_simp; rfl)); intro w22 hw; have hg : wr.grownBy w22 (some go20) := (by rw [hw]; exact HP21.2); have hp_ : Kd.R k45 45 w22 w.heap.size (fun _ => True) (.slice (some ⟨go20, 0, none⟩) x0_1.length co15) y316 := (by rw [hw, Ny316.out]; exact HP21.1); clear HP21; have n0_ := zC.mk (hp_); have n1_ := zC.mk (blk_grown (g := gb303) (o := .cells #[.int .u8 a1_0, .int .u8 a1_1, .int .u8 a1_2, .int .u16 a1_3, .int .u16 a1_4, .float .f64 a1_5] 26 (0, 0)) (by (with_reducible repeat (first | refine zB ?_ _ | refine zD ?_ | refine zA ?_ _)); exact BK303.out) hg (Kd.R_ne HO_0.out BK303.out (by decide))); have n2_ := zC.mk ((by rw [hw]; exact zE (HB.out) GB20.out : Below w.heap.size w w22)); clear HO_0; clear BK303; clear HB; have HO_0 := n0_; have BK303 := n1_; have HB := n2_; clear n0_ n1_ n2_; clear hg hw hp_))
      (try simp only [← hl0_1])
      go_roundg k1
      case measure => have := HK1.out; omega
      case rel => exact ⟨(y316), (wrap64 (x25_1 + 1)), (by first | rfl | (simp; done) | (simp [*]; done)), H', ⟨by have := HK1.out; omega⟩, ⟨by (try simp only [hl0_1]); (with_reducible repeat (first | apply Kd.R_alloc | apply Kd.R_drewN | apply Kd.R_drew)); exact HO_0.out⟩, ⟨by (try simp only [hl0_1]); (with_reducible repeat (first | refine zB ?_ _ | refine zD ?_ | refine zA ?_ _)); exact BK303.out⟩, ⟨by repeat (first | (with_reducible first | exact HB.out | apply zJ | apply zF | apply zI | refine zE ?_ GE303.out) | exact HB.out)⟩⟩
    rw [if_neg c16] at H; have c16b0 : decide (x25_1 < (y312.length : Int)) = false := decide_eq_false c16
    (try simp only [hl0_1] at c16b0)
    clear c16; replace H := Option.bind_eq_some_iff.mp H; obtain ⟨⟨t317, t320⟩, A230, H⟩ := H; replace H : ((stanzahand03_Config.f a1_0 a1_1 a1_2 a1_3 a1_4 a1_5).bind fun bt323 => ((best_Break.f k1 t317 t320 0 (t317.length : Int) bt323.1 bt323.2.1 bt323.2.2.1 bt323.2.2.2.1 bt323.2.2.2.2.1 bt323.2.2.2.2.2).bind fun bt331 => (if bt331.2 = true then (stanzalaw15_BestRest.l1 k1 (t317.length : Int) bt331.1 (bt331.1.length : Int) 0 t317 t320 bt323.1 bt323.2.1 bt323.2.2.1 bt323.2.2.2.1 bt323.2.2.2.2.1 bt323.2.2.2.2.2) else (some ((bt331.1.length : Int) == 0))))) = some r := H
    have A23 := zC.mk A230; clear A230; replace H := Option.bind_eq_some_iff.mp H; obtain ⟨⟨t323, t324, t325, t326, t327, t328⟩, A240, H⟩ := H; replace H : ((best_Break.f k1 t317 t320 0 (t317.length : Int) t323 t324 t325 t326 t327 t328).bind fun bt331 => (if bt331.2 = true then (stanzalaw15_BestRest.l1 k1 (t317.length : Int) bt331.1 (bt331.1.length : Int) 0 t317 t320 t323 t324 t325 t326 t327 t328) else (some ((bt331.1.length : Int) == 0)))) = some r := H
    have A24 := zC.mk A240; clear A240; replace H := Option.bind_eq_some_iff.mp H; obtain ⟨⟨t331, t334⟩, A250, H⟩ := H; replace H : (if t334 = true then (stanzalaw15_BestRest.l1 k1 (t317.length : Int) t331 (t331.length : Int) 0 t317 t320 t323 t324 t325 t326 t327 t328) else (some ((t331.length : Int) == 0))) = some r := H; have A25 := zC.mk A250; clear A250; by_cases c26 : t334 = true
    rotate_left
    · replace c26 := Bool.eq_false_iff.mpr c26
      subst c26; have H1 : (some ((t331.length : Int) == 0)) = some r := by rw [if_neg (show ¬ (false = true) by decide)] at H; exact H
      clear H; have H := H1; clear H1; obtain rfl := Option.some.inj H
      try go_wp2
      have n0_ := zC.mk (Kd.R_drew HO_0.out); have n1_ := zC.mk (zD BK303.out); have n2_ := zC.mk (zI HB.out); clear HO_0; clear BK303; clear HB; have HO_0 := n0_; have BK303 := n1_; have HB := n2_; clear n0_ n1_ n2_; refine start_ (n := 8) (S := fun w' => w'.cell? ⟨gb303, 0, none⟩ = some (.int .u8 a1_0) ∧ w'.cell? ⟨gb303, 1, none⟩ = some (.int .u8 a1_1) ∧ w'.cell? ⟨gb303, 2, none⟩ = some (.int .u8 a1_2) ∧ w'.cell? ⟨gb303, 3, none⟩ = some (.int .u16 a1_3) ∧ w'.cell? ⟨gb303, 4, none⟩ = some (.int .u16 a1_4) ∧ w'.cell? ⟨gb303, 5, none⟩ = some (.float .f64 a1_5)) (ds := []) #[false, false, false, false, false, false, false, false] (by kernel_rfl) rfl rfl ⟨(zG BK303.out 0).trans rfl, (zG BK303.out 1).trans rfl, (zG BK303.out 2).trans rfl, (zG BK303.out 3).trans rfl, (zG BK303.out 4).trans rfl, (zG BK303.out 5).trans rfl⟩ (fun hHeld => ?_); refine with_tabW stanzalaw15_BestRest.tab10 stanzalaw15_BestRest.bits10 (fun HT_ HW_ => ?_)
      generalize wr.drew = w63 at HO_0 BK303 HB hHeld ⊢
      refine pure_ (i := 0) (N := some 40) (v := ?_) (a' := ?_) (tf_ 1 8) rfl rfl (any_of HT_.out (by kernel_rfl)) (fun _ _ _ h => h) (Or.inl ⟨by rfl, ?_⟩) ?_ ?_
      rotate_left
      · intro w'
        go_simp
        with_reducible rfl
      rotate_left
      · simp only [Act.put, sA_, sB_, sC_, i64_w, i32_w]
        rfl
      refine take_ (i := 2) (N := some 42) (v := ?_) (a' := ?_) #[true, false, true, false, false, false, false, false] rfl rfl (take_ofW HT_.out HW_.out (by kernel_rfl)) (fun _ _ _ h => h) (Or.inl ⟨by rfl, ?_⟩) hHeld ?_ ?_
      rotate_left
      · rintro w' ⟨s0, s1, s2, s3, s4, s5⟩
        go_simp
        with_reducible rfl
      rotate_left
      · simp only [Act.put, sA_, sB_, sC_, i64_w, i32_w]
        rfl
      refine join_ (σ := Value × Value × Nat × Nat) 2 #[true, true, true, true, true, true, false, false] (fun s_ => [(41, .agg #[s_.1, s_.2.1]), (43, .agg #[.int .i64 t323, .int .i64 t324, .int .u8 t325, .int .i64 t326, .int .i64 t327, .float .f64 t328]), (6, .pointer (some ⟨s_.2.2.1, 0, none⟩)), (7, .pointer (some ⟨s_.2.2.2, 0, none⟩))]) (fun s_ w' => (w'.cell? ⟨gb303, 0, none⟩ = some (.int .u8 a1_0) ∧ w'.cell? ⟨gb303, 1, none⟩ = some (.int .u8 a1_1) ∧ w'.cell? ⟨gb303, 2, none⟩ = some (.int .u8 a1_2) ∧ w'.cell? ⟨gb303, 3, none⟩ = some (.int .u16 a1_3) ∧ w'.cell? ⟨gb303, 4, none⟩ = some (.int .u16 a1_4) ∧ w'.cell? ⟨gb303, 5, none⟩ = some (.float .f64 a1_5)) ∧ (Kd.R k62 62 w' w.heap.size (fun _ => True) s_.1 t317) ∧ (Kd.R (Kd.int .u8) 46 w' w.heap.size (fun _ => True) s_.2.1 t320) ∧ (Kd.R k45 45 w' w.heap.size (fun _ => True) (.slice Ao15 x0_1.length co15) x0_1) ∧ (w'.heap[gb303]? = some (.cells #[.int .u8 a1_0, .int .u8 a1_1, .int .u8 a1_2, .int .u16 a1_3, .int .u16 a1_4, .float .f64 a1_5] 26 (0, 0))) ∧ (w'.heap[s_.2.2.1]? = some (.cells #[.slice none 0 0, .slice none 0 0] 31 (0, 0))) ∧ (w'.heap[s_.2.2.2]? = some (.cells #[.int .i64 0, .int .i64 0, .int .u8 0, .int .i64 0, .int .i64 0, .float .f64 0] 35 (0, 0))) ∧ (w.heap.size ≤ s_.2.2.1) ∧ (w.heap.size ≤ s_.2.2.1) ∧ (gb303 ≠ s_.2.2.1) ∧ (s_.2.2.1 ≠ gb303) ∧ (s_.2.2.2 ≠ s_.2.2.1) ∧ (s_.2.2.1 ≠ s_.2.2.2) ∧ (w.heap.size ≤ s_.2.2.2) ∧ (w.heap.size ≤ s_.2.2.2) ∧ (gb303 ≠ s_.2.2.2) ∧ (s_.2.2.2 ≠ gb303) ∧ (Below w.heap.size w w')) ?_ ?_
      rotate_left
      · intro hJ1_3_4_5
        refine par4_ (fuel := 2) (l' := #[true, true, true, true, true, true, false, false]) (i1 := 1) (i3 := 3) (i4 := 4) (i5 := 5) (σ := Value × Value) (cs4 := #[.slice none 0 0, .slice none 0 0]) (t4 := 31) (cs5 := #[.int .i64 0, .int .i64 0, .int .u8 0, .int .i64 0, .int .i64 0, .float .f64 0]) (t5 := 35) (fun s_ => .agg #[s_.1, s_.2]) (.agg #[.int .i64 t323, .int .i64 t324, .int .u8 t325, .int .i64 t326, .int .i64 t327, .float .f64 t328]) (par4_of HT_.out (by kernel_rfl)) rfl rfl rfl rfl rfl rfl rfl rfl rfl rfl (by decide) rfl (fun w_ => (w_.cell? ⟨gb303, 0, none⟩ = some (.int .u8 a1_0) ∧ w_.cell? ⟨gb303, 1, none⟩ = some (.int .u8 a1_1) ∧ w_.cell? ⟨gb303, 2, none⟩ = some (.int .u8 a1_2) ∧ w_.cell? ⟨gb303, 3, none⟩ = some (.int .u16 a1_3) ∧ w_.cell? ⟨gb303, 4, none⟩ = some (.int .u16 a1_4) ∧ w_.cell? ⟨gb303, 5, none⟩ = some (.float .f64 a1_5)) ∧ (Kd.R k45 45 w_ w.heap.size (fun _ => True) (.slice Ao15 x0_1.length co15) x0_1) ∧ (w_.heap[gb303]? = some (.cells #[.int .u8 a1_0, .int .u8 a1_1, .int .u8 a1_2, .int .u16 a1_3, .int .u16 a1_4, .float .f64 a1_5] 26 (0, 0))) ∧ (Below w.heap.size w w_)) ?pgrow (fun _ hP_ => hP_.1) (fun s_ w_ => (Kd.R k62 62 w_ w.heap.size (fun _ => True) s_.1 t317) ∧ (Kd.R (Kd.int .u8) 46 w_ w.heap.size (fun _ => True) s_.2 t320)) ?pF (fun g_ => (w.heap.size ≤ g_) ∧ (gb303 ≠ g_) ∧ (g_ ≠ gb303)) ?pNew ?pc1 ?pc3 ?pc4 ?pc5 ?pPhi ?pcont
        case pgrow =>
          intro w0_ w1_ hP_ hb_; obtain ⟨hS_, k0_, k1_, k2_⟩ := hP_; have HO_0 := zC.mk (by first | exact Kd.R_below k0_ hb_ | exact zK k0_ hb_ | exact below_step k0_ hb_); have BK303 := zC.mk (by first | exact Kd.R_below k1_ hb_ | exact zK k1_ hb_ | exact below_step k1_ hb_); have HB := zC.mk (by first | exact Kd.R_below k2_ hb_ | exact zK k2_ hb_ | exact below_step k2_ hb_)
          exact ⟨⟨(zG BK303.out 0).trans rfl, (zG BK303.out 1).trans rfl, (zG BK303.out 2).trans rfl, (zG BK303.out 3).trans rfl, (zG BK303.out 4).trans rfl, (zG BK303.out 5).trans rfl⟩, HO_0.out, BK303.out, HB.out⟩
        case pF => intro s_ w0_ w1_ hP_ hb_; obtain ⟨f0_, f1_⟩ := hP_; exact ⟨(by first | exact Kd.R_below f0_ hb_ | exact zK f0_ hb_ | exact below_step f0_ hb_), (by first | exact Kd.R_below f1_ hb_ | exact zK f1_ hb_ | exact below_step f1_ hb_)⟩
        case pNew => intro w0_ hP_; obtain ⟨hS_, k0_, k1_, k2_⟩ := hP_; (try have l0_ := blk_lt k0_); (try have m0_ := zL k0_); (try have l1_ := blk_lt k1_); (try have m1_ := zL k1_); (try have l2_ := blk_lt k2_); (try have m2_ := zL k2_); refine ⟨?_, ?_, ?_⟩ <;> omega
        case pc1 =>
          intro a_ W_ K_ hev_ hP_ h_; obtain ⟨hS_, k0_, k1_, k2_⟩ := hP_; have HO_0 := zC.mk k0_; have BK303 := zC.mk k1_; have HB := zC.mk k2_
          refine goes_ Try.func11 (by kernel_rfl) rfl #[.slice Ao15 x0_1.length co15] (by rfl) rfl rfl (by simp only [List.map_toArray, List.map_cons, List.map_nil]; first | rfl | (simp (disch := decide) only [hev_]; rfl) | (rw [hev_ _ (by decide) (by decide) (by decide) (by decide)]; rfl)) ?_
          with_reducible refine (stanzahand03_Para.calls k1 _ _ x0_1 t317 t320 _ ?side1 ?side2 A23.out).mono ?_
          (case side1 => repeat (first | exact (Kd.R_reads' HO_0.out).2.2 | (with_reducible refine Kd.C_alloc ?_ _) | (with_reducible refine Kd.C_drewN ?_ _) | (with_reducible refine Kd.C_drew ?_)))
          (case side2 => exact (Kd.R_reads' HO_0.out).2.1)
          rintro e w64 ⟨v318, v321, rfl, ho0, ho1, hb⟩
          refine ⟨_, rfl, ?_⟩
          exact h_ (v318, v321) _ hb ⟨(Kd.R_lower ho0 (zL (by repeat (first | (with_reducible first | exact HB.out | apply zJ | apply zF | apply zI | refine zE ?_ GE303.out) | exact HB.out)))), (Kd.R_lower ho1 (zL (by repeat (first | (with_reducible first | exact HB.out | apply zJ | apply zF | apply zI | refine zE ?_ GE303.out) | exact HB.out))))⟩
        case pc3 =>
          intro a_ W_ K_ hev_ hP_ h_; obtain ⟨hS_, k0_, k1_, k2_⟩ := hP_; have HO_0 := zC.mk k0_; have BK303 := zC.mk k1_; have HB := zC.mk k2_
          refine goes_ Try.func12 (by kernel_rfl) rfl #[.agg #[.int .u8 a1_0, .int .u8 a1_1, .int .u8 a1_2, .int .u16 a1_3, .int .u16 a1_4, .float .f64 a1_5]] (by rfl) rfl rfl (by simp only [List.map_toArray, List.map_cons, List.map_nil]; first | rfl | (simp (disch := decide) only [hev_]; rfl) | (rw [hev_ _ (by decide) (by decide) (by decide) (by decide)]; rfl)) ?_
          with_reducible refine (stanzahand03_Config.calls a1_0 a1_1 a1_2 a1_3 a1_4 a1_5 t323 t324 t325 t326 t327 t328 _ A24.out).mono ?_
          rintro e w66 ⟨rfl, hb⟩
          refine ⟨_, rfl, ?_⟩
          exact h_ _ hb
        case pc4 => intro a_ W_; first | (go_simp; done) | (go_simp; rfl)
        case pc5 => intro a_ W_; first | (go_simp; done) | (go_simp; rfl)
        case pPhi => exact ⟨hHeld, HO_0.out, BK303.out, HB.out⟩
        case pcont => intro s_ gb329 gb330 w68 hP_ hF_ y4_ y5_ x4_ x5_ he_; obtain ⟨hS_, k0_, k1_, k2_⟩ := hP_; obtain ⟨v318, v321⟩ := s_; obtain ⟨f0_, f1_⟩ := hF_; exact hJ1_3_4_5 (v318, v321, gb329, gb330) _ ⟨hS_, f0_, f1_, k0_, k1_, y4_, y5_, x4_.1, x4_.1, x4_.2.1, x4_.2.2, (Ne.symm he_), he_, x5_.1, x5_.1, x5_.2.1, x5_.2.2, k2_⟩
      rintro ⟨v318, v321, gb329, gb330⟩ w68 ⟨hS_, h0_, h1_, h2_, h3_, h4_, h5_, h6_, h7_, h8_, h9_, h10_, h11_, h12_, h13_, h14_, h15_, h16_⟩
      have n0_ : zC (Kd.R k62 62 w68 w.heap.size (fun _ => True) v318 t317) := ⟨h0_⟩
      have n1_ : zC (Kd.R (Kd.int .u8) 46 w68 w.heap.size (fun _ => True) v321 t320) := ⟨h1_⟩
      have n2_ : zC (Kd.R k45 45 w68 w.heap.size (fun _ => True) (.slice Ao15 x0_1.length co15) x0_1) := ⟨h2_⟩
      have n3_ : zC (w68.heap[gb303]? = some (.cells #[.int .u8 a1_0, .int .u8 a1_1, .int .u8 a1_2, .int .u16 a1_3, .int .u16 a1_4, .float .f64 a1_5] 26 (0, 0))) := ⟨h3_⟩
      have n4_ : zC (w68.heap[gb329]? = some (.cells #[.slice none 0 0, .slice none 0 0] 31 (0, 0))) := ⟨h4_⟩
      have n5_ : zC (w68.heap[gb330]? = some (.cells #[.int .i64 0, .int .i64 0, .int .u8 0, .int .i64 0, .int .i64 0, .float .f64 0] 35 (0, 0))) := ⟨h5_⟩
      have n6_ : zC (w.heap.size ≤ gb329) := ⟨h6_⟩
      have n7_ : zC (w.heap.size ≤ gb329) := ⟨h7_⟩
      have n8_ : zC (gb303 ≠ gb329) := ⟨h8_⟩
      have n9_ : zC (gb329 ≠ gb303) := ⟨h9_⟩
      have n10_ : zC (gb330 ≠ gb329) := ⟨h10_⟩
      have n11_ : zC (gb329 ≠ gb330) := ⟨h11_⟩
      have n12_ : zC (w.heap.size ≤ gb330) := ⟨h12_⟩
      have n13_ : zC (w.heap.size ≤ gb330) := ⟨h13_⟩
      have n14_ : zC (gb303 ≠ gb330) := ⟨h14_⟩
      have n15_ : zC (gb330 ≠ gb303) := ⟨h15_⟩
      have n16_ : zC (Below w.heap.size w w68) := ⟨h16_⟩
      clear HO_0 BK303 HB h0_ h1_ h2_ h3_ h4_ h5_ h6_ h7_ h8_ h9_ h10_ h11_ h12_ h13_ h14_ h15_ h16_; have HO319 := n0_; have HO322 := n1_; have HO_0 := n2_; have BK303 := n3_; have BK329 := n4_; have BK330 := n5_; have GW329 := n6_; have GE329 := n7_; have NB303_329 := n8_; have NB329_303 := n9_; have NB330_329 := n10_; have NB329_330 := n11_; have GW330 := n12_; have GE330 := n13_; have NB303_330 := n14_; have NB330_303 := n15_; have HB := n16_; clear n0_ n1_ n2_ n3_ n4_ n5_ n6_ n7_ n8_ n9_ n10_ n11_ n12_ n13_ n14_ n15_ n16_; have hHeld : w68.cell? ⟨gb303, 0, none⟩ = some (.int .u8 a1_0) ∧ w68.cell? ⟨gb303, 1, none⟩ = some (.int .u8 a1_1) ∧ w68.cell? ⟨gb303, 2, none⟩ = some (.int .u8 a1_2) ∧ w68.cell? ⟨gb303, 3, none⟩ = some (.int .u16 a1_3) ∧ w68.cell? ⟨gb303, 4, none⟩ = some (.int .u16 a1_4) ∧ w68.cell? ⟨gb303, 5, none⟩ = some (.float .f64 a1_5) := hS_
      obtain ⟨Ao69, co69, eo69⟩ := Kd.R_slice HO319.out; (first | subst eo69 | (injection eo69 with f1_ f2_ f3_; have f4_ := f1_.symm; have f5_ := f3_.symm; clear f1_ f2_ f3_; subst f4_; subst f5_))
      obtain ⟨Ao71, co71, eo71⟩ := Kd.R_slice HO322.out; (first | subst eo71 | (injection eo71 with f1_ f2_ f3_; have f4_ := f1_.symm; have f5_ := f3_.symm; clear f1_ f2_ f3_; subst f4_; subst f5_))
      refine norm_ (a' := ?_) ?_ ?_
      rotate_left
      · simp only [putAll, Act.put, sA_, sB_, sC_]
        rfl
      refine one_ (i := 6) (N := none) #[true, true, true, true, true, true, true, false] rfl rfl (one_of HT_.out (by kernel_rfl)) (by decide) (fun K hK => ?_)
      have hs70 : w68.cell? ⟨gb329, 0, none⟩ = some (.slice none 0 0) := (zG BK329.out 0).trans rfl
      have hfs70 := zH BK329.out 0; have hns70_0 := NB303_329.out; have hns70_2 := NB330_329.out; have hms70_0 := NB329_303.out; have hms70_2 := NB329_330.out; have hs72 : w68.cell? ⟨gb329, 1, none⟩ = some (.slice none 0 0) := (zG BK329.out 1).trans rfl
      have hfs72 := zH BK329.out 1; have hns72_0 := NB303_329.out; have hns72_2 := NB330_329.out; have hms72_0 := NB329_303.out; have hms72_2 := NB329_330.out; refine skip_ (w1 := ?_) (by rfl) rfl ?_ ?_
      rotate_left
      · go_simp
        rfl
      refine hK.out _ _ ⟨((cell_far (p := ⟨gb329, _, none⟩) NB303_329.out _).trans (((cell_far (p := ⟨gb329, _, none⟩) NB303_329.out _).trans (hHeld.1)))), ((cell_far (p := ⟨gb329, _, none⟩) NB303_329.out _).trans (((cell_far (p := ⟨gb329, _, none⟩) NB303_329.out _).trans (hHeld.2.1)))), ((cell_far (p := ⟨gb329, _, none⟩) NB303_329.out _).trans (((cell_far (p := ⟨gb329, _, none⟩) NB303_329.out _).trans (hHeld.2.2.1)))), ((cell_far (p := ⟨gb329, _, none⟩) NB303_329.out _).trans (((cell_far (p := ⟨gb329, _, none⟩) NB303_329.out _).trans (hHeld.2.2.2.1)))), ((cell_far (p := ⟨gb329, _, none⟩) NB303_329.out _).trans (((cell_far (p := ⟨gb329, _, none⟩) NB303_329.out _).trans (hHeld.2.2.2.2.1)))), ((cell_far (p := ⟨gb329, _, none⟩) NB303_329.out _).trans (((cell_far (p := ⟨gb329, _, none⟩) NB303_329.out _).trans (hHeld.2.2.2.2.2))))⟩ (fun hHeld => ?_)
      clear hK K; refine one_ (i := 7) (N := none) #[true, true, true, true, true, true, true, true] rfl rfl (one_of HT_.out (by kernel_rfl)) (by decide) (fun K hK => ?_)
      have hs73 : w68.cell? ⟨gb330, 0, none⟩ = some (.int .i64 0) := (zG BK330.out 0).trans rfl
      have hfs73 := zH BK330.out 0; have hns73_0 := NB303_330.out; have hns73_1 := NB329_330.out; have hms73_0 := NB330_303.out; have hms73_1 := NB330_329.out; have hs74 : w68.cell? ⟨gb330, 1, none⟩ = some (.int .i64 0) := (zG BK330.out 1).trans rfl
      have hfs74 := zH BK330.out 1; have hns74_0 := NB303_330.out; have hns74_1 := NB329_330.out; have hms74_0 := NB330_303.out; have hms74_1 := NB330_329.out; have hs75 : w68.cell? ⟨gb330, 2, none⟩ = some (.int .u8 0) := (zG BK330.out 2).trans rfl
      have hfs75 := zH BK330.out 2; have hns75_0 := NB303_330.out; have hns75_1 := NB329_330.out; have hms75_0 := NB330_303.out; have hms75_1 := NB330_329.out; have hs76 : w68.cell? ⟨gb330, 3, none⟩ = some (.int .i64 0) := (zG BK330.out 3).trans rfl
      have hfs76 := zH BK330.out 3; have hns76_0 := NB303_330.out; have hns76_1 := NB329_330.out; have hms76_0 := NB330_303.out; have hms76_1 := NB330_329.out; have hs77 : w68.cell? ⟨gb330, 4, none⟩ = some (.int .i64 0) := (zG BK330.out 4).trans rfl
      have hfs77 := zH BK330.out 4; have hns77_0 := NB303_330.out; have hns77_1 := NB329_330.out; have hms77_0 := NB330_303.out; have hms77_1 := NB330_329.out; have hs78 : w68.cell? ⟨gb330, 5, none⟩ = some (.float .f64 0) := (zG BK330.out 5).trans rfl
      have hfs78 := zH BK330.out 5; have hns78_0 := NB303_330.out; have hns78_1 := NB329_330.out; have hms78_0 := NB330_303.out; have hms78_1 := NB330_329.out; refine skip_ (w1 := ?_) (by rfl) rfl ?_ ?_
      rotate_left
      · go_simp
        rfl
      refine hK.out _ _ ⟨((cell_far (p := ⟨gb330, _, none⟩) NB303_330.out _).trans (((cell_far (p := ⟨gb330, _, none⟩) NB303_330.out _).trans (((cell_far (p := ⟨gb330, _, none⟩) NB303_330.out _).trans (((cell_far (p := ⟨gb330, _, none⟩) NB303_330.out _).trans (((cell_far (p := ⟨gb330, _, none⟩) NB303_330.out _).trans (((cell_far (p := ⟨gb330, _, none⟩) NB303_330.out _).trans (hHeld.1)))))))))))), ((cell_far (p := ⟨gb330, _, none⟩) NB303_330.out _).trans (((cell_far (p := ⟨gb330, _, none⟩) NB303_330.out _).trans (((cell_far (p := ⟨gb330, _, none⟩) NB303_330.out _).trans (((cell_far (p := ⟨gb330, _, none⟩) NB303_330.out _).trans (((cell_far (p := ⟨gb330, _, none⟩) NB303_330.out _).trans (((cell_far (p := ⟨gb330, _, none⟩) NB303_330.out _).trans (hHeld.2.1)))))))))))), ((cell_far (p := ⟨gb330, _, none⟩) NB303_330.out _).trans (((cell_far (p := ⟨gb330, _, none⟩) NB303_330.out _).trans (((cell_far (p := ⟨gb330, _, none⟩) NB303_330.out _).trans (((cell_far (p := ⟨gb330, _, none⟩) NB303_330.out _).trans (((cell_far (p := ⟨gb330, _, none⟩) NB303_330.out _).trans (((cell_far (p := ⟨gb330, _, none⟩) NB303_330.out _).trans (hHeld.2.2.1)))))))))))), ((cell_far (p := ⟨gb330, _, none⟩) NB303_330.out _).trans (((cell_far (p := ⟨gb330, _, none⟩) NB303_330.out _).trans (((cell_far (p := ⟨gb330, _, none⟩) NB303_330.out _).trans (((cell_far (p := ⟨gb330, _, none⟩) NB303_330.out _).trans (((cell_far (p := ⟨gb330, _, none⟩) NB303_330.out _).trans (((cell_far (p := ⟨gb330, _, none⟩) NB303_330.out _).trans (hHeld.2.2.2.1)))))))))))), ((cell_far (p := ⟨gb330, _, none⟩) NB303_330.out _).trans (((cell_far (p := ⟨gb330, _, none⟩) NB303_330.out _).trans (((cell_far (p := ⟨gb330, _, none⟩) NB303_330.out _).trans (((cell_far (p := ⟨gb330, _, none⟩) NB303_330.out _).trans (((cell_far (p := ⟨gb330, _, none⟩) NB303_330.out _).trans (((cell_far (p := ⟨gb330, _, none⟩) NB303_330.out _).trans (hHeld.2.2.2.2.1)))))))))))), ((cell_far (p := ⟨gb330, _, none⟩) NB303_330.out _).trans (((cell_far (p := ⟨gb330, _, none⟩) NB303_330.out _).trans (((cell_far (p := ⟨gb330, _, none⟩) NB303_330.out _).trans (((cell_far (p := ⟨gb330, _, none⟩) NB303_330.out _).trans (((cell_far (p := ⟨gb330, _, none⟩) NB303_330.out _).trans (((cell_far (p := ⟨gb330, _, none⟩) NB303_330.out _).trans (hHeld.2.2.2.2.2))))))))))))⟩ (fun hHeld => ?_)
      clear hK K; refine done_ (done_of HT_.out (by kernel_rfl)) ?_
      have hnb79 := NB329_303.out; have hnc79 := NB303_329.out; have hnb80 := NB329_330.out; have hnc80 := NB330_329.out; have hcz81_0 : w68.cell? ⟨gb329, 0, none⟩ = some (.slice none 0 0) := (zG BK329.out 0).trans rfl
      have hcz81_1 : w68.cell? ⟨gb329, 1, none⟩ = some (.slice none 0 0) := (zG BK329.out 1).trans rfl
      have hfz81_0 := zH BK329.out 0; have hfz81_1 := zH BK329.out 1; have hnb82 := NB330_303.out; have hnc82 := NB303_330.out; have hcz83_0 : w68.cell? ⟨gb330, 0, none⟩ = some (.int .i64 0) := (zG BK330.out 0).trans rfl
      have hcz83_1 : w68.cell? ⟨gb330, 1, none⟩ = some (.int .i64 0) := (zG BK330.out 1).trans rfl
      have hcz83_2 : w68.cell? ⟨gb330, 2, none⟩ = some (.int .u8 0) := (zG BK330.out 2).trans rfl
      have hcz83_3 : w68.cell? ⟨gb330, 3, none⟩ = some (.int .i64 0) := (zG BK330.out 3).trans rfl
      have hcz83_4 : w68.cell? ⟨gb330, 4, none⟩ = some (.int .i64 0) := (zG BK330.out 4).trans rfl
      have hcz83_5 : w68.cell? ⟨gb330, 5, none⟩ = some (.float .f64 0) := (zG BK330.out 5).trans rfl
      have hfz83_0 := zH BK330.out 0; have hfz83_1 := zH BK330.out 1; have hfz83_2 := zH BK330.out 2; have hfz83_3 := zH BK330.out 3; have hfz83_4 := zH BK330.out 4; have hfz83_5 := zH BK330.out 5; try go_wp2_with (first | ((with_reducible refine gate_callee (f := 14) rfl ?_); refine goesL_ (some 51) rfl rfl Try.func14 (by kernel_rfl) rfl #[.agg #[.slice Ao69 t317.length co69, .slice Ao71 t320.length co71], .int .i64 0, .int .i64 (t317.length : Int), .agg #[.int .i64 t323, .int .i64 t324, .int .u8 t325, .int .i64 t326, .int .i64 t327, .float .f64 t328]] rfl (by (try simp only [List.map_toArray, List.map_cons, List.map_nil]); first | done | rfl | (simp only [List.length_drop, List.length_take]; rfl)) ?_; (with_reducible refine (best_Break.calls k1 _ _ t317 _ _ t320 0 (t317.length : Int) t323 t324 t325 t326 t327 t328 t331 false _ ?side1 ?side2 ?side3 ?side4 A25.out).mono ?_); (case side1 => refine (Kd.R_reads' (e := 62) (base := w.heap.size) (ok := fun k_ => True) (n := t317.length) (c := co69) ?_).2.2; exact (by (with_reducible repeat (first | apply Kd.R_alloc | apply Kd.R_drewN | apply Kd.R_drew)); exact (Kd.R_mono (Kd.R_mono (Kd.R_far (p := ⟨gb330, 5, none⟩) (Kd.R_far (p := ⟨gb330, 4, none⟩) (Kd.R_far (p := ⟨gb330, 3, none⟩) (Kd.R_far (p := ⟨gb330, 2, none⟩) (Kd.R_far (p := ⟨gb330, 1, none⟩) (Kd.R_far (p := ⟨gb330, 0, none⟩) (Kd.R_far (p := ⟨gb329, 1, none⟩) (Kd.R_far (p := ⟨gb329, 0, none⟩) (Kd.R_types (Kd.R_types HO319.out BK329.out (by decide)) BK330.out (by decide)) (fun _ hk => hk.1.2) (.slice Ao69 t317.length co69)) (fun _ hk => hk.1.2) (.slice Ao71 t320.length co71)) (fun _ hk => hk.2) (.int .i64 t323)) (fun _ hk => hk.2) (.int .i64 t324)) (fun _ hk => hk.2) (.int .u8 t325)) (fun _ hk => hk.2) (.int .i64 t326)) (fun _ hk => hk.2) (.int .i64 t327)) (fun _ hk => hk.2) (.float .f64 t328)) (fun _ h_ => h_.1)) (fun _ h_ => h_.1)))); (case side2 => exact (Kd.R_reads' HO319.out).2.1); (case side3 => refine (Kd.R_reads' (e := 46) (base := w.heap.size) (ok := fun k_ => True) (n := t320.length) (c := co71) ?_).2.2; exact (by (with_reducible repeat (first | apply Kd.R_alloc | apply Kd.R_drewN | apply Kd.R_drew)); exact (Kd.R_mono (Kd.R_mono (Kd.R_far (p := ⟨gb330, 5, none⟩) (Kd.R_far (p := ⟨gb330, 4, none⟩) (Kd.R_far (p := ⟨gb330, 3, none⟩) (Kd.R_far (p := ⟨gb330, 2, none⟩) (Kd.R_far (p := ⟨gb330, 1, none⟩) (Kd.R_far (p := ⟨gb330, 0, none⟩) (Kd.R_far (p := ⟨gb329, 1, none⟩) (Kd.R_far (p := ⟨gb329, 0, none⟩) (Kd.R_types (Kd.R_types HO322.out BK329.out (by decide)) BK330.out (by decide)) (fun _ hk => hk.1.2) (.slice Ao69 t317.length co69)) (fun _ hk => hk.1.2) (.slice Ao71 t320.length co71)) (fun _ hk => hk.2) (.int .i64 t323)) (fun _ hk => hk.2) (.int .i64 t324)) (fun _ hk => hk.2) (.int .u8 t325)) (fun _ hk => hk.2) (.int .i64 t326)) (fun _ hk => hk.2) (.int .i64 t327)) (fun _ hk => hk.2) (.float .f64 t328)) (fun _ h_ => h_.1)) (fun _ h_ => h_.1)))); (case side4 => exact (Kd.R_reads' HO322.out).2.1); rintro e w84 ⟨v332, rfl, ho0, hb⟩; refine ⟨_, rfl, ?_⟩; have n0_ := zC.mk (Kd.R_below (by (with_reducible repeat (first | apply Kd.R_alloc | apply Kd.R_drewN | apply Kd.R_drew)); exact (Kd.R_mono (Kd.R_mono (Kd.R_far (p := ⟨gb330, 5, none⟩) (Kd.R_far (p := ⟨gb330, 4, none⟩) (Kd.R_far (p := ⟨gb330, 3, none⟩) (Kd.R_far (p := ⟨gb330, 2, none⟩) (Kd.R_far (p := ⟨gb330, 1, none⟩) (Kd.R_far (p := ⟨gb330, 0, none⟩) (Kd.R_far (p := ⟨gb329, 1, none⟩) (Kd.R_far (p := ⟨gb329, 0, none⟩) (Kd.R_types (Kd.R_types HO_0.out BK329.out (by decide)) BK330.out (by decide)) (fun _ hk => hk.1.2) (.slice Ao69 t317.length co69)) (fun _ hk => hk.1.2) (.slice Ao71 t320.length co71)) (fun _ hk => hk.2) (.int .i64 t323)) (fun _ hk => hk.2) (.int .i64 t324)) (fun _ hk => hk.2) (.int .u8 t325)) (fun _ hk => hk.2) (.int .i64 t326)) (fun _ hk => hk.2) (.int .i64 t327)) (fun _ hk => hk.2) (.float .f64 t328)) (fun _ h_ => h_.1)) (fun _ h_ => h_.1))) hb); have n1_ := zC.mk (Kd.R_below (by (with_reducible repeat (first | apply Kd.R_alloc | apply Kd.R_drewN | apply Kd.R_drew)); exact (Kd.R_mono (Kd.R_mono (Kd.R_far (p := ⟨gb330, 5, none⟩) (Kd.R_far (p := ⟨gb330, 4, none⟩) (Kd.R_far (p := ⟨gb330, 3, none⟩) (Kd.R_far (p := ⟨gb330, 2, none⟩) (Kd.R_far (p := ⟨gb330, 1, none⟩) (Kd.R_far (p := ⟨gb330, 0, none⟩) (Kd.R_far (p := ⟨gb329, 1, none⟩) (Kd.R_far (p := ⟨gb329, 0, none⟩) (Kd.R_types (Kd.R_types HO319.out BK329.out (by decide)) BK330.out (by decide)) (fun _ hk => hk.1.2) (.slice Ao69 t317.length co69)) (fun _ hk => hk.1.2) (.slice Ao71 t320.length co71)) (fun _ hk => hk.2) (.int .i64 t323)) (fun _ hk => hk.2) (.int .i64 t324)) (fun _ hk => hk.2) (.int .u8 t325)) (fun _ hk => hk.2) (.int .i64 t326)) (fun _ hk => hk.2) (.int .i64 t327)) (fun _ hk => hk.2) (.float .f64 t328)) (fun _ h_ => h_.1)) (fun _ h_ => h_.1))) hb); have n2_ := zC.mk (Kd.R_below (by (with_reducible repeat (first | apply Kd.R_alloc | apply Kd.R_drewN | apply Kd.R_drew)); exact (Kd.R_mono (Kd.R_mono (Kd.R_far (p := ⟨gb330, 5, none⟩) (Kd.R_far (p := ⟨gb330, 4, none⟩) (Kd.R_far (p := ⟨gb330, 3, none⟩) (Kd.R_far (p := ⟨gb330, 2, none⟩) (Kd.R_far (p := ⟨gb330, 1, none⟩) (Kd.R_far (p := ⟨gb330, 0, none⟩) (Kd.R_far (p := ⟨gb329, 1, none⟩) (Kd.R_far (p := ⟨gb329, 0, none⟩) (Kd.R_types (Kd.R_types HO322.out BK329.out (by decide)) BK330.out (by decide)) (fun _ hk => hk.1.2) (.slice Ao69 t317.length co69)) (fun _ hk => hk.1.2) (.slice Ao71 t320.length co71)) (fun _ hk => hk.2) (.int .i64 t323)) (fun _ hk => hk.2) (.int .i64 t324)) (fun _ hk => hk.2) (.int .u8 t325)) (fun _ hk => hk.2) (.int .i64 t326)) (fun _ hk => hk.2) (.int .i64 t327)) (fun _ hk => hk.2) (.float .f64 t328)) (fun _ h_ => h_.1)) (fun _ h_ => h_.1))) hb); have n3_ := zC.mk (Kd.R_lower ho0 (zL (by repeat (first | (with_reducible first | exact HB.out | apply zJ | apply zF | apply zI | refine zE ?_ GE303.out | refine zE ?_ GE329.out | refine zE ?_ GE330.out) | exact HB.out)))); have n4_ := zC.mk (zK (g := gb303) (o := .cells #[.int .u8 a1_0, .int .u8 a1_1, .int .u8 a1_2, .int .u16 a1_3, .int .u16 a1_4, .float .f64 a1_5] 26 (0, 0)) (by (with_reducible repeat (first | refine zB ?_ _ | refine zD ?_ | refine zA ?_ _)); refine blk_far ?_ NB303_330.out _; (with_reducible repeat (first | refine zB ?_ _ | refine zD ?_ | refine zA ?_ _)); refine blk_far ?_ NB303_330.out _; (with_reducible repeat (first | refine zB ?_ _ | refine zD ?_ | refine zA ?_ _)); refine blk_far ?_ NB303_330.out _; (with_reducible repeat (first | refine zB ?_ _ | refine zD ?_ | refine zA ?_ _)); refine blk_far ?_ NB303_330.out _; (with_reducible repeat (first | refine zB ?_ _ | refine zD ?_ | refine zA ?_ _)); refine blk_far ?_ NB303_330.out _; (with_reducible repeat (first | refine zB ?_ _ | refine zD ?_ | refine zA ?_ _)); refine blk_far ?_ NB303_330.out _; (with_reducible repeat (first | refine zB ?_ _ | refine zD ?_ | refine zA ?_ _)); refine blk_far ?_ NB303_329.out _; (with_reducible repeat (first | refine zB ?_ _ | refine zD ?_ | refine zA ?_ _)); refine blk_far ?_ NB303_329.out _; (with_reducible repeat (first | refine zB ?_ _ | refine zD ?_ | refine zA ?_ _)); exact BK303.out) hb); have n5_ := zC.mk (zK (g := gb329) (o := .cells #[.slice Ao69 t317.length co69, .slice Ao71 t320.length co71] 31 (0, 0)) (by (with_reducible repeat (first | refine zB ?_ _ | refine zD ?_ | refine zA ?_ _)); refine blk_far ?_ NB329_330.out _; (with_reducible repeat (first | refine zB ?_ _ | refine zD ?_ | refine zA ?_ _)); refine blk_far ?_ NB329_330.out _; (with_reducible repeat (first | refine zB ?_ _ | refine zD ?_ | refine zA ?_ _)); refine blk_far ?_ NB329_330.out _; (with_reducible repeat (first | refine zB ?_ _ | refine zD ?_ | refine zA ?_ _)); refine blk_far ?_ NB329_330.out _; (with_reducible repeat (first | refine zB ?_ _ | refine zD ?_ | refine zA ?_ _)); refine blk_far ?_ NB329_330.out _; (with_reducible repeat (first | refine zB ?_ _ | refine zD ?_ | refine zA ?_ _)); refine blk_far ?_ NB329_330.out _; (with_reducible repeat (first | refine zB ?_ _ | refine zD ?_ | refine zA ?_ _)); refine blk_put (cs := #[.slice Ao69 t317.length co69, .slice none 0 0]) ?_ 1 _ rfl; (with_reducible repeat (first | refine zB ?_ _ | refine zD ?_ | refine zA ?_ _)); refine blk_put (cs := #[.slice none 0 0, .slice none 0 0]) ?_ 0 _ rfl; (with_reducible repeat (first | refine zB ?_ _ | refine zD ?_ | refine zA ?_ _)); exact BK329.out) hb); have n6_ := zC.mk (zK (g := gb330) (o := .cells #[.int .i64 t323, .int .i64 t324, .int .u8 t325, .int .i64 t326, .int .i64 t327, .float .f64 t328] 35 (0, 0)) (by (with_reducible repeat (first | refine zB ?_ _ | refine zD ?_ | refine zA ?_ _)); refine blk_put (cs := #[.int .i64 t323, .int .i64 t324, .int .u8 t325, .int .i64 t326, .int .i64 t327, .float .f64 0]) ?_ 5 _ rfl; (with_reducible repeat (first | refine zB ?_ _ | refine zD ?_ | refine zA ?_ _)); refine blk_put (cs := #[.int .i64 t323, .int .i64 t324, .int .u8 t325, .int .i64 t326, .int .i64 0, .float .f64 0]) ?_ 4 _ rfl; (with_reducible repeat (first | refine zB ?_ _ | refine zD ?_ | refine zA ?_ _)); refine blk_put (cs := #[.int .i64 t323, .int .i64 t324, .int .u8 t325, .int .i64 0, .int .i64 0, .float .f64 0]) ?_ 3 _ rfl; (with_reducible repeat (first | refine zB ?_ _ | refine zD ?_ | refine zA ?_ _)); refine blk_put (cs := #[.int .i64 t323, .int .i64 t324, .int .u8 0, .int .i64 0, .int .i64 0, .float .f64 0]) ?_ 2 _ rfl; (with_reducible repeat (first | refine zB ?_ _ | refine zD ?_ | refine zA ?_ _)); refine blk_put (cs := #[.int .i64 t323, .int .i64 0, .int .u8 0, .int .i64 0, .int .i64 0, .float .f64 0]) ?_ 1 _ rfl; (with_reducible repeat (first | refine zB ?_ _ | refine zD ?_ | refine zA ?_ _)); refine blk_put (cs := #[.int .i64 0, .int .i64 0, .int .u8 0, .int .i64 0, .int .i64 0, .float .f64 0]) ?_ 0 _ rfl; (with_reducible repeat (first | refine zB ?_ _ | refine zD ?_ | refine zA ?_ _)); refine blk_far ?_ NB330_329.out _; (with_reducible repeat (first | refine zB ?_ _ | refine zD ?_ | refine zA ?_ _)); refine blk_far ?_ NB330_329.out _; (with_reducible repeat (first | refine zB ?_ _ | refine zD ?_ | refine zA ?_ _)); exact BK330.out) hb); have n7_ := zC.mk (below_step (by repeat (first | (with_reducible first | exact HB.out | apply zJ | apply zF | apply zI | refine zE ?_ GE303.out | refine zE ?_ GE329.out | refine zE ?_ GE330.out) | exact HB.out)) hb); clear HO_0; clear HO319; clear HO322; clear BK303; clear BK329; clear BK330; clear HB; have HO_0 := n0_; have HO319 := n1_; have HO322 := n2_; have HO333 := n3_; have BK303 := n4_; have BK329 := n5_; have BK330 := n6_; have HB := n7_; clear n0_ n1_ n2_ n3_ n4_ n5_ n6_ n7_; (try clear hb); (try clear hb2); (try clear hk); (try clear hi); (try clear ho0); obtain ⟨Ao85, co85, eo85⟩ := Kd.R_slice HO333.out; subst eo85))
      go_ret
      exact ⟨by first | rfl | (simp [errW_none, errW_some] <;> rfl) | (simp only [← hji5]; first | rfl | (simp [errW_none, errW_some] <;> rfl)) | (simp [*, errW_none, errW_some] <;> rfl), by repeat (first | (with_reducible first | exact HB.out | apply zJ | apply zF | apply zI | refine zE ?_ GE303.out | refine zE ?_ GE329.out | refine zE ?_ GE330.out) | exact HB.out)⟩
    subst c26; have H1 : (stanzalaw15_BestRest.l1 k1 (t317.length : Int) t331 (t331.length : Int) 0 t317 t320 t323 t324 t325 t326 t327 t328) = some r := by rw [if_pos rfl] at H; exact H
    clear H; have H := H1; clear H1; have H' := zC.mk H
    clear H; try go_wp2
    have n0_ := zC.mk (Kd.R_drew HO_0.out); have n1_ := zC.mk (zD BK303.out); have n2_ := zC.mk (zI HB.out); clear HO_0; clear BK303; clear HB; have HO_0 := n0_; have BK303 := n1_; have HB := n2_; clear n0_ n1_ n2_; refine start_ (n := 8) (S := fun w' => w'.cell? ⟨gb303, 0, none⟩ = some (.int .u8 a1_0) ∧ w'.cell? ⟨gb303, 1, none⟩ = some (.int .u8 a1_1) ∧ w'.cell? ⟨gb303, 2, none⟩ = some (.int .u8 a1_2) ∧ w'.cell? ⟨gb303, 3, none⟩ = some (.int .u16 a1_3) ∧ w'.cell? ⟨gb303, 4, none⟩ = some (.int .u16 a1_4) ∧ w'.cell? ⟨gb303, 5, none⟩ = some (.float .f64 a1_5)) (ds := []) #[false, false, false, false, false, false, false, false] (by kernel_rfl) rfl rfl ⟨(zG BK303.out 0).trans rfl, (zG BK303.out 1).trans rfl, (zG BK303.out 2).trans rfl, (zG BK303.out 3).trans rfl, (zG BK303.out 4).trans rfl, (zG BK303.out 5).trans rfl⟩ (fun hHeld => ?_); refine with_tabW stanzalaw15_BestRest.tab10 stanzalaw15_BestRest.bits10 (fun HT_ HW_ => ?_)
    generalize wr.drew = w27 at HO_0 BK303 HB hHeld ⊢
    refine pure_ (i := 0) (N := some 40) (v := ?_) (a' := ?_) (tf_ 1 8) rfl rfl (any_of HT_.out (by kernel_rfl)) (fun _ _ _ h => h) (Or.inl ⟨by rfl, ?_⟩) ?_ ?_
    rotate_left
    · intro w'
      go_simp
      with_reducible rfl
    rotate_left
    · simp only [Act.put, sA_, sB_, sC_, i64_w, i32_w]
      rfl
    refine take_ (i := 2) (N := some 42) (v := ?_) (a' := ?_) #[true, false, true, false, false, false, false, false] rfl rfl (take_ofW HT_.out HW_.out (by kernel_rfl)) (fun _ _ _ h => h) (Or.inl ⟨by rfl, ?_⟩) hHeld ?_ ?_
    rotate_left
    · rintro w' ⟨s0, s1, s2, s3, s4, s5⟩
      go_simp
      with_reducible rfl
    rotate_left
    · simp only [Act.put, sA_, sB_, sC_, i64_w, i32_w]
      rfl
    refine join_ (σ := Value × Value × Nat × Nat) 2 #[true, true, true, true, true, true, false, false] (fun s_ => [(41, .agg #[s_.1, s_.2.1]), (43, .agg #[.int .i64 t323, .int .i64 t324, .int .u8 t325, .int .i64 t326, .int .i64 t327, .float .f64 t328]), (6, .pointer (some ⟨s_.2.2.1, 0, none⟩)), (7, .pointer (some ⟨s_.2.2.2, 0, none⟩))]) (fun s_ w' => (w'.cell? ⟨gb303, 0, none⟩ = some (.int .u8 a1_0) ∧ w'.cell? ⟨gb303, 1, none⟩ = some (.int .u8 a1_1) ∧ w'.cell? ⟨gb303, 2, none⟩ = some (.int .u8 a1_2) ∧ w'.cell? ⟨gb303, 3, none⟩ = some (.int .u16 a1_3) ∧ w'.cell? ⟨gb303, 4, none⟩ = some (.int .u16 a1_4) ∧ w'.cell? ⟨gb303, 5, none⟩ = some (.float .f64 a1_5)) ∧ (Kd.R k62 62 w' w.heap.size (fun _ => True) s_.1 t317) ∧ (Kd.R (Kd.int .u8) 46 w' w.heap.size (fun _ => True) s_.2.1 t320) ∧ (Kd.R k45 45 w' w.heap.size (fun _ => True) (.slice Ao15 x0_1.length co15) x0_1) ∧ (w'.heap[gb303]? = some (.cells #[.int .u8 a1_0, .int .u8 a1_1, .int .u8 a1_2, .int .u16 a1_3, .int .u16 a1_4, .float .f64 a1_5] 26 (0, 0))) ∧ (w'.heap[s_.2.2.1]? = some (.cells #[.slice none 0 0, .slice none 0 0] 31 (0, 0))) ∧ (w'.heap[s_.2.2.2]? = some (.cells #[.int .i64 0, .int .i64 0, .int .u8 0, .int .i64 0, .int .i64 0, .float .f64 0] 35 (0, 0))) ∧ (w.heap.size ≤ s_.2.2.1) ∧ (w.heap.size ≤ s_.2.2.1) ∧ (gb303 ≠ s_.2.2.1) ∧ (s_.2.2.1 ≠ gb303) ∧ (s_.2.2.2 ≠ s_.2.2.1) ∧ (s_.2.2.1 ≠ s_.2.2.2) ∧ (w.heap.size ≤ s_.2.2.2) ∧ (w.heap.size ≤ s_.2.2.2) ∧ (gb303 ≠ s_.2.2.2) ∧ (s_.2.2.2 ≠ gb303) ∧ (Below w.heap.size w w')) ?_ ?_
    rotate_left
    · intro hJ1_3_4_5
      refine par4_ (fuel := 2) (l' := #[true, true, true, true, true, true, false, false]) (i1 := 1) (i3 := 3) (i4 := 4) (i5 := 5) (σ := Value × Value) (cs4 := #[.slice none 0 0, .slice none 0 0]) (t4 := 31) (cs5 := #[.int .i64 0, .int .i64 0, .int .u8 0, .int .i64 0, .int .i64 0, .float .f64 0]) (t5 := 35) (fun s_ => .agg #[s_.1, s_.2]) (.agg #[.int .i64 t323, .int .i64 t324, .int .u8 t325, .int .i64 t326, .int .i64 t327, .float .f64 t328]) (par4_of HT_.out (by kernel_rfl)) rfl rfl rfl rfl rfl rfl rfl rfl rfl rfl (by decide) rfl (fun w_ => (w_.cell? ⟨gb303, 0, none⟩ = some (.int .u8 a1_0) ∧ w_.cell? ⟨gb303, 1, none⟩ = some (.int .u8 a1_1) ∧ w_.cell? ⟨gb303, 2, none⟩ = some (.int .u8 a1_2) ∧ w_.cell? ⟨gb303, 3, none⟩ = some (.int .u16 a1_3) ∧ w_.cell? ⟨gb303, 4, none⟩ = some (.int .u16 a1_4) ∧ w_.cell? ⟨gb303, 5, none⟩ = some (.float .f64 a1_5)) ∧ (Kd.R k45 45 w_ w.heap.size (fun _ => True) (.slice Ao15 x0_1.length co15) x0_1) ∧ (w_.heap[gb303]? = some (.cells #[.int .u8 a1_0, .int .u8 a1_1, .int .u8 a1_2, .int .u16 a1_3, .int .u16 a1_4, .float .f64 a1_5] 26 (0, 0))) ∧ (Below w.heap.size w w_)) ?pgrow (fun _ hP_ => hP_.1) (fun s_ w_ => (Kd.R k62 62 w_ w.heap.size (fun _ => True) s_.1 t317) ∧ (Kd.R (Kd.int .u8) 46 w_ w.heap.size (fun _ => True) s_.2 t320)) ?pF (fun g_ => (w.heap.size ≤ g_) ∧ (gb303 ≠ g_) ∧ (g_ ≠ gb303)) ?pNew ?pc1 ?pc3 ?pc4 ?pc5 ?pPhi ?pcont
      case pgrow =>
        intro w0_ w1_ hP_ hb_; obtain ⟨hS_, k0_, k1_, k2_⟩ := hP_; have HO_0 := zC.mk (by first | exact Kd.R_below k0_ hb_ | exact zK k0_ hb_ | exact below_step k0_ hb_); have BK303 := zC.mk (by first | exact Kd.R_below k1_ hb_ | exact zK k1_ hb_ | exact below_step k1_ hb_); have HB := zC.mk (by first | exact Kd.R_below k2_ hb_ | exact zK k2_ hb_ | exact below_step k2_ hb_)
        exact ⟨⟨(zG BK303.out 0).trans rfl, (zG BK303.out 1).trans rfl, (zG BK303.out 2).trans rfl, (zG BK303.out 3).trans rfl, (zG BK303.out 4).trans rfl, (zG BK303.out 5).trans rfl⟩, HO_0.out, BK303.out, HB.out⟩
      case pF => intro s_ w0_ w1_ hP_ hb_; obtain ⟨f0_, f1_⟩ := hP_; exact ⟨(by first | exact Kd.R_below f0_ hb_ | exact zK f0_ hb_ | exact below_step f0_ hb_), (by first | exact Kd.R_below f1_ hb_ | exact zK f1_ hb_ | exact below_step f1_ hb_)⟩
      case pNew => intro w0_ hP_; obtain ⟨hS_, k0_, k1_, k2_⟩ := hP_; (try have l0_ := blk_lt k0_); (try have m0_ := zL k0_); (try have l1_ := blk_lt k1_); (try have m1_ := zL k1_); (try have l2_ := blk_lt k2_); (try have m2_ := zL k2_); refine ⟨?_, ?_, ?_⟩ <;> omega
      case pc1 =>
        intro a_ W_ K_ hev_ hP_ h_; obtain ⟨hS_, k0_, k1_, k2_⟩ := hP_; have HO_0 := zC.mk k0_; have BK303 := zC.mk k1_; have HB := zC.mk k2_
        refine goes_ Try.func11 (by kernel_rfl) rfl #[.slice Ao15 x0_1.length co15] (by rfl) rfl rfl (by simp only [List.map_toArray, List.map_cons, List.map_nil]; first | rfl | (simp (disch := decide) only [hev_]; rfl) | (rw [hev_ _ (by decide) (by decide) (by decide) (by decide)]; rfl)) ?_
        with_reducible refine (stanzahand03_Para.calls k1 _ _ x0_1 t317 t320 _ ?side1 ?side2 A23.out).mono ?_
        (case side1 => repeat (first | exact (Kd.R_reads' HO_0.out).2.2 | (with_reducible refine Kd.C_alloc ?_ _) | (with_reducible refine Kd.C_drewN ?_ _) | (with_reducible refine Kd.C_drew ?_)))
        (case side2 => exact (Kd.R_reads' HO_0.out).2.1)
        rintro e w28 ⟨v318, v321, rfl, ho0, ho1, hb⟩
        refine ⟨_, rfl, ?_⟩
        exact h_ (v318, v321) _ hb ⟨(Kd.R_lower ho0 (zL (by repeat (first | (with_reducible first | exact HB.out | apply zJ | apply zF | apply zI | refine zE ?_ GE303.out) | exact HB.out)))), (Kd.R_lower ho1 (zL (by repeat (first | (with_reducible first | exact HB.out | apply zJ | apply zF | apply zI | refine zE ?_ GE303.out) | exact HB.out))))⟩
      case pc3 =>
        intro a_ W_ K_ hev_ hP_ h_; obtain ⟨hS_, k0_, k1_, k2_⟩ := hP_; have HO_0 := zC.mk k0_; have BK303 := zC.mk k1_; have HB := zC.mk k2_
        refine goes_ Try.func12 (by kernel_rfl) rfl #[.agg #[.int .u8 a1_0, .int .u8 a1_1, .int .u8 a1_2, .int .u16 a1_3, .int .u16 a1_4, .float .f64 a1_5]] (by rfl) rfl rfl (by simp only [List.map_toArray, List.map_cons, List.map_nil]; first | rfl | (simp (disch := decide) only [hev_]; rfl) | (rw [hev_ _ (by decide) (by decide) (by decide) (by decide)]; rfl)) ?_
        with_reducible refine (stanzahand03_Config.calls a1_0 a1_1 a1_2 a1_3 a1_4 a1_5 t323 t324 t325 t326 t327 t328 _ A24.out).mono ?_
        rintro e w30 ⟨rfl, hb⟩
        refine ⟨_, rfl, ?_⟩
        exact h_ _ hb
      case pc4 => intro a_ W_; first | (go_simp; done) | (go_simp; rfl)
      case pc5 => intro a_ W_; first | (go_simp; done) | (go_simp; rfl)
      case pPhi => exact ⟨hHeld, HO_0.out, BK303.out, HB.out⟩
      case pcont => intro s_ gb329 gb330 w32 hP_ hF_ y4_ y5_ x4_ x5_ he_; obtain ⟨hS_, k0_, k1_, k2_⟩ := hP_; obtain ⟨v318, v321⟩ := s_; obtain ⟨f0_, f1_⟩ := hF_; exact hJ1_3_4_5 (v318, v321, gb329, gb330) _ ⟨hS_, f0_, f1_, k0_, k1_, y4_, y5_, x4_.1, x4_.1, x4_.2.1, x4_.2.2, (Ne.symm he_), he_, x5_.1, x5_.1, x5_.2.1, x5_.2.2, k2_⟩
    rintro ⟨v318, v321, gb329, gb330⟩ w32 ⟨hS_, h0_, h1_, h2_, h3_, h4_, h5_, h6_, h7_, h8_, h9_, h10_, h11_, h12_, h13_, h14_, h15_, h16_⟩
    have n0_ : zC (Kd.R k62 62 w32 w.heap.size (fun _ => True) v318 t317) := ⟨h0_⟩
    have n1_ : zC (Kd.R (Kd.int .u8) 46 w32 w.heap.size (fun _ => True) v321 t320) := ⟨h1_⟩
    have n2_ : zC (Kd.R k45 45 w32 w.heap.size (fun _ => True) (.slice Ao15 x0_1.length co15) x0_1) := ⟨h2_⟩
    have n3_ : zC (w32.heap[gb303]? = some (.cells #[.int .u8 a1_0, .int .u8 a1_1, .int .u8 a1_2, .int .u16 a1_3, .int .u16 a1_4, .float .f64 a1_5] 26 (0, 0))) := ⟨h3_⟩
    have n4_ : zC (w32.heap[gb329]? = some (.cells #[.slice none 0 0, .slice none 0 0] 31 (0, 0))) := ⟨h4_⟩
    have n5_ : zC (w32.heap[gb330]? = some (.cells #[.int .i64 0, .int .i64 0, .int .u8 0, .int .i64 0, .int .i64 0, .float .f64 0] 35 (0, 0))) := ⟨h5_⟩
    have n6_ : zC (w.heap.size ≤ gb329) := ⟨h6_⟩
    have n7_ : zC (w.heap.size ≤ gb329) := ⟨h7_⟩
    have n8_ : zC (gb303 ≠ gb329) := ⟨h8_⟩
    have n9_ : zC (gb329 ≠ gb303) := ⟨h9_⟩
    have n10_ : zC (gb330 ≠ gb329) := ⟨h10_⟩
    have n11_ : zC (gb329 ≠ gb330) := ⟨h11_⟩
    have n12_ : zC (w.heap.size ≤ gb330) := ⟨h12_⟩
    have n13_ : zC (w.heap.size ≤ gb330) := ⟨h13_⟩
    have n14_ : zC (gb303 ≠ gb330) := ⟨h14_⟩
    have n15_ : zC (gb330 ≠ gb303) := ⟨h15_⟩
    have n16_ : zC (Below w.heap.size w w32) := ⟨h16_⟩
    clear HO_0 BK303 HB h0_ h1_ h2_ h3_ h4_ h5_ h6_ h7_ h8_ h9_ h10_ h11_ h12_ h13_ h14_ h15_ h16_; have HO319 := n0_; have HO322 := n1_; have HO_0 := n2_; have BK303 := n3_; have BK329 := n4_; have BK330 := n5_; have GW329 := n6_; have GE329 := n7_; have NB303_329 := n8_; have NB329_303 := n9_; have NB330_329 := n10_; have NB329_330 := n11_; have GW330 := n12_; have GE330 := n13_; have NB303_330 := n14_; have NB330_303 := n15_; have HB := n16_; clear n0_ n1_ n2_ n3_ n4_ n5_ n6_ n7_ n8_ n9_ n10_ n11_ n12_ n13_ n14_ n15_ n16_; have hHeld : w32.cell? ⟨gb303, 0, none⟩ = some (.int .u8 a1_0) ∧ w32.cell? ⟨gb303, 1, none⟩ = some (.int .u8 a1_1) ∧ w32.cell? ⟨gb303, 2, none⟩ = some (.int .u8 a1_2) ∧ w32.cell? ⟨gb303, 3, none⟩ = some (.int .u16 a1_3) ∧ w32.cell? ⟨gb303, 4, none⟩ = some (.int .u16 a1_4) ∧ w32.cell? ⟨gb303, 5, none⟩ = some (.float .f64 a1_5) := hS_
    obtain ⟨Ao33, co33, eo33⟩ := Kd.R_slice HO319.out; (first | subst eo33 | (injection eo33 with f1_ f2_ f3_; have f4_ := f1_.symm; have f5_ := f3_.symm; clear f1_ f2_ f3_; subst f4_; subst f5_))
    obtain ⟨Ao35, co35, eo35⟩ := Kd.R_slice HO322.out; (first | subst eo35 | (injection eo35 with f1_ f2_ f3_; have f4_ := f1_.symm; have f5_ := f3_.symm; clear f1_ f2_ f3_; subst f4_; subst f5_))
    refine norm_ (a' := ?_) ?_ ?_
    rotate_left
    · simp only [putAll, Act.put, sA_, sB_, sC_]
      rfl
    refine one_ (i := 6) (N := none) #[true, true, true, true, true, true, true, false] rfl rfl (one_of HT_.out (by kernel_rfl)) (by decide) (fun K hK => ?_)
    have hs34 : w32.cell? ⟨gb329, 0, none⟩ = some (.slice none 0 0) := (zG BK329.out 0).trans rfl
    have hfs34 := zH BK329.out 0; have hns34_0 := NB303_329.out; have hns34_2 := NB330_329.out; have hms34_0 := NB329_303.out; have hms34_2 := NB329_330.out; have hs36 : w32.cell? ⟨gb329, 1, none⟩ = some (.slice none 0 0) := (zG BK329.out 1).trans rfl
    have hfs36 := zH BK329.out 1; have hns36_0 := NB303_329.out; have hns36_2 := NB330_329.out; have hms36_0 := NB329_303.out; have hms36_2 := NB329_330.out; refine skip_ (w1 := ?_) (by rfl) rfl ?_ ?_
    rotate_left
    · go_simp
      rfl
    refine hK.out _ _ ⟨((cell_far (p := ⟨gb329, _, none⟩) NB303_329.out _).trans (((cell_far (p := ⟨gb329, _, none⟩) NB303_329.out _).trans (hHeld.1)))), ((cell_far (p := ⟨gb329, _, none⟩) NB303_329.out _).trans (((cell_far (p := ⟨gb329, _, none⟩) NB303_329.out _).trans (hHeld.2.1)))), ((cell_far (p := ⟨gb329, _, none⟩) NB303_329.out _).trans (((cell_far (p := ⟨gb329, _, none⟩) NB303_329.out _).trans (hHeld.2.2.1)))), ((cell_far (p := ⟨gb329, _, none⟩) NB303_329.out _).trans (((cell_far (p := ⟨gb329, _, none⟩) NB303_329.out _).trans (hHeld.2.2.2.1)))), ((cell_far (p := ⟨gb329, _, none⟩) NB303_329.out _).trans (((cell_far (p := ⟨gb329, _, none⟩) NB303_329.out _).trans (hHeld.2.2.2.2.1)))), ((cell_far (p := ⟨gb329, _, none⟩) NB303_329.out _).trans (((cell_far (p := ⟨gb329, _, none⟩) NB303_329.out _).trans (hHeld.2.2.2.2.2))))⟩ (fun hHeld => ?_)
    clear hK K; refine one_ (i := 7) (N := none) #[true, true, true, true, true, true, true, true] rfl rfl (one_of HT_.out (by kernel_rfl)) (by decide) (fun K hK => ?_)
    have hs37 : w32.cell? ⟨gb330, 0, none⟩ = some (.int .i64 0) := (zG BK330.out 0).trans rfl
    have hfs37 := zH BK330.out 0; have hns37_0 := NB303_330.out; have hns37_1 := NB329_330.out; have hms37_0 := NB330_303.out; have hms37_1 := NB330_329.out; have hs38 : w32.cell? ⟨gb330, 1, none⟩ = some (.int .i64 0) := (zG BK330.out 1).trans rfl
    have hfs38 := zH BK330.out 1; have hns38_0 := NB303_330.out; have hns38_1 := NB329_330.out; have hms38_0 := NB330_303.out; have hms38_1 := NB330_329.out; have hs39 : w32.cell? ⟨gb330, 2, none⟩ = some (.int .u8 0) := (zG BK330.out 2).trans rfl
    have hfs39 := zH BK330.out 2; have hns39_0 := NB303_330.out; have hns39_1 := NB329_330.out; have hms39_0 := NB330_303.out; have hms39_1 := NB330_329.out; have hs40 : w32.cell? ⟨gb330, 3, none⟩ = some (.int .i64 0) := (zG BK330.out 3).trans rfl
    have hfs40 := zH BK330.out 3; have hns40_0 := NB303_330.out; have hns40_1 := NB329_330.out; have hms40_0 := NB330_303.out; have hms40_1 := NB330_329.out; have hs41 : w32.cell? ⟨gb330, 4, none⟩ = some (.int .i64 0) := (zG BK330.out 4).trans rfl
    have hfs41 := zH BK330.out 4; have hns41_0 := NB303_330.out; have hns41_1 := NB329_330.out; have hms41_0 := NB330_303.out; have hms41_1 := NB330_329.out; have hs42 : w32.cell? ⟨gb330, 5, none⟩ = some (.float .f64 0) := (zG BK330.out 5).trans rfl
    have hfs42 := zH BK330.out 5; have hns42_0 := NB303_330.out; have hns42_1 := NB329_330.out; have hms42_0 := NB330_303.out; have hms42_1 := NB330_329.out; refine skip_ (w1 := ?_) (by rfl) rfl ?_ ?_
    rotate_left
    · go_simp
      rfl
    refine hK.out _ _ ⟨((cell_far (p := ⟨gb330, _, none⟩) NB303_330.out _).trans (((cell_far (p := ⟨gb330, _, none⟩) NB303_330.out _).trans (((cell_far (p := ⟨gb330, _, none⟩) NB303_330.out _).trans (((cell_far (p := ⟨gb330, _, none⟩) NB303_330.out _).trans (((cell_far (p := ⟨gb330, _, none⟩) NB303_330.out _).trans (((cell_far (p := ⟨gb330, _, none⟩) NB303_330.out _).trans (hHeld.1)))))))))))), ((cell_far (p := ⟨gb330, _, none⟩) NB303_330.out _).trans (((cell_far (p := ⟨gb330, _, none⟩) NB303_330.out _).trans (((cell_far (p := ⟨gb330, _, none⟩) NB303_330.out _).trans (((cell_far (p := ⟨gb330, _, none⟩) NB303_330.out _).trans (((cell_far (p := ⟨gb330, _, none⟩) NB303_330.out _).trans (((cell_far (p := ⟨gb330, _, none⟩) NB303_330.out _).trans (hHeld.2.1)))))))))))), ((cell_far (p := ⟨gb330, _, none⟩) NB303_330.out _).trans (((cell_far (p := ⟨gb330, _, none⟩) NB303_330.out _).trans (((cell_far (p := ⟨gb330, _, none⟩) NB303_330.out _).trans (((cell_far (p := ⟨gb330, _, none⟩) NB303_330.out _).trans (((cell_far (p := ⟨gb330, _, none⟩) NB303_330.out _).trans (((cell_far (p := ⟨gb330, _, none⟩) NB303_330.out _).trans (hHeld.2.2.1)))))))))))), ((cell_far (p := ⟨gb330, _, none⟩) NB303_330.out _).trans (((cell_far (p := ⟨gb330, _, none⟩) NB303_330.out _).trans (((cell_far (p := ⟨gb330, _, none⟩) NB303_330.out _).trans (((cell_far (p := ⟨gb330, _, none⟩) NB303_330.out _).trans (((cell_far (p := ⟨gb330, _, none⟩) NB303_330.out _).trans (((cell_far (p := ⟨gb330, _, none⟩) NB303_330.out _).trans (hHeld.2.2.2.1)))))))))))), ((cell_far (p := ⟨gb330, _, none⟩) NB303_330.out _).trans (((cell_far (p := ⟨gb330, _, none⟩) NB303_330.out _).trans (((cell_far (p := ⟨gb330, _, none⟩) NB303_330.out _).trans (((cell_far (p := ⟨gb330, _, none⟩) NB303_330.out _).trans (((cell_far (p := ⟨gb330, _, none⟩) NB303_330.out _).trans (((cell_far (p := ⟨gb330, _, none⟩) NB303_330.out _).trans (hHeld.2.2.2.2.1)))))))))))), ((cell_far (p := ⟨gb330, _, none⟩) NB303_330.out _).trans (((cell_far (p := ⟨gb330, _, none⟩) NB303_330.out _).trans (((cell_far (p := ⟨gb330, _, none⟩) NB303_330.out _).trans (((cell_far (p := ⟨gb330, _, none⟩) NB303_330.out _).trans (((cell_far (p := ⟨gb330, _, none⟩) NB303_330.out _).trans (((cell_far (p := ⟨gb330, _, none⟩) NB303_330.out _).trans (hHeld.2.2.2.2.2))))))))))))⟩ (fun hHeld => ?_)
    clear hK K; refine done_ (done_of HT_.out (by kernel_rfl)) ?_
    have hnb43 := NB329_303.out; have hnc43 := NB303_329.out; have hnb44 := NB329_330.out; have hnc44 := NB330_329.out; have hcz45_0 : w32.cell? ⟨gb329, 0, none⟩ = some (.slice none 0 0) := (zG BK329.out 0).trans rfl
    have hcz45_1 : w32.cell? ⟨gb329, 1, none⟩ = some (.slice none 0 0) := (zG BK329.out 1).trans rfl
    have hfz45_0 := zH BK329.out 0; have hfz45_1 := zH BK329.out 1; have hnb46 := NB330_303.out; have hnc46 := NB303_330.out; have hcz47_0 : w32.cell? ⟨gb330, 0, none⟩ = some (.int .i64 0) := (zG BK330.out 0).trans rfl
    have hcz47_1 : w32.cell? ⟨gb330, 1, none⟩ = some (.int .i64 0) := (zG BK330.out 1).trans rfl
    have hcz47_2 : w32.cell? ⟨gb330, 2, none⟩ = some (.int .u8 0) := (zG BK330.out 2).trans rfl
    have hcz47_3 : w32.cell? ⟨gb330, 3, none⟩ = some (.int .i64 0) := (zG BK330.out 3).trans rfl
    have hcz47_4 : w32.cell? ⟨gb330, 4, none⟩ = some (.int .i64 0) := (zG BK330.out 4).trans rfl
    have hcz47_5 : w32.cell? ⟨gb330, 5, none⟩ = some (.float .f64 0) := (zG BK330.out 5).trans rfl
    have hfz47_0 := zH BK330.out 0; have hfz47_1 := zH BK330.out 1; have hfz47_2 := zH BK330.out 2; have hfz47_3 := zH BK330.out 3; have hfz47_4 := zH BK330.out 4; have hfz47_5 := zH BK330.out 5; try go_wp2_with (first | ((with_reducible refine gate_callee (f := 14) rfl ?_); refine goesL_ (some 51) rfl rfl Try.func14 (by kernel_rfl) rfl #[.agg #[.slice Ao33 t317.length co33, .slice Ao35 t320.length co35], .int .i64 0, .int .i64 (t317.length : Int), .agg #[.int .i64 t323, .int .i64 t324, .int .u8 t325, .int .i64 t326, .int .i64 t327, .float .f64 t328]] rfl (by (try simp only [List.map_toArray, List.map_cons, List.map_nil]); first | done | rfl | (simp only [List.length_drop, List.length_take]; rfl)) ?_; (with_reducible refine (best_Break.calls k1 _ _ t317 _ _ t320 0 (t317.length : Int) t323 t324 t325 t326 t327 t328 t331 true _ ?side1 ?side2 ?side3 ?side4 A25.out).mono ?_); (case side1 => refine (Kd.R_reads' (e := 62) (base := w.heap.size) (ok := fun k_ => True) (n := t317.length) (c := co33) ?_).2.2; exact (by (with_reducible repeat (first | apply Kd.R_alloc | apply Kd.R_drewN | apply Kd.R_drew)); exact (Kd.R_mono (Kd.R_mono (Kd.R_far (p := ⟨gb330, 5, none⟩) (Kd.R_far (p := ⟨gb330, 4, none⟩) (Kd.R_far (p := ⟨gb330, 3, none⟩) (Kd.R_far (p := ⟨gb330, 2, none⟩) (Kd.R_far (p := ⟨gb330, 1, none⟩) (Kd.R_far (p := ⟨gb330, 0, none⟩) (Kd.R_far (p := ⟨gb329, 1, none⟩) (Kd.R_far (p := ⟨gb329, 0, none⟩) (Kd.R_types (Kd.R_types HO319.out BK329.out (by decide)) BK330.out (by decide)) (fun _ hk => hk.1.2) (.slice Ao33 t317.length co33)) (fun _ hk => hk.1.2) (.slice Ao35 t320.length co35)) (fun _ hk => hk.2) (.int .i64 t323)) (fun _ hk => hk.2) (.int .i64 t324)) (fun _ hk => hk.2) (.int .u8 t325)) (fun _ hk => hk.2) (.int .i64 t326)) (fun _ hk => hk.2) (.int .i64 t327)) (fun _ hk => hk.2) (.float .f64 t328)) (fun _ h_ => h_.1)) (fun _ h_ => h_.1)))); (case side2 => exact (Kd.R_reads' HO319.out).2.1); (case side3 => refine (Kd.R_reads' (e := 46) (base := w.heap.size) (ok := fun k_ => True) (n := t320.length) (c := co35) ?_).2.2; exact (by (with_reducible repeat (first | apply Kd.R_alloc | apply Kd.R_drewN | apply Kd.R_drew)); exact (Kd.R_mono (Kd.R_mono (Kd.R_far (p := ⟨gb330, 5, none⟩) (Kd.R_far (p := ⟨gb330, 4, none⟩) (Kd.R_far (p := ⟨gb330, 3, none⟩) (Kd.R_far (p := ⟨gb330, 2, none⟩) (Kd.R_far (p := ⟨gb330, 1, none⟩) (Kd.R_far (p := ⟨gb330, 0, none⟩) (Kd.R_far (p := ⟨gb329, 1, none⟩) (Kd.R_far (p := ⟨gb329, 0, none⟩) (Kd.R_types (Kd.R_types HO322.out BK329.out (by decide)) BK330.out (by decide)) (fun _ hk => hk.1.2) (.slice Ao33 t317.length co33)) (fun _ hk => hk.1.2) (.slice Ao35 t320.length co35)) (fun _ hk => hk.2) (.int .i64 t323)) (fun _ hk => hk.2) (.int .i64 t324)) (fun _ hk => hk.2) (.int .u8 t325)) (fun _ hk => hk.2) (.int .i64 t326)) (fun _ hk => hk.2) (.int .i64 t327)) (fun _ hk => hk.2) (.float .f64 t328)) (fun _ h_ => h_.1)) (fun _ h_ => h_.1)))); (case side4 => exact (Kd.R_reads' HO322.out).2.1); rintro e w48 ⟨v332, rfl, ho0, hb⟩; refine ⟨_, rfl, ?_⟩; have n0_ := zC.mk (Kd.R_below (by (with_reducible repeat (first | apply Kd.R_alloc | apply Kd.R_drewN | apply Kd.R_drew)); exact (Kd.R_mono (Kd.R_mono (Kd.R_far (p := ⟨gb330, 5, none⟩) (Kd.R_far (p := ⟨gb330, 4, none⟩) (Kd.R_far (p := ⟨gb330, 3, none⟩) (Kd.R_far (p := ⟨gb330, 2, none⟩) (Kd.R_far (p := ⟨gb330, 1, none⟩) (Kd.R_far (p := ⟨gb330, 0, none⟩) (Kd.R_far (p := ⟨gb329, 1, none⟩) (Kd.R_far (p := ⟨gb329, 0, none⟩) (Kd.R_types (Kd.R_types HO_0.out BK329.out (by decide)) BK330.out (by decide)) (fun _ hk => hk.1.2) (.slice Ao33 t317.length co33)) (fun _ hk => hk.1.2) (.slice Ao35 t320.length co35)) (fun _ hk => hk.2) (.int .i64 t323)) (fun _ hk => hk.2) (.int .i64 t324)) (fun _ hk => hk.2) (.int .u8 t325)) (fun _ hk => hk.2) (.int .i64 t326)) (fun _ hk => hk.2) (.int .i64 t327)) (fun _ hk => hk.2) (.float .f64 t328)) (fun _ h_ => h_.1)) (fun _ h_ => h_.1))) hb); have n1_ := zC.mk (Kd.R_below (by (with_reducible repeat (first | apply Kd.R_alloc | apply Kd.R_drewN | apply Kd.R_drew)); exact (Kd.R_mono (Kd.R_mono (Kd.R_far (p := ⟨gb330, 5, none⟩) (Kd.R_far (p := ⟨gb330, 4, none⟩) (Kd.R_far (p := ⟨gb330, 3, none⟩) (Kd.R_far (p := ⟨gb330, 2, none⟩) (Kd.R_far (p := ⟨gb330, 1, none⟩) (Kd.R_far (p := ⟨gb330, 0, none⟩) (Kd.R_far (p := ⟨gb329, 1, none⟩) (Kd.R_far (p := ⟨gb329, 0, none⟩) (Kd.R_types (Kd.R_types HO319.out BK329.out (by decide)) BK330.out (by decide)) (fun _ hk => hk.1.2) (.slice Ao33 t317.length co33)) (fun _ hk => hk.1.2) (.slice Ao35 t320.length co35)) (fun _ hk => hk.2) (.int .i64 t323)) (fun _ hk => hk.2) (.int .i64 t324)) (fun _ hk => hk.2) (.int .u8 t325)) (fun _ hk => hk.2) (.int .i64 t326)) (fun _ hk => hk.2) (.int .i64 t327)) (fun _ hk => hk.2) (.float .f64 t328)) (fun _ h_ => h_.1)) (fun _ h_ => h_.1))) hb); have n2_ := zC.mk (Kd.R_below (by (with_reducible repeat (first | apply Kd.R_alloc | apply Kd.R_drewN | apply Kd.R_drew)); exact (Kd.R_mono (Kd.R_mono (Kd.R_far (p := ⟨gb330, 5, none⟩) (Kd.R_far (p := ⟨gb330, 4, none⟩) (Kd.R_far (p := ⟨gb330, 3, none⟩) (Kd.R_far (p := ⟨gb330, 2, none⟩) (Kd.R_far (p := ⟨gb330, 1, none⟩) (Kd.R_far (p := ⟨gb330, 0, none⟩) (Kd.R_far (p := ⟨gb329, 1, none⟩) (Kd.R_far (p := ⟨gb329, 0, none⟩) (Kd.R_types (Kd.R_types HO322.out BK329.out (by decide)) BK330.out (by decide)) (fun _ hk => hk.1.2) (.slice Ao33 t317.length co33)) (fun _ hk => hk.1.2) (.slice Ao35 t320.length co35)) (fun _ hk => hk.2) (.int .i64 t323)) (fun _ hk => hk.2) (.int .i64 t324)) (fun _ hk => hk.2) (.int .u8 t325)) (fun _ hk => hk.2) (.int .i64 t326)) (fun _ hk => hk.2) (.int .i64 t327)) (fun _ hk => hk.2) (.float .f64 t328)) (fun _ h_ => h_.1)) (fun _ h_ => h_.1))) hb); have n3_ := zC.mk (Kd.R_lower ho0 (zL (by repeat (first | (with_reducible first | exact HB.out | apply zJ | apply zF | apply zI | refine zE ?_ GE303.out | refine zE ?_ GE329.out | refine zE ?_ GE330.out) | exact HB.out)))); have n4_ := zC.mk (zK (g := gb303) (o := .cells #[.int .u8 a1_0, .int .u8 a1_1, .int .u8 a1_2, .int .u16 a1_3, .int .u16 a1_4, .float .f64 a1_5] 26 (0, 0)) (by (with_reducible repeat (first | refine zB ?_ _ | refine zD ?_ | refine zA ?_ _)); refine blk_far ?_ NB303_330.out _; (with_reducible repeat (first | refine zB ?_ _ | refine zD ?_ | refine zA ?_ _)); refine blk_far ?_ NB303_330.out _; (with_reducible repeat (first | refine zB ?_ _ | refine zD ?_ | refine zA ?_ _)); refine blk_far ?_ NB303_330.out _; (with_reducible repeat (first | refine zB ?_ _ | refine zD ?_ | refine zA ?_ _)); refine blk_far ?_ NB303_330.out _; (with_reducible repeat (first | refine zB ?_ _ | refine zD ?_ | refine zA ?_ _)); refine blk_far ?_ NB303_330.out _; (with_reducible repeat (first | refine zB ?_ _ | refine zD ?_ | refine zA ?_ _)); refine blk_far ?_ NB303_330.out _; (with_reducible repeat (first | refine zB ?_ _ | refine zD ?_ | refine zA ?_ _)); refine blk_far ?_ NB303_329.out _; (with_reducible repeat (first | refine zB ?_ _ | refine zD ?_ | refine zA ?_ _)); refine blk_far ?_ NB303_329.out _; (with_reducible repeat (first | refine zB ?_ _ | refine zD ?_ | refine zA ?_ _)); exact BK303.out) hb); have n5_ := zC.mk (zK (g := gb329) (o := .cells #[.slice Ao33 t317.length co33, .slice Ao35 t320.length co35] 31 (0, 0)) (by (with_reducible repeat (first | refine zB ?_ _ | refine zD ?_ | refine zA ?_ _)); refine blk_far ?_ NB329_330.out _; (with_reducible repeat (first | refine zB ?_ _ | refine zD ?_ | refine zA ?_ _)); refine blk_far ?_ NB329_330.out _; (with_reducible repeat (first | refine zB ?_ _ | refine zD ?_ | refine zA ?_ _)); refine blk_far ?_ NB329_330.out _; (with_reducible repeat (first | refine zB ?_ _ | refine zD ?_ | refine zA ?_ _)); refine blk_far ?_ NB329_330.out _; (with_reducible repeat (first | refine zB ?_ _ | refine zD ?_ | refine zA ?_ _)); refine blk_far ?_ NB329_330.out _; (with_reducible repeat (first | refine zB ?_ _ | refine zD ?_ | refine zA ?_ _)); refine blk_far ?_ NB329_330.out _; (with_reducible repeat (first | refine zB ?_ _ | refine zD ?_ | refine zA ?_ _)); refine blk_put (cs := #[.slice Ao33 t317.length co33, .slice none 0 0]) ?_ 1 _ rfl; (with_reducible repeat (first | refine zB ?_ _ | refine zD ?_ | refine zA ?_ _)); refine blk_put (cs := #[.slice none 0 0, .slice none 0 0]) ?_ 0 _ rfl; (with_reducible repeat (first | refine zB ?_ _ | refine zD ?_ | refine zA ?_ _)); exact BK329.out) hb); have n6_ := zC.mk (zK (g := gb330) (o := .cells #[.int .i64 t323, .int .i64 t324, .int .u8 t325, .int .i64 t326, .int .i64 t327, .float .f64 t328] 35 (0, 0)) (by (with_reducible repeat (first | refine zB ?_ _ | refine zD ?_ | refine zA ?_ _)); refine blk_put (cs := #[.int .i64 t323, .int .i64 t324, .int .u8 t325, .int .i64 t326, .int .i64 t327, .float .f64 0]) ?_ 5 _ rfl; (with_reducible repeat (first | refine zB ?_ _ | refine zD ?_ | refine zA ?_ _)); refine blk_put (cs := #[.int .i64 t323, .int .i64 t324, .int .u8 t325, .int .i64 t326, .int .i64 0, .float .f64 0]) ?_ 4 _ rfl; (with_reducible repeat (first | refine zB ?_ _ | refine zD ?_ | refine zA ?_ _)); refine blk_put (cs := #[.int .i64 t323, .int .i64 t324, .int .u8 t325, .int .i64 0, .int .i64 0, .float .f64 0]) ?_ 3 _ rfl; (with_reducible repeat (first | refine zB ?_ _ | refine zD ?_ | refine zA ?_ _)); refine blk_put (cs := #[.int .i64 t323, .int .i64 t324, .int .u8 0, .int .i64 0, .int .i64 0, .float .f64 0]) ?_ 2 _ rfl; (with_reducible repeat (first | refine zB ?_ _ | refine zD ?_ | refine zA ?_ _)); refine blk_put (cs := #[.int .i64 t323, .int .i64 0, .int .u8 0, .int .i64 0, .int .i64 0, .float .f64 0]) ?_ 1 _ rfl; (with_reducible repeat (first | refine zB ?_ _ | refine zD ?_ | refine zA ?_ _)); refine blk_put (cs := #[.int .i64 0, .int .i64 0, .int .u8 0, .int .i64 0, .int .i64 0, .float .f64 0]) ?_ 0 _ rfl; (with_reducible repeat (first | refine zB ?_ _ | refine zD ?_ | refine zA ?_ _)); refine blk_far ?_ NB330_329.out _; (with_reducible repeat (first | refine zB ?_ _ | refine zD ?_ | refine zA ?_ _)); refine blk_far ?_ NB330_329.out _; (with_reducible repeat (first | refine zB ?_ _ | refine zD ?_ | refine zA ?_ _)); exact BK330.out) hb); have n7_ := zC.mk (below_step (by repeat (first | (with_reducible first | exact HB.out | apply zJ | apply zF | apply zI | refine zE ?_ GE303.out | refine zE ?_ GE329.out | refine zE ?_ GE330.out) | exact HB.out)) hb); clear HO_0; clear HO319; clear HO322; clear BK303; clear BK329; clear BK330; clear HB; have HO_0 := n0_; have HO319 := n1_; have HO322 := n2_; have HO333 := n3_; have BK303 := n4_; have BK329 := n5_; have BK330 := n6_; have HB := n7_; clear n0_ n1_ n2_ n3_ n4_ n5_ n6_ n7_; (try clear hb); (try clear hb2); (try clear hk); (try clear hi); (try clear ho0); obtain ⟨Ao49, co49, eo49⟩ := Kd.R_slice HO333.out; subst eo49))
    go_loopg [61] k1 (fun kq v61 w' => ∃ (x61_2 : Int), v61 = .int .i64 x61_2 ∧ zC (stanzalaw15_BestRest.l1 kq (t317.length : Int) t331 (t331.length : Int) x61_2 t317 t320 t323 t324 t325 t326 t327 t328 = some r) ∧ zC (kq ≤ k1) ∧ zC (Kd.R k48 48 w' w.heap.size (fun _ => True) (.slice Ao49 t331.length co49) t331) ∧ zC (Kd.R k62 62 w' w.heap.size (fun _ => True) (.slice Ao33 t317.length co33) t317) ∧ zC (Kd.R (Kd.int .u8) 46 w' w.heap.size (fun _ => True) (.slice Ao35 t320.length co35) t320) ∧ zC (w'.heap[gb303]? = some (.cells #[.int .u8 a1_0, .int .u8 a1_1, .int .u8 a1_2, .int .u16 a1_3, .int .u16 a1_4, .float .f64 a1_5] 26 (0, 0))) ∧ zC (w'.heap[gb329]? = some (.cells #[(.slice Ao33 t317.length co33), (.slice Ao35 t320.length co35)] 31 (0, 0))) ∧ zC (w'.heap[gb330]? = some (.cells #[.int .i64 t323, .int .i64 t324, .int .u8 t325, .int .i64 t326, .int .i64 t327, .float .f64 t328] 35 (0, 0))) ∧ zC (Below w.heap.size w w'))
    case atStart => exact ⟨(0), (by first | rfl | (simp; done) | (simp [*]; done)), H', ⟨Nat.le_refl _⟩, ⟨by (try simp only [hl0_1]); (with_reducible repeat (first | apply Kd.R_alloc | apply Kd.R_drewN | apply Kd.R_drew)); exact HO333.out⟩, ⟨by (try simp only [hl0_1]); (with_reducible repeat (first | apply Kd.R_alloc | apply Kd.R_drewN | apply Kd.R_drew)); exact HO319.out⟩, ⟨by (try simp only [hl0_1]); (with_reducible repeat (first | apply Kd.R_alloc | apply Kd.R_drewN | apply Kd.R_drew)); exact HO322.out⟩, ⟨by (try simp only [hl0_1]); (with_reducible repeat (first | refine zB ?_ _ | refine zD ?_ | refine zA ?_ _)); exact BK303.out⟩, ⟨by (try simp only [hl0_1]); (with_reducible repeat (first | refine zB ?_ _ | refine zD ?_ | refine zA ?_ _)); exact BK329.out⟩, ⟨by (try simp only [hl0_1]); (with_reducible repeat (first | refine zB ?_ _ | refine zD ?_ | refine zA ?_ _)); exact BK330.out⟩, ⟨by repeat (first | (with_reducible first | exact HB.out | apply zJ | apply zF | apply zI | refine zE ?_ GE303.out | refine zE ?_ GE329.out | refine zE ?_ GE330.out) | exact HB.out)⟩⟩
    clear H'; try clear c1
    try clear p2
    try clear c4
    try clear c12
    try clear c14
    try clear c43
    try clear c44
    try clear c46
    try clear hcz45_0
    try clear hcz45_1
    try clear hcz47_0
    try clear hcz47_1
    try clear hcz47_2
    try clear hcz47_3
    try clear hcz47_4
    try clear hcz47_5
    try clear hfz45_0
    try clear hfz45_1
    try clear hfz47_0
    try clear hfz47_1
    try clear hfz47_2
    try clear hfz47_3
    try clear hfz47_4
    try clear hfz47_5
    obtain ⟨x61_2, rfl, HA, HK2, HO_9, HO_330000, HO_330001, BK303, BK329, BK330, HB⟩ := hrel; cases gk with
    | zero => exact absurd HA.out (by simp [stanzalaw15_BestRest.l1])
    | succ k2 =>
      have H := HA.out; clear HA; simp only [stanzalaw15_BestRest.l1] at H; by_cases c50 : x61_2 < (t331.length : Int)
      rotate_left
      · rw [if_neg c50] at H
        have c50b0 : decide (x61_2 < (t331.length : Int)) = false := decide_eq_false c50
        (try simp only [hl0_1] at c50b0)
        clear c50; obtain rfl := Option.some.inj H
        go_wp2
        go_ret
        exact ⟨by first | rfl | (simp [errW_none, errW_some] <;> rfl) | (simp only [← hji5]; first | rfl | (simp [errW_none, errW_some] <;> rfl)) | (simp [*, errW_none, errW_some] <;> rfl), by repeat (first | (with_reducible first | exact HB.out | apply zJ | apply zF | apply zI | refine zE ?_ GE303.out | refine zE ?_ GE329.out | refine zE ?_ GE330.out) | exact HB.out)⟩
      rw [if_pos c50] at H; have c50b0 : decide (x61_2 < (t331.length : Int)) = true := decide_eq_true c50
      (try simp only [hl0_1] at c50b0)
      clear c50; by_cases c51 : 0 ≤ x61_2
      rotate_left
      · rw [if_neg c51] at H
        exact absurd H (by simp)
      rw [if_pos c51] at H; have c51b0 : decide (0 ≤ x61_2) = true := decide_eq_true c51
      clear c51; by_cases c52 : x61_2 < (t331.length : Int)
      rotate_left
      · rw [if_neg c52] at H
        exact absurd H (by simp)
      rw [if_pos c52] at H; have c52b0 : decide (x61_2 < (t331.length : Int)) = true := decide_eq_true c52
      (try simp only [hl0_1] at c52b0)
      clear c52; replace H := Option.bind_eq_some_iff.mp H; obtain ⟨⟨t336, t339⟩, A530, H⟩ := H; replace H : (if t339 = true then (if x61_2 ≤ (t331.length : Int) then ((stanzaref13_SameLines.f k2 t336 (t331.drop (x61_2 : Int).toNat)).bind fun t344 => (if t344 = true then (stanzalaw15_BestRest.l1 k2 (t317.length : Int) t331 (t331.length : Int) (wrap64 (x61_2 + 1)) t317 t320 t323 t324 t325 t326 t327 t328) else (some false))) else (none)) else (some false)) = some r := H
      have A53 := zC.mk A530; clear A530; by_cases c54 : t339 = true
      rotate_left
      · replace c54 := Bool.eq_false_iff.mpr c54
        subst c54; have H1 : (some false) = some r := by rw [if_neg (show ¬ (false = true) by decide)] at H; exact H
        clear H; have H := H1; clear H1; exact absurd ((Option.some.inj H).trans hrt_.out) (by decide)
      subst c54; have H1 : (if x61_2 ≤ (t331.length : Int) then ((stanzaref13_SameLines.f k2 t336 (t331.drop (x61_2 : Int).toNat)).bind fun t344 => (if t344 = true then (stanzalaw15_BestRest.l1 k2 (t317.length : Int) t331 (t331.length : Int) (wrap64 (x61_2 + 1)) t317 t320 t323 t324 t325 t326 t327 t328) else (some false))) else (none)) = some r := by rw [if_pos rfl] at H; exact H
      clear H; have H := H1; clear H1; have c55b0 := eq_true (of_decide_eq_true (by first | (with_reducible assumption) | assumption) : 0 ≤ x61_2)
      by_cases c56 : x61_2 ≤ (t331.length : Int)
      rotate_left
      · rw [if_neg c56] at H
        exact absurd H (by simp)
      rw [if_pos c56] at H; have c56b0 := eq_true c56; have c56b1 : decide (x61_2 ≤ (t331.length : Int)) = true := decide_eq_true c56
      clear c56; obtain ⟨y340, hy340⟩ : ∃ y_ : List (S48), y_ = (t331.drop (x61_2 : Int).toNat) := ⟨_, rfl⟩; replace H : ((stanzaref13_SameLines.f k2 t336 y340).bind fun t344 => (if t344 = true then (stanzalaw15_BestRest.l1 k2 (t317.length : Int) t331 (t331.length : Int) (wrap64 (x61_2 + 1)) t317 t320 t323 t324 t325 t326 t327 t328) else (some false))) = some r := by first | (rw [hy340]; with_reducible exact H) | (have H2_ := (Option.bind_some _ _).symm.trans H; rw [hy340]; with_reducible exact H2_) | (have H2_ := (Option.bind_some _ _).symm.trans H; with_reducible exact H2_) | with_reducible exact H | (rw [hy340]; exact H) | exact H
      have Ny340 := zC.mk hy340; clear hy340; replace H := Option.bind_eq_some_iff.mp H; obtain ⟨t344, A570, H⟩ := H; replace H : (if t344 = true then (stanzalaw15_BestRest.l1 k2 (t317.length : Int) t331 (t331.length : Int) (wrap64 (x61_2 + 1)) t317 t320 t323 t324 t325 t326 t327 t328) else (some false)) = some r := H; have A57 := zC.mk A570; clear A570; by_cases c58 : t344 = true
      rotate_left
      · replace c58 := Bool.eq_false_iff.mpr c58
        subst c58; have H1 : (some false) = some r := by rw [if_neg (show ¬ (false = true) by decide)] at H; exact H
        clear H; have H := H1; clear H1; exact absurd ((Option.some.inj H).trans hrt_.out) (by decide)
      subst c58; have H1 : (stanzalaw15_BestRest.l1 k2 (t317.length : Int) t331 (t331.length : Int) (wrap64 (x61_2 + 1)) t317 t320 t323 t324 t325 t326 t327 t328) = some r := by rw [if_pos rfl] at H; exact H
      clear H; have H := H1; clear H1; have H' := zC.mk H
      clear H; try go_wp2
      have n0_ := zC.mk (Kd.R_drew HO_9.out); have n1_ := zC.mk (Kd.R_drew HO_330000.out); have n2_ := zC.mk (Kd.R_drew HO_330001.out); have n3_ := zC.mk (zD BK303.out); have n4_ := zC.mk (zD BK329.out); have n5_ := zC.mk (zD BK330.out); have n6_ := zC.mk (zI HB.out); clear HO_9; clear HO_330000; clear HO_330001; clear BK303; clear BK329; clear BK330; clear HB; have HO_9 := n0_; have HO_330000 := n1_; have HO_330001 := n2_; have BK303 := n3_; have BK329 := n4_; have BK330 := n5_; have HB := n6_; clear n0_ n1_ n2_ n3_ n4_ n5_ n6_; have p335 : 0 ≤ (x61_2 : Int) := of_decide_eq_true (by first | (with_reducible assumption) | assumption)
      have q335 : x61_2 < (t331.length : Int) := of_decide_eq_true (by first | (with_reducible assumption) | assumption)
      obtain ⟨ad335, e335, hx335_0, hx335_1, hx335_2, hx335_3⟩ := at_T48 (Kd.R_reads' HO_9.out).2.2 x61_2 p335 q335; cases e335
      replace p335 := eq_true p335; replace q335 := eq_true q335; refine start_ (n := 14) (S := fun w' => w'.cell? ⟨gb329, 0, none⟩ = some (.slice Ao33 t317.length co33) ∧ w'.cell? ⟨gb329, 1, none⟩ = some (.slice Ao35 t320.length co35) ∧ w'.cell? ⟨gb330, 0, none⟩ = some (.int .i64 t323) ∧ w'.cell? ⟨gb330, 1, none⟩ = some (.int .i64 t324) ∧ w'.cell? ⟨gb330, 2, none⟩ = some (.int .u8 t325) ∧ w'.cell? ⟨gb330, 3, none⟩ = some (.int .i64 t326) ∧ w'.cell? ⟨gb330, 4, none⟩ = some (.int .i64 t327) ∧ w'.cell? ⟨gb330, 5, none⟩ = some (.float .f64 t328) ∧ w'.cell? (ad335.add ((x61_2).toNat * 4)) = some (.int .i64 ((rd_T48 t331 x61_2).f0)) ∧ w'.cell? ⟨(ad335.add ((x61_2).toNat * 4)).block, (ad335.add ((x61_2).toNat * 4)).off + 1, none⟩ = some (.int .i64 ((rd_T48 t331 x61_2).f1)) ∧ w'.cell? ⟨(ad335.add ((x61_2).toNat * 4)).block, (ad335.add ((x61_2).toNat * 4)).off + 2, none⟩ = some (.int .i64 ((rd_T48 t331 x61_2).f2)) ∧ w'.cell? ⟨(ad335.add ((x61_2).toNat * 4)).block, (ad335.add ((x61_2).toNat * 4)).off + 3, none⟩ = some (.int .u8 ((rd_T48 t331 x61_2).f3))) (ds := []) #[false, false, false, false, false, false, false, false, false, false, false, false, false, false] (by kernel_rfl) rfl rfl ⟨(zG BK329.out 0).trans rfl, (zG BK329.out 1).trans rfl, (zG BK330.out 0).trans rfl, (zG BK330.out 1).trans rfl, (zG BK330.out 2).trans rfl, (zG BK330.out 3).trans rfl, (zG BK330.out 4).trans rfl, (zG BK330.out 5).trans rfl, hx335_0, hx335_1, hx335_2, hx335_3⟩ (fun hHeld => ?_); refine with_tabW stanzalaw15_BestRest.tab18 stanzalaw15_BestRest.bits18 (fun HT_ HW_ => ?_)
      generalize wr.drew = w59 at HO_9 HO_330000 HO_330001 BK303 BK329 BK330 HB hx335_0 hx335_1 hx335_2 hx335_3 hHeld ⊢
      refine pure_ (i := 1) (N := some 66) (v := ?_) (a' := ?_) #[false, true, false, false, false, false, false, false, false, false, false, false, false, false] rfl rfl (any_of HT_.out (by kernel_rfl)) (fun _ _ _ h => h) (Or.inl ⟨by rfl, ?_⟩) ?_ ?_
      rotate_left
      · intro w'
        go_simp
        with_reducible rfl
      rotate_left
      · simp only [Act.put, sA_, sB_, sC_, i64_w, i32_w]
        rfl
      refine pure_ (i := 2) (N := some 67) (v := ?_) (a' := ?_) #[false, true, true, false, false, false, false, false, false, false, false, false, false, false] rfl rfl (any_of HT_.out (by kernel_rfl)) (fun _ _ _ h => h) (Or.inl ⟨by rfl, ?_⟩) ?_ ?_
      rotate_left
      · intro w'
        go_simp
        with_reducible rfl
      rotate_left
      · simp only [Act.put, sA_, sB_, sC_, i64_w, i32_w]
        rfl
      refine pure_ (i := 3) (N := some 68) (v := ?_) (a' := ?_) #[false, true, true, true, false, false, false, false, false, false, false, false, false, false] rfl rfl (any_of HT_.out (by kernel_rfl)) (fun _ _ _ h => h) (Or.inl ⟨by rfl, ?_⟩) ?_ ?_
      rotate_left
      · intro w'
        go_simp
        with_reducible rfl
      rotate_left
      · simp only [Act.put, sA_, sB_, sC_, i64_w, i32_w]
        rfl
      refine pure_ (i := 4) (N := some 69) (v := ?_) (a' := ?_) #[false, true, true, true, true, false, false, false, false, false, false, false, false, false] rfl rfl (any_of HT_.out (by kernel_rfl)) (fun _ _ _ h => h) (Or.inl ⟨by rfl, ?_⟩) ?_ ?_
      rotate_left
      · intro w'
        go_simp
        with_reducible rfl
      rotate_left
      · simp only [Act.put, sA_, sB_, sC_, i64_w, i32_w]
        rfl
      refine pure_ (i := 6) (N := some 71) (v := ?_) (a' := ?_) #[false, true, true, true, true, false, true, false, false, false, false, false, false, false] rfl rfl (any_of HT_.out (by kernel_rfl)) (fun _ _ _ h => h) (Or.inl ⟨by rfl, ?_⟩) ?_ ?_
      rotate_left
      · intro w'
        go_simp
        with_reducible rfl
      rotate_left
      · simp only [Act.put, sA_, sB_, sC_, i64_w, i32_w]
        rfl
      refine take_ (i := 0) (N := some 65) (v := ?_) (a' := ?_) #[true, true, true, true, true, false, true, false, false, false, false, false, false, false] rfl rfl (take_ofW HT_.out HW_.out (by kernel_rfl)) (fun _ _ _ h => h) (Or.inl ⟨by rfl, ?_⟩) hHeld ?_ ?_
      rotate_left
      · rintro w' ⟨s0, s1, s2, s3, s4, s5, s6, s7, s8, s9, s10, s11⟩
        go_simp
        with_reducible rfl
      rotate_left
      · simp only [Act.put, sA_, sB_, sC_, i64_w, i32_w]
        rfl
      refine take_ (i := 5) (N := some 70) (v := ?_) (a' := ?_) (tf_ 7 14) rfl rfl (take_ofW HT_.out HW_.out (by kernel_rfl)) (fun _ _ _ h => h) (Or.inl ⟨by rfl, ?_⟩) hHeld ?_ ?_
      rotate_left
      · rintro w' ⟨s0, s1, s2, s3, s4, s5, s6, s7, s8, s9, s10, s11⟩
        go_simp
        with_reducible rfl
      rotate_left
      · simp only [Act.put, sA_, sB_, sC_, i64_w, i32_w]
        rfl
      refine take_ (i := 7) (N := some 72) (v := ?_) (a' := ?_) (tf_ 8 14) rfl rfl (take_ofW HT_.out HW_.out (by kernel_rfl)) (fun _ _ _ h => h) (Or.inl ⟨by rfl, ?_⟩) hHeld ?_ ?_
      rotate_left
      · rintro w' ⟨s0, s1, s2, s3, s4, s5, s6, s7, s8, s9, s10, s11⟩
        go_simp
        with_reducible rfl
      rotate_left
      · simp only [Act.put, sA_, sB_, sC_, i64_w, i32_w]
        rfl
      refine one_ (i := 8) (N := some 73) #[true, true, true, true, true, true, true, true, true, false, false, false, false, false] rfl rfl (one_of HT_.out (by kernel_rfl)) (by decide) (fun K hK => ?_)
      refine goes_ Try.func14 (by kernel_rfl) rfl #[.agg #[.slice Ao33 t317.length co33, .slice Ao35 t320.length co35], .int .i64 ((rd_T48 t331 x61_2).f0), .int .i64 (t317.length : Int), .agg #[.int .i64 t323, .int .i64 t324, .int .u8 t325, .int .i64 t326, .int .i64 t327, .float .f64 t328]] (by rfl) rfl rfl (by (try simp only [List.map_toArray, List.map_cons, List.map_nil]); first | done | rfl | (simp only [List.length_drop, List.length_take]; rfl)) ?_
      with_reducible refine (best_Break.calls k2 _ _ t317 _ _ t320 ((rd_T48 t331 x61_2).f0) (t317.length : Int) t323 t324 t325 t326 t327 t328 t336 true _ ?side1 ?side2 ?side3 ?side4 A53.out).mono ?_
      (case side1 => repeat (first | exact (Kd.R_reads' HO_330000.out).2.2 | (with_reducible refine Kd.C_alloc ?_ _) | (with_reducible refine Kd.C_drewN ?_ _) | (with_reducible refine Kd.C_drew ?_)))
      (case side2 => exact (Kd.R_reads' HO_330000.out).2.1)
      (case side3 => repeat (first | exact (Kd.R_reads' HO_330001.out).2.2 | (with_reducible refine Kd.C_alloc ?_ _) | (with_reducible refine Kd.C_drewN ?_ _) | (with_reducible refine Kd.C_drew ?_)))
      (case side4 => exact (Kd.R_reads' HO_330001.out).2.1)
      rintro e w60 ⟨v337, rfl, ho0, hb⟩
      have HS8_ := (hb.cell (World.block_lt_of_cell? _ _ (hHeld.2.2.2.2.2.2.2.2.1))).trans (hHeld.2.2.2.2.2.2.2.2.1); have HS9_ := (hb.cell (World.block_lt_of_cell? _ _ (hHeld.2.2.2.2.2.2.2.2.2.1))).trans (hHeld.2.2.2.2.2.2.2.2.2.1); have HS10_ := (hb.cell (World.block_lt_of_cell? _ _ (hHeld.2.2.2.2.2.2.2.2.2.2.1))).trans (hHeld.2.2.2.2.2.2.2.2.2.2.1); have HS11_ := (hb.cell (World.block_lt_of_cell? _ _ (hHeld.2.2.2.2.2.2.2.2.2.2.2))).trans (hHeld.2.2.2.2.2.2.2.2.2.2.2); refine ⟨_, rfl, ?_⟩
      have n0_ := zC.mk (Kd.R_elder' (by (with_reducible repeat (first | apply Kd.R_alloc | apply Kd.R_drewN | apply Kd.R_drew)); exact HO_9.out) (Kd.R_base ho0) hb)
      have n1_ := zC.mk (Kd.R_below (by (with_reducible repeat (first | apply Kd.R_alloc | apply Kd.R_drewN | apply Kd.R_drew)); exact HO_330000.out) hb)
      have n2_ := zC.mk (Kd.R_below (by (with_reducible repeat (first | apply Kd.R_alloc | apply Kd.R_drewN | apply Kd.R_drew)); exact HO_330001.out) hb)
      have n3_ := zC.mk (Kd.R_lower (Kd.R_new' ho0 (Kd.R_lt (by (with_reducible repeat (first | apply Kd.R_alloc | apply Kd.R_drewN | apply Kd.R_drew)); exact HO_9.out))) (zL (by repeat (first | (with_reducible first | exact HB.out | apply zJ | apply zF | apply zI | refine zE ?_ GE303.out | refine zE ?_ GE329.out | refine zE ?_ GE330.out) | exact HB.out))))
      have n4_ := zC.mk (zK (g := gb303) (o := .cells #[.int .u8 a1_0, .int .u8 a1_1, .int .u8 a1_2, .int .u16 a1_3, .int .u16 a1_4, .float .f64 a1_5] 26 (0, 0)) (by (with_reducible repeat (first | refine zB ?_ _ | refine zD ?_ | refine zA ?_ _)); exact BK303.out) hb)
      have n5_ := zC.mk (zK (g := gb329) (o := .cells #[.slice Ao33 t317.length co33, .slice Ao35 t320.length co35] 31 (0, 0)) (by (with_reducible repeat (first | refine zB ?_ _ | refine zD ?_ | refine zA ?_ _)); exact BK329.out) hb)
      have n6_ := zC.mk (zK (g := gb330) (o := .cells #[.int .i64 t323, .int .i64 t324, .int .u8 t325, .int .i64 t326, .int .i64 t327, .float .f64 t328] 35 (0, 0)) (by (with_reducible repeat (first | refine zB ?_ _ | refine zD ?_ | refine zA ?_ _)); exact BK330.out) hb)
      have n7_ := zC.mk (below_step (by repeat (first | (with_reducible first | exact HB.out | apply zJ | apply zF | apply zI | refine zE ?_ GE303.out | refine zE ?_ GE329.out | refine zE ?_ GE330.out) | exact HB.out)) hb)
      clear HO_9 HO_330000 HO_330001 BK303 BK329 BK330 HB; have HO_9 := n0_; have HO_330000 := n1_; have HO_330001 := n2_; have HO338 := n3_; have BK303 := n4_; have BK329 := n5_; have BK330 := n6_; have HB := n7_; clear n0_ n1_ n2_ n3_ n4_ n5_ n6_ n7_; (try clear hb)
      (try clear hb2)
      (try clear hk)
      (try clear hi)
      (try clear ho0)
      refine hK.out _ _ ⟨(zG BK329.out 0).trans rfl, (zG BK329.out 1).trans rfl, (zG BK330.out 0).trans rfl, (zG BK330.out 1).trans rfl, (zG BK330.out 2).trans rfl, (zG BK330.out 3).trans rfl, (zG BK330.out 4).trans rfl, (zG BK330.out 5).trans rfl, HS8_, HS9_, HS10_, HS11_⟩ (fun hHeld => ?_)
      clear hK K; refine norm_ (a' := ?_) ?_ ?_
      rotate_left
      · show Act.put _ (some 73) _ = _
        simp only [Act.put, sA_, sB_, sC_, i64_w, i32_w]; rfl
      refine pure_ (i := 9) (N := some 64) (v := ?_) (a' := ?_) (tf_ 10 14) rfl rfl (any_of HT_.out (by kernel_rfl)) (fun _ _ _ h => h) (Or.inl ⟨by rfl, ?_⟩) ?_ ?_
      rotate_left
      · intro w'
        go_simp
        with_reducible rfl
      rotate_left
      · simp only [Act.put, sA_, sB_, sC_, i64_w, i32_w]
        rfl
      refine pure_ (i := 10) (N := some 74) (v := ?_) (a' := ?_) (tf_ 11 14) rfl rfl (any_of HT_.out (by kernel_rfl)) (fun _ _ _ h => h) (Or.inl ⟨by rfl, ?_⟩) ?_ ?_
      rotate_left
      · intro w'
        go_simp
        with_reducible rfl
      rotate_left
      · simp only [Act.put, sA_, sB_, sC_, i64_w, i32_w]
        rfl
      refine pure_ (i := 11) (N := some 75) (v := ?_) (a' := ?_) (tf_ 12 14) rfl rfl (any_of HT_.out (by kernel_rfl)) (fun _ _ _ h => h) (Or.inl ⟨by rfl, ?_⟩) ?_ ?_
      rotate_left
      · intro w'
        go_simp
        with_reducible rfl
      rotate_left
      · simp only [Act.put, sA_, sB_, sC_, i64_w, i32_w]
        rfl
      refine pure_ (i := 12) (N := some 12) (v := ?_) (a' := ?_) (tf_ 13 14) rfl rfl (any_of HT_.out (by kernel_rfl)) (fun _ _ _ h => h) (Or.inl ⟨by rfl, ?_⟩) ?_ ?_
      rotate_left
      · intro w'
        go_simp
        with_reducible rfl
      rotate_left
      · simp only [Act.put, sA_, sB_, sC_, i64_w, i32_w]
        rfl
      refine pure_ (i := 13) (N := some 13) (v := ?_) (a' := ?_) #[true, true, true, true, true, true, true, true, true, true, true, true, true, true] rfl rfl (any_of HT_.out (by kernel_rfl)) (fun _ _ _ h => h) (Or.inl ⟨by rfl, ?_⟩) ?_ ?_
      rotate_left
      · intro w'
        go_simp
        with_reducible rfl
      rotate_left
      · simp only [Act.put, sA_, sB_, sC_, i64_w, i32_w]
        rfl
      refine done_ (done_of HT_.out (by kernel_rfl)) ?_
      have q61 : (x61_2 : Int) ≤ ((t331.length : Int) : Int) := of_decide_eq_true (by first | (with_reducible assumption) | assumption)
      obtain ⟨i061, hi061, _, hsz61, _⟩ := info_parts info48; have hroom61 : t331.length ≤ co49 := (Kd.R_reads' HO_9.out).2.1
      have hC61 : Kd.C k48 _ (some ad335) t331.length t331 := (Kd.R_reads' HO_9.out).2.2
      have q061 : (0 : Int) ≤ (x61_2 : Int) := of_decide_eq_true (by first | (with_reducible assumption) | assumption)
      have hcut61 := cut_from (P := Try.prog) 39 48 .i64 Try.underlying39 hi061 4 hsz61 (some ad335) t331.length co49 x61_2 q061 q61; have hr61 := Kd.C_drop (m := (x61_2 : Int).toNat) (c := co49) hC61 (by omega) hroom61
      obtain ⟨A61, hA61⟩ : ∃ A1, A1 = (if co49 = (x61_2 : Int).toNat then (some ad335) else ((some ad335) : Option Addr).map (·.add ((x61_2 : Int).toNat * 4))) := ⟨_, rfl⟩
      obtain ⟨c61, hc61⟩ : ∃ c1, c1 = co49 - (x61_2 : Int).toNat := ⟨_, rfl⟩; have hy61 : y340.length = t331.length - (x61_2 : Int).toNat := (by rw [Ny340.out, List.length_drop] <;> omega)
      rw [show (t331).drop (x61_2 : Int).toNat = y340 from Ny340.out.symm] at hr61; replace hr61 : Kd.C k48 _ A61 y340.length y340 := (by rw [hA61]; exact hr61)
      rw [← hy61, ← hA61, ← hc61] at hcut61; have HR343 := zC.mk hr61; have HC343 := zC.mk (show y340.length ≤ c61 from by rw [hy61, hc61]; exact Nat.sub_le_sub_right hroom61 _)
      clear hr61 hC61 hroom61 hi061 hsz61 hc61; have KY61 := zC.mk hy61; have KA61 := zC.mk hA61; clear hy61 hA61; have KL61 := zC.mk (show (x61_2 : Int).toNat ≤ t331.length from by omega)
      replace q61 := eq_true q61; obtain ⟨Ao62, co62, eo62⟩ := Kd.R_slice HO338.out; subst eo62; try go_wp2_with (first | (go_at_call 16; (with_reducible refine (stanzaref13_SameLines.calls k2 _ _ t336 _ _ y340 true _ ?side1 ?side2 ?side3 ?side4 A57.out).mono ?_); (case side1 => repeat (first | exact (Kd.R_reads' HO338.out).2.2 | (with_reducible refine Kd.C_alloc ?_ _) | (with_reducible refine Kd.C_drewN ?_ _) | (with_reducible refine Kd.C_drew ?_))); (case side2 => exact (Kd.R_reads' HO338.out).2.1); (case side3 => repeat (first | exact (by repeat (first | (with_reducible exact HR343.out) | (with_reducible refine Kd.C_alloc ?_ _) | (with_reducible refine Kd.C_drewN ?_ _) | (with_reducible refine Kd.C_drew ?_) | exact HR343.out)) | (with_reducible refine Kd.C_alloc ?_ _) | (with_reducible refine Kd.C_drewN ?_ _) | (with_reducible refine Kd.C_drew ?_))); (case side4 => exact HC343.out); rintro e w' ⟨rfl, ⟨nd, rfl⟩⟩))
      go_roundg k2
      case measure => have := HK1.out; have := HK2.out; omega
      case rel => exact ⟨(wrap64 (x61_2 + 1)), (by first | rfl | (simp; done) | (simp [*]; done)), H', ⟨by have := HK1.out; have := HK2.out; omega⟩, ⟨by (try simp only [hl0_1]); (with_reducible repeat (first | apply Kd.R_alloc | apply Kd.R_drewN | apply Kd.R_drew)); exact Kd.R_mono HO_9.out (fun _ hk => trivial)⟩, ⟨by (try simp only [hl0_1]); (with_reducible repeat (first | apply Kd.R_alloc | apply Kd.R_drewN | apply Kd.R_drew)); exact HO_330000.out⟩, ⟨by (try simp only [hl0_1]); (with_reducible repeat (first | apply Kd.R_alloc | apply Kd.R_drewN | apply Kd.R_drew)); exact HO_330001.out⟩, ⟨by (try simp only [hl0_1]); (with_reducible repeat (first | refine zB ?_ _ | refine zD ?_ | refine zA ?_ _)); exact BK303.out⟩, ⟨by (try simp only [hl0_1]); (with_reducible repeat (first | refine zB ?_ _ | refine zD ?_ | refine zA ?_ _)); exact BK329.out⟩, ⟨by (try simp only [hl0_1]); (with_reducible repeat (first | refine zB ?_ _ | refine zD ?_ | refine zA ?_ _)); exact BK330.out⟩, ⟨by repeat (first | (with_reducible first | exact HB.out | apply zJ | apply zF | apply zI | refine zE ?_ GE303.out | refine zE ?_ GE329.out | refine zE ?_ GE330.out) | exact HB.out)⟩⟩
def stanzalaw15_BestRest.Pure : Prop := ∀ (l0 : List (S45)) (a1_0 : Int) (a1_1 : Int) (a1_2 : Int) (a1_3 : Int) (a1_4 : Int) (a1_5 : Nat), (l0.length * 4 ≤ 140737488351232 ∧ ∀ y0 ∈ l0, ((Lit.int .u8 y0.f0).wf = true ∧ ((Lit.int .u8 y0.f1).wf = true ∧ ((Lit.int .u8 y0.f2).wf = true ∧ (Lit.int .u8 y0.f3).wf = true)))) → ((Lit.int .u8 a1_0).wf = true ∧ ((Lit.int .u8 a1_1).wf = true ∧ ((Lit.int .u8 a1_2).wf = true ∧ ((Lit.int .u16 a1_3).wf = true ∧ ((Lit.int .u16 a1_4).wf = true ∧ (Lit.float .f64 a1_5).wf = true))))) → ∃ k, stanzalaw15_BestRest.f k l0 a1_0 a1_1 a1_2 a1_3 a1_4 a1_5 = some true
end Go.Proofs.Ytlgclhhkgohanaa.F
end
