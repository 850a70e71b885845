/- Printed by a program: Lean functions that answer as the Go functions do, and the proofs of it. -/
import Derived.Test.YtlgclhhkgohanaaVBestOne0
import Derived.Test.YtlgclhhkgohanaaVBestOne1
section
namespace Go.Proofs.Ytlgclhhkgohanaa.F
open Go.RowKit Go.Proofs.YtlgclhhkgohanaaW.PrintWords Go.Proofs.YtlgclhhkgohanaaW.PrintLast Go.Proofs.YtlgclhhkgohanaaW.PrintMore
attribute [local go_sem] max2_int min2_int max_two min_two max_three min_three max_four min_four   -- for this text's walks alone
set_option linter.unusedVariables false
set_option linter.unusedSimpArgs false
def stanzalaw15_Awake.f (k : Nat)  : Option (Bool) := (stanzalaw14_Text.f k (⟨#[97, 97, 97, 32, 98, 98, 98, 32, 99, 32, 100, 100, 100, 100, 32, 101, 101, 101, 101, 101, 101, 101, 101, 101]⟩ : ByteArray)).bind fun bt211 => ((best_Break.f k bt211.1 bt211.2 0 24 9 8 1 0 0 4741671816366391296).bind fun bt218 => (if bt218.2 = true then (if (bt218.1.length : Int) = 3 then (if 0 < (bt218.1.length : Int) then (if ((rd_T48 bt218.1 0).f1) = 8 then (if 1 < (bt218.1.length : Int) then (if ((rd_T48 bt218.1 1).f1) = 15 then (some (((rd_T48 bt218.1 1).f2) == 6)) else (some false)) else (none)) else (some false)) else (none)) else (some false)) else (some false)))
theorem stanzalaw15_Awake.mono : ∀ k, LeO (stanzalaw15_Awake.f k ) (stanzalaw15_Awake.f (k + 1) ) := by
  intro  k
  unfold stanzalaw15_Awake.f
  repeat' first
      | (with_reducible exact best_Break.mono _ _ _ _ _ _ _ _ _ _ _)
      | (with_reducible exact stanzalaw14_Text.mono _ _)
      | (with_reducible exact LeO.refl _)
      | (with_reducible exact LeO.none _)
      | (with_reducible refine LeO.ite ?_ ?_)
      | (with_reducible refine LeO.bind ?_ (fun _ => ?_))
      | exact best_Break.mono _ _ _ _ _ _ _ _ _ _ _
      | exact stanzalaw14_Text.mono _ _
      | exact LeO.none _
      | refine LeO.ite ?_ ?_
      | refine LeO.bind ?_ (fun _ => ?_)
set_option maxHeartbeats 8000000 in
set_option maxRecDepth 100000 in
theorem stanzalaw15_Awake.calls (k : Nat)  (r : Bool) (w : World) (h : stanzalaw15_Awake.f k  = some r) (hrt_ : zB (r = true)) :
    Calls Try.prog 10 #[] w fun e w' => e = .returned (.bool r) ∧ Below w.heap.size w w' := by
  have hu31 := Try.underlying31; have hu35 := Try.underlying35; have HB := zB.mk (Below.refl w.heap.size w); have H : ((stanzalaw14_Text.f k (⟨#[97, 97, 97, 32, 98, 98, 98, 32, 99, 32, 100, 100, 100, 100, 32, 101, 101, 101, 101, 101, 101, 101, 101, 101]⟩ : ByteArray)).bind fun bt211 => ((best_Break.f k bt211.1 bt211.2 0 24 9 8 1 0 0 4741671816366391296).bind fun bt218 => (if bt218.2 = true then (if (bt218.1.length : Int) = 3 then (if 0 < (bt218.1.length : Int) then (if ((rd_T48 bt218.1 0).f1) = 8 then (if 1 < (bt218.1.length : Int) then (if ((rd_T48 bt218.1 1).f1) = 15 then (some (((rd_T48 bt218.1 1).f2) == 6)) else (some false)) else (none)) else (some false)) else (none)) else (some false)) else (some false)))) = some r := h
  clear h; replace H := Option.bind_eq_some_iff.mp H; obtain ⟨⟨t211, t214⟩, A10, H⟩ := H; replace H : ((best_Break.f k t211 t214 0 24 9 8 1 0 0 4741671816366391296).bind fun bt218 => (if bt218.2 = true then (if (bt218.1.length : Int) = 3 then (if 0 < (bt218.1.length : Int) then (if ((rd_T48 bt218.1 0).f1) = 8 then (if 1 < (bt218.1.length : Int) then (if ((rd_T48 bt218.1 1).f1) = 15 then (some (((rd_T48 bt218.1 1).f2) == 6)) else (some false)) else (none)) else (some false)) else (none)) else (some false)) else (some false))) = some r := H
  have A1 := zB.mk A10; clear A10; replace H := Option.bind_eq_some_iff.mp H; obtain ⟨⟨t218, t221⟩, A20, H⟩ := H; replace H : (if t221 = true then (if (t218.length : Int) = 3 then (if 0 < (t218.length : Int) then (if ((rd_T48 t218 0).f1) = 8 then (if 1 < (t218.length : Int) then (if ((rd_T48 t218 1).f1) = 15 then (some (((rd_T48 t218 1).f2) == 6)) else (some false)) else (none)) else (some false)) else (none)) else (some false)) else (some false)) = some r := H; have A2 := zB.mk A20; clear A20; by_cases c3 : t221 = true
  rotate_left
  · replace c3 := Bool.eq_false_iff.mpr c3
    subst c3; have H1 : (some false) = some r := by rw [if_neg (show ¬ (false = true) by decide)] at H; exact H
    clear H; have H := H1; clear H1; exact absurd ((Option.some.inj H).trans hrt_.out) (by decide)
  subst c3; have H1 : (if (t218.length : Int) = 3 then (if 0 < (t218.length : Int) then (if ((rd_T48 t218 0).f1) = 8 then (if 1 < (t218.length : Int) then (if ((rd_T48 t218 1).f1) = 15 then (some (((rd_T48 t218 1).f2) == 6)) else (some false)) else (none)) else (some false)) else (none)) else (some false)) = some r := by rw [if_pos rfl] at H; exact H
  clear H; have H := H1; clear H1; by_cases c4 : (t218.length : Int) = 3
  rotate_left
  · rw [if_neg c4] at H
    have c4b0 : ((t218.length : Int) == 3) = false := beq_eq_false_iff_ne.mpr c4
    have c4b1 : ((t218.length : Int) != 3) = true := bne_iff_ne.mpr c4
    exact absurd ((Option.some.inj H).trans hrt_.out) (by decide)
  rw [if_pos c4] at H; have c4b0 : ((t218.length : Int) == 3) = true := beq_iff_eq.mpr c4
  have c4b1 : ((t218.length : Int) != 3) = false := bne_eq_false_iff_eq.mpr c4
  clear c4; by_cases c5 : 0 < (t218.length : Int)
  rotate_left
  · rw [if_neg c5] at H
    exact absurd H (by simp)
  rw [if_pos c5] at H; have c5b0 : decide (0 < (t218.length : Int)) = true := decide_eq_true c5
  have c5b1 : decide (0 < t218.length) = true := decide_eq_true (by omega)
  clear c5; by_cases c6 : ((rd_T48 t218 0).f1) = 8
  rotate_left
  · rw [if_neg c6] at H
    have c6b0 : (((rd_T48 t218 0).f1) == 8) = false := beq_eq_false_iff_ne.mpr c6
    have c6b1 : (((rd_T48 t218 0).f1) != 8) = true := bne_iff_ne.mpr c6
    exact absurd ((Option.some.inj H).trans hrt_.out) (by decide)
  rw [if_pos c6] at H; have c6b0 : (((rd_T48 t218 0).f1) == 8) = true := beq_iff_eq.mpr c6
  have c6b1 : (((rd_T48 t218 0).f1) != 8) = false := bne_eq_false_iff_eq.mpr c6
  clear c6; by_cases c7 : 1 < (t218.length : Int)
  rotate_left
  · rw [if_neg c7] at H
    exact absurd H (by simp)
  rw [if_pos c7] at H; have c7b0 : decide (1 < (t218.length : Int)) = true := decide_eq_true c7
  have c7b1 : decide (1 < t218.length) = true := decide_eq_true (by omega)
  clear c7; by_cases c8 : ((rd_T48 t218 1).f1) = 15
  rotate_left
  · rw [if_neg c8] at H
    have c8b0 : (((rd_T48 t218 1).f1) == 15) = false := beq_eq_false_iff_ne.mpr c8
    have c8b1 : (((rd_T48 t218 1).f1) != 15) = true := bne_iff_ne.mpr c8
    exact absurd ((Option.some.inj H).trans hrt_.out) (by decide)
  rw [if_pos c8] at H; have c8b0 : (((rd_T48 t218 1).f1) == 15) = true := beq_iff_eq.mpr c8
  have c8b1 : (((rd_T48 t218 1).f1) != 15) = false := bne_eq_false_iff_eq.mpr c8
  clear c8; obtain rfl := Option.some.inj H
  go_enter Try.func10, Try.ntmps10
  go_wp2_with (first | ((with_reducible refine gate_callee (f := 23) rfl ?_); refine goesL_ (some 4) rfl rfl Try.func23 (by kernel_rfl) rfl #[.string (⟨#[97, 97, 97, 32, 98, 98, 98, 32, 99, 32, 100, 100, 100, 100, 32, 101, 101, 101, 101, 101, 101, 101, 101, 101]⟩ : ByteArray)] rfl (by (try simp only [List.map_toArray, List.map_cons, List.map_nil]); first | done | rfl | (simp only [List.length_drop, List.length_take]; rfl)) ?_; (with_reducible refine (stanzalaw14_Text.calls k (⟨#[97, 97, 97, 32, 98, 98, 98, 32, 99, 32, 100, 100, 100, 100, 32, 101, 101, 101, 101, 101, 101, 101, 101, 101]⟩ : ByteArray) t211 t214 _ A1.out).mono ?_); rintro e w9 ⟨v212, v215, rfl, ho0, ho1, hb⟩; refine ⟨_, rfl, ?_⟩; have n0_ := zB.mk (Kd.R_lower ho0 (zM (by repeat (first | (with_reducible first | exact HB.out | apply zJ | apply zF | apply zH) | exact HB.out)))); have n1_ := zB.mk (Kd.R_lower ho1 (zM (by repeat (first | (with_reducible first | exact HB.out | apply zJ | apply zF | apply zH) | exact HB.out)))); have n2_ := zB.mk (zO (by repeat (first | (with_reducible first | exact HB.out | apply zJ | apply zF | apply zH) | exact HB.out)) hb); clear HB; have HO213 := n0_; have HO216 := n1_; have HB := n2_; clear n0_ n1_ n2_; (try clear hb); (try clear hb2); (try clear hk); (try clear hi); (try clear ho0); (try clear ho1)) | ((with_reducible refine gate_dst (N := 1) rfl ?_); (try (refine gate_guard (by rfl) ?_; dsimp only)); refine box_event ?hg (N := 1) ?hd (cs := #[.slice none 0 0, .slice none 0 0]) (t := 31) ?hr ?_; (case hd => rfl); (case hg => rfl); (case hr => first | (go_simp; done) | (go_simp; rfl)); intro gb217 hg w10 hbox hb; have n0_ := zB.mk (Kd.R_below (by (with_reducible repeat (first | apply Kd.R_alloc | apply Kd.R_drewN | apply Kd.R_drew)); exact HO213.out) hb); have n1_ := zB.mk (Kd.R_below (by (with_reducible repeat (first | apply Kd.R_alloc | apply Kd.R_drewN | apply Kd.R_drew)); exact HO216.out) hb); have n2_ := zB.mk (zO (by repeat (first | (with_reducible first | exact HB.out | apply zJ | apply zF | apply zH) | exact HB.out)) hb); have n3_ := zB.mk (hbox); have n4_ := zB.mk ((by rw [hg]; exact (zM (by repeat (first | (with_reducible first | exact HB.out | apply zJ | apply zF | apply zH) | exact HB.out))) : w.heap.size ≤ gb217)); have n5_ := zB.mk ((by rw [hg]; exact (zM (by repeat (first | (with_reducible first | exact HB.out | apply zJ | apply zF | apply zH) | exact HB.out))) : w.heap.size ≤ gb217)); clear HO213; clear HO216; clear HB; have HO213 := n0_; have HO216 := n1_; have HB := n2_; have BK217 := n3_; have GW217 := n4_; have GE217 := n5_; clear n0_ n1_ n2_ n3_ n4_ n5_; clear hb hbox hg; obtain ⟨Ao11, co11, eo11⟩ := Kd.R_slice HO213.out; subst eo11; have hcz12_0 : w10.cell? ⟨gb217, 0, none⟩ = some (.slice none 0 0) := (zG BK217.out 0).trans rfl; have hcz12_1 : w10.cell? ⟨gb217, 1, none⟩ = some (.slice none 0 0) := (zG BK217.out 1).trans rfl; have hfz12_0 := zI BK217.out 0; have hfz12_1 := zI BK217.out 1; obtain ⟨Ao13, co13, eo13⟩ := Kd.R_slice HO216.out; subst eo13) | ((with_reducible refine gate_store (t := 31) (p := 1) rfl ?_); refine store_event (t := 31) (p := 1) (v := ?vo_w14) (w1 := ((w10.setCell ⟨gb217, 0, none⟩ (.slice Ao11 t211.length co11)).setCell ⟨gb217, 1, none⟩ (.slice Ao13 t214.length co13))) ?hg ?ho ?hn ?hr ?_; (case ho => rfl); (case hg => rfl); (case hn => rfl); (case hr => first | (go_simp; done) | (go_simp; rfl)); intro w14 hw; have n0_ : zB (Kd.R k62 62 w14 w.heap.size (fun _ => True) (.slice Ao11 t211.length co11) t211) := ⟨(by rw [hw]; exact (by (with_reducible repeat (first | apply Kd.R_alloc | apply Kd.R_drewN | apply Kd.R_drew)); exact Kd.R_mono (Kd.R_far (p := ⟨gb217, 1, none⟩) (Kd.R_far (p := ⟨gb217, 0, none⟩) (Kd.R_types HO213.out BK217.out (by decide)) (fun _ hk => hk.2) (.slice Ao11 t211.length co11)) (fun _ hk => hk.2) (.slice Ao13 t214.length co13)) (fun _ hk => trivial)))⟩; have n1_ : zB (Kd.R (Kd.int .u8) 46 w14 w.heap.size (fun _ => True) (.slice Ao13 t214.length co13) t214) := ⟨(by rw [hw]; exact (by (with_reducible repeat (first | apply Kd.R_alloc | apply Kd.R_drewN | apply Kd.R_drew)); exact Kd.R_mono (Kd.R_far (p := ⟨gb217, 1, none⟩) (Kd.R_far (p := ⟨gb217, 0, none⟩) (Kd.R_types HO216.out BK217.out (by decide)) (fun _ hk => hk.2) (.slice Ao11 t211.length co11)) (fun _ hk => hk.2) (.slice Ao13 t214.length co13)) (fun _ hk => trivial)))⟩; have n2_ : zB (w14.heap[gb217]? = some (.cells #[.slice Ao11 t211.length co11, .slice Ao13 t214.length co13] 31 (0, 0))) := ⟨(by rw [hw]; exact (by (with_reducible repeat (first | refine zC ?_ _ | refine zD ?_ | refine zA ?_ _)); refine blk_put (cs := #[.slice Ao11 t211.length co11, .slice none 0 0]) ?_ 1 _ rfl; (with_reducible repeat (first | refine zC ?_ _ | refine zD ?_ | refine zA ?_ _)); refine blk_put (cs := #[.slice none 0 0, .slice none 0 0]) ?_ 0 _ rfl; (with_reducible repeat (first | refine zC ?_ _ | refine zD ?_ | refine zA ?_ _)); exact BK217.out))⟩; have n3_ : zB (Below w.heap.size w w14) := ⟨(by rw [hw]; exact (by repeat (first | (with_reducible first | exact HB.out | apply zJ | apply zF | apply zH | refine zE ?_ GE217.out) | exact HB.out)))⟩; clear hw; clear HO213; clear HO216; clear BK217; clear HB; have HO213 := n0_; have HO216 := n1_; have BK217 := n2_; have HB := n3_; clear n0_ n1_ n2_ n3_; have hcz15_0 : w14.cell? ⟨gb217, 0, none⟩ = some (.slice Ao11 t211.length co11) := (zG BK217.out 0).trans rfl; have hcz15_1 : w14.cell? ⟨gb217, 1, none⟩ = some (.slice Ao13 t214.length co13) := (zG BK217.out 1).trans rfl; have hfz15_0 := zI BK217.out 0; have hfz15_1 := zI BK217.out 1) | ((with_reducible refine gate_callee (f := 14) rfl ?_); refine goesL_ (some 8) rfl rfl Try.func14 (by kernel_rfl) rfl #[.agg #[.slice Ao11 t211.length co11, .slice Ao13 t214.length co13], .int .i64 0, .int .i64 24, .agg #[.int .i64 9, .int .i64 8, .int .u8 1, .int .i64 0, .int .i64 0, .float .f64 4741671816366391296]] rfl (by (try simp only [List.map_toArray, List.map_cons, List.map_nil]); first | done | rfl | (simp only [List.length_drop, List.length_take]; rfl)) ?_; (with_reducible refine (best_Break.calls k _ _ t211 _ _ t214 0 24 9 8 1 0 0 4741671816366391296 t218 true _ ?side1 ?side2 ?side3 ?side4 A2.out).mono ?_); (case side1 => repeat (first | exact (Kd.R_reads' HO213.out).2.2 | (with_reducible refine Kd.C_alloc ?_ _) | (with_reducible refine Kd.C_drewN ?_ _) | (with_reducible refine Kd.C_drew ?_))); (case side2 => exact (Kd.R_reads' HO213.out).2.1); (case side3 => repeat (first | exact (Kd.R_reads' HO216.out).2.2 | (with_reducible refine Kd.C_alloc ?_ _) | (with_reducible refine Kd.C_drewN ?_ _) | (with_reducible refine Kd.C_drew ?_))); (case side4 => exact (Kd.R_reads' HO216.out).2.1); rintro e w16 ⟨v219, rfl, ho0, hb⟩; refine ⟨_, rfl, ?_⟩; have n0_ := zB.mk (Kd.R_below (by (with_reducible repeat (first | apply Kd.R_alloc | apply Kd.R_drewN | apply Kd.R_drew)); exact HO213.out) hb); have n1_ := zB.mk (Kd.R_below (by (with_reducible repeat (first | apply Kd.R_alloc | apply Kd.R_drewN | apply Kd.R_drew)); exact HO216.out) hb); have n2_ := zB.mk (Kd.R_lower ho0 (zM (by repeat (first | (with_reducible first | exact HB.out | apply zJ | apply zF | apply zH | refine zE ?_ GE217.out) | exact HB.out)))); have n3_ := zB.mk (zK (g := gb217) (o := .cells #[.slice Ao11 t211.length co11, .slice Ao13 t214.length co13] 31 (0, 0)) (by (with_reducible repeat (first | refine zC ?_ _ | refine zD ?_ | refine zA ?_ _)); exact BK217.out) hb); have n4_ := zB.mk (zO (by repeat (first | (with_reducible first | exact HB.out | apply zJ | apply zF | apply zH | refine zE ?_ GE217.out) | exact HB.out)) hb); clear HO213; clear HO216; clear BK217; clear HB; have HO213 := n0_; have HO216 := n1_; have HO220 := n2_; have BK217 := n3_; have HB := n4_; clear n0_ n1_ n2_ n3_ n4_; (try clear hb); (try clear hb2); (try clear hk); (try clear hi); (try clear ho0); obtain ⟨Ao17, co17, eo17⟩ := Kd.R_slice HO220.out; subst eo17; have p222 : 0 ≤ (0 : Int) := (by omega); have q222 : 0 < (t218.length : Int) := of_decide_eq_true (by first | (with_reducible assumption) | assumption); obtain ⟨ad222, e222, hx222_0, hx222_1, hx222_2, hx222_3⟩ := at_T48 (Kd.R_reads' HO220.out).2.2 0 p222 q222; cases e222; have qi222 : (0 < t218.length) = True := eq_true (by omega); (try rw [show ((0 : Int)).toNat = 0 from rfl] at hx222_0); (try rw [show 0 * 4 = 0 from rfl] at hx222_0); (try rw [Addr.add_zero'] at hx222_0); (try rw [show ((0 : Int)).toNat = 0 from rfl] at hx222_1); (try rw [show 0 * 4 = 0 from rfl] at hx222_1); (try rw [Addr.add_zero'] at hx222_1); (try rw [show ((0 : Int)).toNat = 0 from rfl] at hx222_2); (try rw [show 0 * 4 = 0 from rfl] at hx222_2); (try rw [Addr.add_zero'] at hx222_2); (try rw [show ((0 : Int)).toNat = 0 from rfl] at hx222_3); (try rw [show 0 * 4 = 0 from rfl] at hx222_3); (try rw [Addr.add_zero'] at hx222_3); replace p222 := eq_true p222; replace q222 := eq_true q222; have p223 : 0 ≤ (1 : Int) := (by omega); have q223 : 1 < (t218.length : Int) := of_decide_eq_true (by first | (with_reducible assumption) | assumption); obtain ⟨ad223, e223, hx223_0, hx223_1, hx223_2, hx223_3⟩ := at_T48 (Kd.R_reads' HO220.out).2.2 1 p223 q223; obtain rfl : ad222 = ad223 := (by injection e223); (try simp only [show (1 : Int).toNat = 1 from rfl, Nat.reduceMul, Nat.reduceEqDiff, Go.Addr.add, ↓reduceIte] at hx223_0); (try simp only [show (1 : Int).toNat = 1 from rfl, Nat.reduceMul, Nat.reduceEqDiff, Go.Addr.add, ↓reduceIte] at hx223_1); (try simp only [show (1 : Int).toNat = 1 from rfl, Nat.reduceMul, Nat.reduceEqDiff, Go.Addr.add, ↓reduceIte] at hx223_2); (try simp only [show (1 : Int).toNat = 1 from rfl, Nat.reduceMul, Nat.reduceEqDiff, Go.Addr.add, ↓reduceIte] at hx223_3); have qi223 : (1 < t218.length) = True := eq_true (by omega); (try rw [show ((1 : Int)).toNat = 1 from rfl] at hx223_0); (try rw [show 1 * 4 = 4 from rfl] at hx223_0); (try rw [show ((1 : Int)).toNat = 1 from rfl] at hx223_1); (try rw [show 1 * 4 = 4 from rfl] at hx223_1); (try rw [show ((1 : Int)).toNat = 1 from rfl] at hx223_2); (try rw [show 1 * 4 = 4 from rfl] at hx223_2); (try rw [show ((1 : Int)).toNat = 1 from rfl] at hx223_3); (try rw [show 1 * 4 = 4 from rfl] at hx223_3); replace p223 := eq_true p223; replace q223 := eq_true q223; have p224 : 0 ≤ (1 : Int) := (by omega); have q224 : 1 < (t218.length : Int) := of_decide_eq_true (by first | (with_reducible assumption) | assumption); obtain ⟨ad224, e224, hx224_0, hx224_1, hx224_2, hx224_3⟩ := at_T48 (Kd.R_reads' HO220.out).2.2 1 p224 q224; obtain rfl : ad222 = ad224 := (by injection e224); (try simp only [show (1 : Int).toNat = 1 from rfl, Nat.reduceMul, Nat.reduceEqDiff, Go.Addr.add, ↓reduceIte] at hx224_0); (try simp only [show (1 : Int).toNat = 1 from rfl, Nat.reduceMul, Nat.reduceEqDiff, Go.Addr.add, ↓reduceIte] at hx224_1); (try simp only [show (1 : Int).toNat = 1 from rfl, Nat.reduceMul, Nat.reduceEqDiff, Go.Addr.add, ↓reduceIte] at hx224_2); (try simp only [show (1 : Int).toNat = 1 from rfl, Nat.reduceMul, Nat.reduceEqDiff, Go.Addr.add, ↓reduceIte] at hx224_3); have qi224 : (1 < t218.length) = True := eq_true (by omega); (try rw [show ((1 : Int)).toNat = 1 from rfl] at hx224_0); (try rw [show 1 * 4 = 4 from rfl] at hx224_0); (try rw [show ((1 : Int)).toNat = 1 from rfl] at hx224_1); (try rw [show 1 * 4 = 4 from rfl] at hx224_1); (try rw [show ((1 : Int)).toNat = 1 from rfl] at hx224_2); (try rw [show 1 * 4 = 4 from rfl] at hx224_2); (try rw [show ((1 : Int)).toNat = 1 from rfl] at hx224_3); (try rw [show 1 * 4 = 4 from rfl] at hx224_3); replace p224 := eq_true p224; replace q224 := eq_true q224))
  go_ret
  exact ⟨by first | rfl | (simp [errW_none, errW_some] <;> rfl) | (simp [*, errW_none, errW_some] <;> rfl), by repeat (first | (with_reducible first | exact HB.out | apply zJ | apply zF | apply zH | refine zE ?_ GE217.out) | exact HB.out)⟩
def stanzahand03_Config.f (a0_0 : Int) (a0_1 : Int) (a0_2 : Int) (a0_3 : Int) (a0_4 : Int) (a0_5 : Nat) : Option (Int × Int × Int × Int × Int × Nat) := some (wrap64 (1 + (wrap64 (a0_0))), wrap64 (1 + (wrap64 (Int.tmod a0_1 64))), Int.tmod a0_2 2, wrap64 (a0_3), wrap64 (a0_4), a0_5)
set_option maxHeartbeats 8000000 in
set_option maxRecDepth 100000 in
theorem stanzahand03_Config.calls (a0_0 : Int) (a0_1 : Int) (a0_2 : Int) (a0_3 : Int) (a0_4 : Int) (a0_5 : Nat) (r1 : Int) (r2 : Int) (r3 : Int) (r4 : Int) (r5 : Int) (r6 : Nat) (w : World) (h : stanzahand03_Config.f a0_0 a0_1 a0_2 a0_3 a0_4 a0_5 = some (r1, r2, r3, r4, r5, r6)) :
    Calls Try.prog 12 #[.agg #[.int .u8 a0_0, .int .u8 a0_1, .int .u8 a0_2, .int .u16 a0_3, .int .u16 a0_4, .float .f64 a0_5]] w fun e w' => e = .returned (.agg #[.int .i64 r1, .int .i64 r2, .int .u8 r3, .int .i64 r4, .int .i64 r5, .float .f64 r6]) ∧ Below w.heap.size w w' := by
  have hu26 := Try.underlying26; have hu35 := Try.underlying35; have HB := zB.mk (Below.refl w.heap.size w); have H : (some (wrap64 (1 + (wrap64 (a0_0))), wrap64 (1 + (wrap64 (Int.tmod a0_1 64))), Int.tmod a0_2 2, wrap64 (a0_3), wrap64 (a0_4), a0_5)) = some (r1, r2, r3, r4, r5, r6) := h
  clear h; simp only [Option.some.injEq, Prod.mk.injEq] at H; obtain ⟨rfl, rfl, rfl, rfl, rfl, rfl⟩ := H; go_enter Try.func12, Try.ntmps12
  go_wp2_with (first | ((with_reducible refine gate_dst (N := 1) rfl ?_); refine box_event ?hg (N := 1) ?hd (cs := #[.int .u8 a0_0, .int .u8 a0_1, .int .u8 a0_2, .int .u16 a0_3, .int .u16 a0_4, .float .f64 a0_5]) (t := 26) ?hr ?_; (case hd => rfl); (case hg => rfl); (case hr => first | (go_simp; done) | (go_simp; rfl)); intro gb225 hg w2 hbox hb; have n0_ := zB.mk (zO (by repeat (first | (with_reducible first | exact HB.out | apply zJ | apply zF | apply zH) | exact HB.out)) hb); have n1_ := zB.mk (hbox); have n2_ := zB.mk ((by rw [hg]; exact (zM (by repeat (first | (with_reducible first | exact HB.out | apply zJ | apply zF | apply zH) | exact HB.out))) : w.heap.size ≤ gb225)); have n3_ := zB.mk ((by rw [hg]; exact (zM (by repeat (first | (with_reducible first | exact HB.out | apply zJ | apply zF | apply zH) | exact HB.out))) : w.heap.size ≤ gb225)); clear HB; have HB := n0_; have BK225 := n1_; have GW225 := n2_; have GE225 := n3_; clear n0_ n1_ n2_ n3_; clear hb hbox hg) | ((with_reducible refine gate_dst (N := 2) rfl ?_); refine box_event ?hg (N := 2) ?hd (cs := #[.int .i64 0, .int .i64 0, .int .u8 0, .int .i64 0, .int .i64 0, .float .f64 0]) (t := 35) ?hr ?_; (case hd => rfl); (case hg => rfl); (case hr => first | (go_simp; done) | (go_simp; rfl)); intro gb226 hg w3 hbox hb; have n0_ := zB.mk (zK (g := gb225) (o := .cells #[.int .u8 a0_0, .int .u8 a0_1, .int .u8 a0_2, .int .u16 a0_3, .int .u16 a0_4, .float .f64 a0_5] 26 (0, 0)) (by (with_reducible repeat (first | refine zC ?_ _ | refine zD ?_ | refine zA ?_ _)); exact BK225.out) hb); have n1_ := zB.mk (zO (by repeat (first | (with_reducible first | exact HB.out | apply zJ | apply zF | apply zH | refine zE ?_ GE225.out) | exact HB.out)) hb); have n2_ := zB.mk (hbox); have n3_ := zB.mk ((by rw [hg]; exact (zM (by repeat (first | (with_reducible first | exact HB.out | apply zJ | apply zF | apply zH | refine zE ?_ GE225.out) | exact HB.out))) : w.heap.size ≤ gb226)); have n4_ := zB.mk ((by rw [hg]; exact (zM (by repeat (first | (with_reducible first | exact HB.out | apply zJ | apply zF | apply zH | refine zE ?_ GE225.out) | exact HB.out))) : w.heap.size ≤ gb226)); have n5_ := zB.mk ((by rw [hg]; exact Nat.ne_of_lt (blk_lt (g := gb225) (o := .cells #[.int .u8 a0_0, .int .u8 a0_1, .int .u8 a0_2, .int .u16 a0_3, .int .u16 a0_4, .float .f64 a0_5] 26 (0, 0)) (by (with_reducible repeat (first | refine zC ?_ _ | refine zD ?_ | refine zA ?_ _)); exact BK225.out)) : gb225 ≠ gb226)); have n6_ := zB.mk ((by rw [hg]; exact Nat.ne_of_gt (blk_lt (g := gb225) (o := .cells #[.int .u8 a0_0, .int .u8 a0_1, .int .u8 a0_2, .int .u16 a0_3, .int .u16 a0_4, .float .f64 a0_5] 26 (0, 0)) (by (with_reducible repeat (first | refine zC ?_ _ | refine zD ?_ | refine zA ?_ _)); exact BK225.out)) : gb226 ≠ gb225)); clear BK225; clear HB; have BK225 := n0_; have HB := n1_; have BK226 := n2_; have GW226 := n3_; have GE226 := n4_; have NB225_226 := n5_; have NB226_225 := n6_; clear n0_ n1_ n2_ n3_ n4_ n5_ n6_; clear hb hbox hg; have hnb4 := NB225_226.out; have hnc4 := NB226_225.out; have hcz5_0 : w3.cell? ⟨gb225, 0, none⟩ = some (.int .u8 a0_0) := (zG BK225.out 0).trans rfl; have hcz5_1 : w3.cell? ⟨gb225, 1, none⟩ = some (.int .u8 a0_1) := (zG BK225.out 1).trans rfl; have hcz5_2 : w3.cell? ⟨gb225, 2, none⟩ = some (.int .u8 a0_2) := (zG BK225.out 2).trans rfl; have hcz5_3 : w3.cell? ⟨gb225, 3, none⟩ = some (.int .u16 a0_3) := (zG BK225.out 3).trans rfl; have hcz5_4 : w3.cell? ⟨gb225, 4, none⟩ = some (.int .u16 a0_4) := (zG BK225.out 4).trans rfl; have hcz5_5 : w3.cell? ⟨gb225, 5, none⟩ = some (.float .f64 a0_5) := (zG BK225.out 5).trans rfl; have hfz5_0 := zI BK225.out 0; have hfz5_1 := zI BK225.out 1; have hfz5_2 := zI BK225.out 2; have hfz5_3 := zI BK225.out 3; have hfz5_4 := zI BK225.out 4; have hfz5_5 := zI BK225.out 5; have hcz6_0 : w3.cell? ⟨gb226, 0, none⟩ = some (.int .i64 0) := (zG BK226.out 0).trans rfl; have hcz6_1 : w3.cell? ⟨gb226, 1, none⟩ = some (.int .i64 0) := (zG BK226.out 1).trans rfl; have hcz6_2 : w3.cell? ⟨gb226, 2, none⟩ = some (.int .u8 0) := (zG BK226.out 2).trans rfl; have hcz6_3 : w3.cell? ⟨gb226, 3, none⟩ = some (.int .i64 0) := (zG BK226.out 3).trans rfl; have hcz6_4 : w3.cell? ⟨gb226, 4, none⟩ = some (.int .i64 0) := (zG BK226.out 4).trans rfl; have hcz6_5 : w3.cell? ⟨gb226, 5, none⟩ = some (.float .f64 0) := (zG BK226.out 5).trans rfl; have hfz6_0 := zI BK226.out 0; have hfz6_1 := zI BK226.out 1; have hfz6_2 := zI BK226.out 2; have hfz6_3 := zI BK226.out 3; have hfz6_4 := zI BK226.out 4; have hfz6_5 := zI BK226.out 5) | ((with_reducible refine gate_store (t := 35) (p := 2) rfl ?_); refine store_event (t := 35) (p := 2) (v := ?vo_w7) (w1 := ((((((w3.setCell ⟨gb226, 0, none⟩ (.int .i64 (wrap64 (1 + (wrap64 (a0_0)))))).setCell ⟨gb226, 1, none⟩ (.int .i64 (wrap64 (1 + (wrap64 (Int.tmod a0_1 64)))))).setCell ⟨gb226, 2, none⟩ (.int .u8 (Int.tmod a0_2 2))).setCell ⟨gb226, 3, none⟩ (.int .i64 (wrap64 (a0_3)))).setCell ⟨gb226, 4, none⟩ (.int .i64 (wrap64 (a0_4)))).setCell ⟨gb226, 5, none⟩ (.float .f64 a0_5))) ?hg ?ho ?hn ?hr ?_; (case ho => rfl); (case hg => rfl); (case hn => rfl); (case hr => first | (go_simp; done) | (go_simp; rfl)); intro w7 hw; have n0_ : zB (w7.heap[gb225]? = some (.cells #[.int .u8 a0_0, .int .u8 a0_1, .int .u8 a0_2, .int .u16 a0_3, .int .u16 a0_4, .float .f64 a0_5] 26 (0, 0))) := ⟨(by rw [hw]; exact (by (with_reducible repeat (first | refine zC ?_ _ | refine zD ?_ | refine zA ?_ _)); refine zN ?_ NB225_226.out _; (with_reducible repeat (first | refine zC ?_ _ | refine zD ?_ | refine zA ?_ _)); refine zN ?_ NB225_226.out _; (with_reducible repeat (first | refine zC ?_ _ | refine zD ?_ | refine zA ?_ _)); refine zN ?_ NB225_226.out _; (with_reducible repeat (first | refine zC ?_ _ | refine zD ?_ | refine zA ?_ _)); refine zN ?_ NB225_226.out _; (with_reducible repeat (first | refine zC ?_ _ | refine zD ?_ | refine zA ?_ _)); refine zN ?_ NB225_226.out _; (with_reducible repeat (first | refine zC ?_ _ | refine zD ?_ | refine zA ?_ _)); refine zN ?_ NB225_226.out _; (with_reducible repeat (first | refine zC ?_ _ | refine zD ?_ | refine zA ?_ _)); exact BK225.out))⟩; have n1_ : zB (w7.heap[gb226]? = some (.cells #[.int .i64 (wrap64 (1 + (wrap64 (a0_0)))), .int .i64 (wrap64 (1 + (wrap64 (Int.tmod a0_1 64)))), .int .u8 (Int.tmod a0_2 2), .int .i64 (wrap64 (a0_3)), .int .i64 (wrap64 (a0_4)), .float .f64 a0_5] 35 (0, 0))) := ⟨(by rw [hw]; exact (by (with_reducible repeat (first | refine zC ?_ _ | refine zD ?_ | refine zA ?_ _)); refine blk_put (cs := #[.int .i64 (wrap64 (1 + (wrap64 (a0_0)))), .int .i64 (wrap64 (1 + (wrap64 (Int.tmod a0_1 64)))), .int .u8 (Int.tmod a0_2 2), .int .i64 (wrap64 (a0_3)), .int .i64 (wrap64 (a0_4)), .float .f64 0]) ?_ 5 _ rfl; (with_reducible repeat (first | refine zC ?_ _ | refine zD ?_ | refine zA ?_ _)); refine blk_put (cs := #[.int .i64 (wrap64 (1 + (wrap64 (a0_0)))), .int .i64 (wrap64 (1 + (wrap64 (Int.tmod a0_1 64)))), .int .u8 (Int.tmod a0_2 2), .int .i64 (wrap64 (a0_3)), .int .i64 0, .float .f64 0]) ?_ 4 _ rfl; (with_reducible repeat (first | refine zC ?_ _ | refine zD ?_ | refine zA ?_ _)); refine blk_put (cs := #[.int .i64 (wrap64 (1 + (wrap64 (a0_0)))), .int .i64 (wrap64 (1 + (wrap64 (Int.tmod a0_1 64)))), .int .u8 (Int.tmod a0_2 2), .int .i64 0, .int .i64 0, .float .f64 0]) ?_ 3 _ rfl; (with_reducible repeat (first | refine zC ?_ _ | refine zD ?_ | refine zA ?_ _)); refine blk_put (cs := #[.int .i64 (wrap64 (1 + (wrap64 (a0_0)))), .int .i64 (wrap64 (1 + (wrap64 (Int.tmod a0_1 64)))), .int .u8 0, .int .i64 0, .int .i64 0, .float .f64 0]) ?_ 2 _ rfl; (with_reducible repeat (first | refine zC ?_ _ | refine zD ?_ | refine zA ?_ _)); refine blk_put (cs := #[.int .i64 (wrap64 (1 + (wrap64 (a0_0)))), .int .i64 0, .int .u8 0, .int .i64 0, .int .i64 0, .float .f64 0]) ?_ 1 _ rfl; (with_reducible repeat (first | refine zC ?_ _ | refine zD ?_ | refine zA ?_ _)); refine blk_put (cs := #[.int .i64 0, .int .i64 0, .int .u8 0, .int .i64 0, .int .i64 0, .float .f64 0]) ?_ 0 _ rfl; (with_reducible repeat (first | refine zC ?_ _ | refine zD ?_ | refine zA ?_ _)); exact BK226.out))⟩; have n2_ : zB (Below w.heap.size w w7) := ⟨(by rw [hw]; exact (by repeat (first | (with_reducible first | exact HB.out | apply zJ | apply zF | apply zH | refine zE ?_ GE225.out | refine zE ?_ GE226.out) | exact HB.out)))⟩; clear hw; clear BK225; clear BK226; clear HB; have BK225 := n0_; have BK226 := n1_; have HB := n2_; clear n0_ n1_ n2_))
  refine bodyPost_ret (results_cell_row rfl _ _ gb226 35 #[.int .i64 (wrap64 (1 + (wrap64 (a0_0)))), .int .i64 (wrap64 (1 + (wrap64 (Int.tmod a0_1 64)))), .int .u8 (Int.tmod a0_2 2), .int .i64 (wrap64 (a0_3)), .int .i64 (wrap64 (a0_4)), .float .f64 a0_5] (0, 0) _ rfl (by (with_reducible repeat (first | refine zC ?_ _ | refine zD ?_ | refine zA ?_ _)); exact BK226.out) Try.underlying35 rfl (by kernel_rfl)) rfl ?_
  exact ⟨by first | rfl | (simp [errW_none, errW_some] <;> rfl) | (simp [*, errW_none, errW_some] <;> rfl), by repeat (first | (with_reducible first | exact HB.out | apply zJ | apply zF | apply zH | refine zE ?_ GE225.out | refine zE ?_ GE226.out) | exact HB.out)⟩
end Go.Proofs.Ytlgclhhkgohanaa.F
end
section
namespace Go.Proofs.Ytlgclhhkgohanaa.F
open Go.RowKit Go.Proofs.YtlgclhhkgohanaaW.PrintWords Go.Proofs.YtlgclhhkgohanaaW.PrintLast Go.Proofs.YtlgclhhkgohanaaW.PrintMore
attribute [local go_sem] max2_int min2_int max_two min_two max_three min_three max_four min_four   -- for this text's walks alone
set_option linter.unusedVariables false
set_option linter.unusedSimpArgs false
def stanzaref13_Next.l0 : Nat → Int → Int → Option (Int)
  | 0, _, _ => none
  | k + 1, x2, x7 => if x2 = 0 then (none) else (if (Int.tmod x7 x2) = 0 then (some x7) else (stanzaref13_Next.l0 k x2 (wrap64 (x7 + 1))))
def stanzaref13_Next.f (k : Nat) (a0_0 : Int) (a0_1 : Int) (a0_2 : Int) (a0_3 : Int) (a1 : Int) (a2 : Int) : Option (Int) := if a0_3 = 2 then (stanzaref13_Next.l0 k a2 (wrap64 (a1 + 1))) else (some (wrap64 (a1 + a0_2)))
theorem stanzaref13_Next.mono_l : ∀ k, (∀ y0 y1, LeO (stanzaref13_Next.l0 k y0 y1) (stanzaref13_Next.l0 (k + 1) y0 y1))
  | 0 => fun _ _ r h => by simp [stanzaref13_Next.l0] at h
  | k + 1 => by
    have ih0 := stanzaref13_Next.mono_l k
    · intro y0 y1
      unfold stanzaref13_Next.l0
      repeat' first
      | (with_reducible exact ih0 _ _)
      | (with_reducible exact LeO.refl _)
      | (with_reducible exact LeO.none _)
      | (with_reducible refine LeO.ite ?_ ?_)
      | (with_reducible refine LeO.bind ?_ (fun _ => ?_))
      | exact ih0 _ _
      | exact LeO.none _
      | refine LeO.ite ?_ ?_
      | refine LeO.bind ?_ (fun _ => ?_)
theorem stanzaref13_Next.mono : ∀ a0 a1 a2 a3 a4 a5 k, LeO (stanzaref13_Next.f k a0 a1 a2 a3 a4 a5) (stanzaref13_Next.f (k + 1) a0 a1 a2 a3 a4 a5) := by
  intro a0 a1 a2 a3 a4 a5 k
  have ih0 := stanzaref13_Next.mono_l k; unfold stanzaref13_Next.f
  repeat' first
      | (with_reducible exact ih0 _ _)
      | (with_reducible exact LeO.refl _)
      | (with_reducible exact LeO.none _)
      | (with_reducible refine LeO.ite ?_ ?_)
      | (with_reducible refine LeO.bind ?_ (fun _ => ?_))
      | exact ih0 _ _
      | exact LeO.none _
      | refine LeO.ite ?_ ?_
      | refine LeO.bind ?_ (fun _ => ?_)
set_option maxHeartbeats 8000000 in
set_option maxRecDepth 100000 in
theorem stanzaref13_Next.calls (k : Nat) (a0_0 : Int) (a0_1 : Int) (a0_2 : Int) (a0_3 : Int) (a1 : Int) (a2 : Int) (r : Int) (w : World) (h : stanzaref13_Next.f k a0_0 a0_1 a0_2 a0_3 a1 a2 = some r) :
    Calls Try.prog 39 #[.agg #[.int .i64 a0_0, .int .i64 a0_1, .int .i64 a0_2, .int .u8 a0_3], .int .i64 a1, .int .i64 a2] w fun e w' => e = .returned (.int .i64 r) ∧ Below w.heap.size w w' := by
  have hu62 := Try.underlying62; have HB := zB.mk (Below.refl w.heap.size w); have H : (if a0_3 = 2 then (stanzaref13_Next.l0 k a2 (wrap64 (a1 + 1))) else (some (wrap64 (a1 + a0_2)))) = some r := h
  clear h; by_cases c4 : a0_3 = 2
  rotate_left
  · rw [if_neg c4] at H
    have c4b0 : (a0_3 == 2) = false := beq_eq_false_iff_ne.mpr c4
    have c4b1 : (a0_3 != 2) = true := bne_iff_ne.mpr c4
    obtain rfl := Option.some.inj H
    go_enter Try.func39, Try.ntmps39
    go_wp2_with (first | ((with_reducible refine gate_dst (N := 3) rfl ?_); refine box_event ?hg (N := 3) ?hd (cs := #[.int .i64 a0_0, .int .i64 a0_1, .int .i64 a0_2, .int .u8 a0_3]) (t := 62) ?hr ?_; (case hd => rfl); (case hg => rfl); (case hr => first | (go_simp; done) | (go_simp; rfl)); intro gb232 hg w9 hbox hb; have n0_ := zB.mk (zO (by repeat (first | (with_reducible first | exact HB.out | apply zJ | apply zF | apply zH) | exact HB.out)) hb); have n1_ := zB.mk (hbox); have n2_ := zB.mk ((by rw [hg]; exact (zM (by repeat (first | (with_reducible first | exact HB.out | apply zJ | apply zF | apply zH) | exact HB.out))) : w.heap.size ≤ gb232)); have n3_ := zB.mk ((by rw [hg]; exact (zM (by repeat (first | (with_reducible first | exact HB.out | apply zJ | apply zF | apply zH) | exact HB.out))) : w.heap.size ≤ gb232)); clear HB; have HB := n0_; have BK232 := n1_; have GW232 := n2_; have GE232 := n3_; clear n0_ n1_ n2_ n3_; clear hb hbox hg; have hcz10_0 : w9.cell? ⟨gb232, 0, none⟩ = some (.int .i64 a0_0) := (zG BK232.out 0).trans rfl; have hcz10_1 : w9.cell? ⟨gb232, 1, none⟩ = some (.int .i64 a0_1) := (zG BK232.out 1).trans rfl; have hcz10_2 : w9.cell? ⟨gb232, 2, none⟩ = some (.int .i64 a0_2) := (zG BK232.out 2).trans rfl; have hcz10_3 : w9.cell? ⟨gb232, 3, none⟩ = some (.int .u8 a0_3) := (zG BK232.out 3).trans rfl; have hfz10_0 := zI BK232.out 0; have hfz10_1 := zI BK232.out 1; have hfz10_2 := zI BK232.out 2; have hfz10_3 := zI BK232.out 3))
    go_ret
    exact ⟨by first | rfl | (simp [errW_none, errW_some] <;> rfl) | (simp [*, errW_none, errW_some] <;> rfl), by repeat (first | (with_reducible first | exact HB.out | apply zJ | apply zF | apply zH | refine zE ?_ GE232.out) | exact HB.out)⟩
  rw [if_pos c4] at H; have c4b0 : (a0_3 == 2) = true := beq_iff_eq.mpr c4
  have c4b1 : (a0_3 != 2) = false := bne_eq_false_iff_eq.mpr c4
  clear c4; have H' := zB.mk H
  clear H; go_enter Try.func39, Try.ntmps39
  go_wp2_with (first | ((with_reducible refine gate_dst (N := 3) rfl ?_); refine box_event ?hg (N := 3) ?hd (cs := #[.int .i64 a0_0, .int .i64 a0_1, .int .i64 a0_2, .int .u8 a0_3]) (t := 62) ?hr ?_; (case hd => rfl); (case hg => rfl); (case hr => first | (go_simp; done) | (go_simp; rfl)); intro gb232 hg w5 hbox hb; have n0_ := zB.mk (zO (by repeat (first | (with_reducible first | exact HB.out | apply zJ | apply zF | apply zH) | exact HB.out)) hb); have n1_ := zB.mk (hbox); have n2_ := zB.mk ((by rw [hg]; exact (zM (by repeat (first | (with_reducible first | exact HB.out | apply zJ | apply zF | apply zH) | exact HB.out))) : w.heap.size ≤ gb232)); have n3_ := zB.mk ((by rw [hg]; exact (zM (by repeat (first | (with_reducible first | exact HB.out | apply zJ | apply zF | apply zH) | exact HB.out))) : w.heap.size ≤ gb232)); clear HB; have HB := n0_; have BK232 := n1_; have GW232 := n2_; have GE232 := n3_; clear n0_ n1_ n2_ n3_; clear hb hbox hg; have hcz6_0 : w5.cell? ⟨gb232, 0, none⟩ = some (.int .i64 a0_0) := (zG BK232.out 0).trans rfl; have hcz6_1 : w5.cell? ⟨gb232, 1, none⟩ = some (.int .i64 a0_1) := (zG BK232.out 1).trans rfl; have hcz6_2 : w5.cell? ⟨gb232, 2, none⟩ = some (.int .i64 a0_2) := (zG BK232.out 2).trans rfl; have hcz6_3 : w5.cell? ⟨gb232, 3, none⟩ = some (.int .u8 a0_3) := (zG BK232.out 3).trans rfl; have hfz6_0 := zI BK232.out 0; have hfz6_1 := zI BK232.out 1; have hfz6_2 := zI BK232.out 2; have hfz6_3 := zI BK232.out 3))
  go_loopg [7] k (fun kq v7 w' => ∃ (x7_1 : Int), v7 = .int .i64 x7_1 ∧ zB (stanzaref13_Next.l0 kq a2 x7_1 = some r) ∧ zB (kq ≤ k) ∧ zB (w'.heap[gb232]? = some (.cells #[.int .i64 a0_0, .int .i64 a0_1, .int .i64 a0_2, .int .u8 a0_3] 62 (0, 0))) ∧ zB (Below w.heap.size w w'))
  case atStart => exact ⟨(wrap64 (a1 + 1)), (by first | rfl | (simp; done) | (simp [*]; done)), H', ⟨Nat.le_refl _⟩, ⟨by (with_reducible repeat (first | refine zC ?_ _ | refine zD ?_ | refine zA ?_ _)); exact BK232.out⟩, ⟨by repeat (first | (with_reducible first | exact HB.out | apply zJ | apply zF | apply zH | refine zE ?_ GE232.out) | exact HB.out)⟩⟩
  clear H'; try clear p2
  try clear c3
  try clear c4
  try clear c4b0
  try clear c4b1
  try clear p6
  try clear hcz6_0
  try clear hcz6_1
  try clear hcz6_2
  try clear hcz6_3
  try clear hfz6_0
  try clear hfz6_1
  try clear hfz6_2
  try clear hfz6_3
  obtain ⟨x7_1, rfl, HA, HK1, BK232, HB⟩ := hrel; cases gk with
  | zero => exact absurd HA.out (by simp [stanzaref13_Next.l0])
  | succ k1 =>
    have H := HA.out; clear HA; simp only [stanzaref13_Next.l0] at H; by_cases c7 : a2 = 0
    · rw [if_pos c7] at H
      exact absurd H (by simp)
    rw [if_neg c7] at H; have c7b0 : (a2 == 0) = false := beq_eq_false_iff_ne.mpr c7
    have c7b1 : (a2 != 0) = true := bne_iff_ne.mpr c7
    by_cases c8 : (Int.tmod x7_1 a2) = 0
    · rw [if_pos c8] at H
      have c8b0 : ((Int.tmod x7_1 a2) == 0) = true := beq_iff_eq.mpr c8
      have c8b1 : ((Int.tmod x7_1 a2) != 0) = false := bne_eq_false_iff_eq.mpr c8
      clear c8; obtain rfl := Option.some.inj H
      go_wp2
      go_ret
      exact ⟨by first | rfl | (simp [errW_none, errW_some] <;> rfl) | (simp [*, errW_none, errW_some] <;> rfl), by repeat (first | (with_reducible first | exact HB.out | apply zJ | apply zF | apply zH | refine zE ?_ GE232.out) | exact HB.out)⟩
    rw [if_neg c8] at H; have c8b0 : ((Int.tmod x7_1 a2) == 0) = false := beq_eq_false_iff_ne.mpr c8
    have c8b1 : ((Int.tmod x7_1 a2) != 0) = true := bne_iff_ne.mpr c8
    have H' := zB.mk H
    clear H; go_wp2
    go_roundg k1
    case measure => have := HK1.out; omega
    case rel => exact ⟨(wrap64 (x7_1 + 1)), (by first | rfl | (simp; done) | (simp [*]; done)), H', ⟨by have := HK1.out; omega⟩, ⟨by (with_reducible repeat (first | refine zC ?_ _ | refine zD ?_ | refine zA ?_ _)); exact BK232.out⟩, ⟨by repeat (first | (with_reducible first | exact HB.out | apply zJ | apply zF | apply zH | refine zE ?_ GE232.out) | exact HB.out)⟩⟩
end Go.Proofs.Ytlgclhhkgohanaa.F
end
section
namespace Go.Proofs.Ytlgclhhkgohanaa.F
open Go.RowKit Go.Proofs.YtlgclhhkgohanaaW.PrintWords Go.Proofs.YtlgclhhkgohanaaW.PrintLast Go.Proofs.YtlgclhhkgohanaaW.PrintMore
attribute [local go_sem] max2_int min2_int max_two min_two max_three min_three max_four min_four   -- for this text's walks alone
set_option linter.unusedVariables false
set_option linter.unusedSimpArgs false
def stanzaref13_Columns.l0 : Nat → Int → Int → Int → List Int → Int → List (S62) → List Int → Option (List Int)
  | 0, _, _, _, _, _, _, _ => none
  | k + 1, x2, x3, x9, x10, x11, x234000, x234001 => if x11 < x2 then (if 0 ≤ x11 then (if x11 < (x234000.length : Int) then ((stanzaref13_Next.f k ((rd_T62 x234000 x11).f0) ((rd_T62 x234000 x11).f1) ((rd_T62 x234000 x11).f2) ((rd_T62 x234000 x11).f3) x9 x3).bind fun t238 => (if x10.length < 17592186044416 then (stanzaref13_Columns.l0 k x2 x3 t238 (x10 ++ [t238]) (wrap64 (x11 + 1)) x234000 x234001) else (none))) else (none)) else (none)) else (some x10)
def stanzaref13_Columns.f (k : Nat) (l0_0 : List (S62)) (l0_1 : List Int) (a1 : Int) (a2 : Int) (a3 : Int) : Option (List Int) := stanzaref13_Columns.l0 k a2 a3 0 (([0] : List Int)) a1 l0_0 l0_1
theorem stanzaref13_Columns.mono_l : ∀ k, (∀ y0 y1 y2 y3 y4 y5 y6, LeO (stanzaref13_Columns.l0 k y0 y1 y2 y3 y4 y5 y6) (stanzaref13_Columns.l0 (k + 1) y0 y1 y2 y3 y4 y5 y6))
  | 0 => fun _ _ _ _ _ _ _ r h => by simp [stanzaref13_Columns.l0] at h
  | k + 1 => by
    have ih0 := stanzaref13_Columns.mono_l k
    · intro y0 y1 y2 y3 y4 y5 y6
      unfold stanzaref13_Columns.l0
      repeat' first
      | (with_reducible exact ih0 _ _ _ _ _ _ _)
      | (with_reducible exact stanzaref13_Next.mono _ _ _ _ _ _ _)
      | (with_reducible exact LeO.refl _)
      | (with_reducible exact LeO.none _)
      | (with_reducible refine LeO.ite ?_ ?_)
      | (with_reducible refine LeO.bind ?_ (fun _ => ?_))
      | exact ih0 _ _ _ _ _ _ _
      | exact stanzaref13_Next.mono _ _ _ _ _ _ _
      | exact LeO.none _
      | refine LeO.ite ?_ ?_
      | refine LeO.bind ?_ (fun _ => ?_)
theorem stanzaref13_Columns.mono : ∀ a0 a1 a2 a3 a4 k, LeO (stanzaref13_Columns.f k a0 a1 a2 a3 a4) (stanzaref13_Columns.f (k + 1) a0 a1 a2 a3 a4) := by
  intro a0 a1 a2 a3 a4 k
  have ih0 := stanzaref13_Columns.mono_l k; unfold stanzaref13_Columns.f
  repeat' first
      | (with_reducible exact ih0 _ _ _ _ _ _ _)
      | (with_reducible exact stanzaref13_Next.mono _ _ _ _ _ _ _)
      | (with_reducible exact LeO.refl _)
      | (with_reducible exact LeO.none _)
      | (with_reducible refine LeO.ite ?_ ?_)
      | (with_reducible refine LeO.bind ?_ (fun _ => ?_))
      | exact ih0 _ _ _ _ _ _ _
      | exact stanzaref13_Next.mono _ _ _ _ _ _ _
      | exact LeO.none _
      | refine LeO.ite ?_ ?_
      | refine LeO.bind ?_ (fun _ => ?_)
set_option maxHeartbeats 8000000 in
set_option maxRecDepth 100000 in
theorem stanzaref13_Columns.calls (k : Nat) (A0_0 : Option Addr) (c0_0 : Nat) (l0_0 : List (S62)) (A0_1 : Option Addr) (c0_1 : Nat) (l0_1 : List Int) (a1 : Int) (a2 : Int) (a3 : Int) (r : List Int) (w : World) (hr0_0 : Kd.C k62 w A0_0 l0_0.length l0_0) (hc0_0 : l0_0.length ≤ c0_0) (hr0_1 : Kd.C (Kd.int .u8) w A0_1 l0_1.length l0_1) (hc0_1 : l0_1.length ≤ c0_1) (h : stanzaref13_Columns.f k l0_0 l0_1 a1 a2 a3 = some r) :
    Calls Try.prog 28 #[.agg #[.slice A0_0 l0_0.length c0_0, .slice A0_1 l0_1.length c0_1], .int .i64 a1, .int .i64 a2, .int .i64 a3] w fun e w' => ∃ v0_ : Value, e = .returned (v0_) ∧ Kd.R (Kd.int .i64) 3 w' w.heap.size (fun _ => True) v0_ r ∧ Below w.heap.size w w' := by
  have hu31 := Try.underlying31; have hu62 := Try.underlying62; have HR0_0 := zB.mk hr0_0; have HC0_0 := zB.mk hc0_0; clear hr0_0 hc0_0; have HR0_1 := zB.mk hr0_1; have HC0_1 := zB.mk hc0_1; clear hr0_1 hc0_1; have HB := zB.mk (Below.refl w.heap.size w); have H : (stanzaref13_Columns.l0 k a2 a3 0 (([0] : List Int)) a1 l0_0 l0_1) = some r := h
  clear h; obtain ⟨y234, hy234⟩ : ∃ y_ : List Int, y_ = (([0] : List Int)) := ⟨_, rfl⟩; replace H : (stanzaref13_Columns.l0 k a2 a3 0 y234 a1 l0_0 l0_1) = some r := by first | (rw [hy234]; with_reducible exact H) | (have H2_ := (Option.bind_some _ _).symm.trans H; rw [hy234]; with_reducible exact H2_) | (have H2_ := (Option.bind_some _ _).symm.trans H; with_reducible exact H2_) | with_reducible exact H | (rw [hy234]; exact H) | exact H
  have Ny234 := zB.mk hy234; clear hy234; have H' := zB.mk H
  clear H; go_enter Try.func28, Try.ntmps28
  go_wp2_with (first | ((with_reducible refine gate_dst (N := 4) rfl ?_); refine box_event ?hg (N := 4) ?hd (cs := #[.slice A0_0 l0_0.length c0_0, .slice A0_1 l0_1.length c0_1]) (t := 31) ?hr ?_; (case hd => rfl); (case hg => rfl); (case hr => first | (go_simp; done) | (go_simp; rfl)); intro gb233 hg w5 hbox hb; have n0_ := zB.mk (zO (by repeat (first | (with_reducible first | exact HB.out | apply zJ | apply zF | apply zH) | exact HB.out)) hb); have n1_ := zB.mk (hbox); have n2_ := zB.mk ((by rw [hg]; exact (zM (by repeat (first | (with_reducible first | exact HB.out | apply zJ | apply zF | apply zH) | exact HB.out))) : w.heap.size ≤ gb233)); have n3_ := zB.mk ((by rw [hg]; exact (zM (by repeat (first | (with_reducible first | exact HB.out | apply zJ | apply zF | apply zH) | exact HB.out))) : w.heap.size ≤ gb233)); clear HB; have HB := n0_; have BK233 := n1_; have GW233 := n2_; have GE233 := n3_; clear n0_ n1_ n2_ n3_; clear hb hbox hg) | ((with_reducible refine gate_dst (N := 12) rfl ?_); refine Kd.R_lit (Kd.int .i64) _ 3 ?hg (N := 12) ?hd (xs := ([0] : List Int)) (inner := [.int .i64 0]) (ok := fun _ => True) (okp := fun _ => True) ?hr ?hp (fun _ hk => hk) trivial (Below.refl _ _) (Nat.le_refl _) (by simp) ?_; (case hd => rfl); (case hg => rfl); (case hr => first | (go_simp; done) | (go_simp; rfl)); (case hp => exact (Reps.one (show Kd.M (Kd.int .i64) _ _ _ 0 [.int .i64 0] from rfl) (Reps.none _ _))); intro v235 w6 ho7 hb hg_ hnew_; clear hg_ hnew_; (first | rw [← Ny234.out] at ho7 | (simp only [Int.reduceToNat] at ho7; rw [← Ny234.out] at ho7)); have n0_ := zB.mk (Kd.R_lower ho7 (zM (by repeat (first | (with_reducible first | exact HB.out | apply zJ | apply zF | apply zH | refine zE ?_ GE233.out) | exact HB.out)))); have n1_ := zB.mk (zK (g := gb233) (o := .cells #[.slice A0_0 l0_0.length c0_0, .slice A0_1 l0_1.length c0_1] 31 (0, 0)) (by (with_reducible repeat (first | refine zC ?_ _ | refine zD ?_ | refine zA ?_ _)); exact BK233.out) hb); have n2_ := zB.mk (zO (by repeat (first | (with_reducible first | exact HB.out | apply zJ | apply zF | apply zH | refine zE ?_ GE233.out) | exact HB.out)) hb); clear BK233; clear HB; have HO236 := n0_; have BK233 := n1_; have HB := n2_; clear n0_ n1_ n2_; clear hb ho7))
  go_loopg [9, 10, 11] k (fun kq v9 v10 v11 w' => ∃ (x9_1 : Int) (x10_1 : List Int) (x11_1 : Int), v9 = .int .i64 x9_1 ∧ v11 = .int .i64 x11_1 ∧ zB (stanzaref13_Columns.l0 kq a2 a3 x9_1 x10_1 x11_1 l0_0 l0_1 = some r) ∧ zB (kq ≤ k) ∧ zB (Kd.R (Kd.int .i64) 3 w' w.heap.size (fun _ => True) v10 x10_1) ∧ zB (w'.heap[gb233]? = some (.cells #[(.slice A0_0 l0_0.length c0_0), (.slice A0_1 l0_1.length c0_1)] 31 (0, 0))) ∧ zB (Below w.heap.size w w'))
  case atStart => exact ⟨(0), (y234), (a1), (by first | rfl | (simp; done) | (simp [*]; done)), (by first | rfl | (simp; done) | (simp [*]; done)), H', ⟨Nat.le_refl _⟩, ⟨by (with_reducible repeat (first | apply Kd.R_alloc | apply Kd.R_drewN | apply Kd.R_drew)); exact HO236.out⟩, ⟨by (with_reducible repeat (first | refine zC ?_ _ | refine zD ?_ | refine zA ?_ _)); exact BK233.out⟩, ⟨by repeat (first | (with_reducible first | exact HB.out | apply zJ | apply zF | apply zH | refine zE ?_ GE233.out) | exact HB.out)⟩⟩
  clear H'; try clear c2
  try clear p2
  obtain ⟨x9_1, x10_1, x11_1, rfl, rfl, HA, HK1, HO_10, BK233, HB⟩ := hrel; cases gk with
  | zero => exact absurd HA.out (by simp [stanzaref13_Columns.l0])
  | succ k1 =>
    have H := HA.out; clear HA; simp only [stanzaref13_Columns.l0] at H; by_cases c8 : x11_1 < a2
    rotate_left
    · rw [if_neg c8] at H
      have c8b0 : decide (x11_1 < a2) = false := decide_eq_false c8
      clear c8; obtain rfl := Option.some.inj H
      go_wp2
      go_ret
      exact ⟨_, by first | rfl | (simp [errW_none, errW_some] <;> rfl) | (simp [*, errW_none, errW_some] <;> rfl), by (with_reducible repeat (first | apply Kd.R_alloc | apply Kd.R_drewN | apply Kd.R_drew)); exact HO_10.out, by repeat (first | (with_reducible first | exact HB.out | apply zJ | apply zF | apply zH | refine zE ?_ GE233.out) | exact HB.out)⟩
    rw [if_pos c8] at H; have c8b0 : decide (x11_1 < a2) = true := decide_eq_true c8
    clear c8; by_cases c9 : 0 ≤ x11_1
    rotate_left
    · rw [if_neg c9] at H
      exact absurd H (by simp)
    rw [if_pos c9] at H; have c9b0 : decide (0 ≤ x11_1) = true := decide_eq_true c9
    clear c9; by_cases c10 : x11_1 < (l0_0.length : Int)
    rotate_left
    · rw [if_neg c10] at H
      exact absurd H (by simp)
    rw [if_pos c10] at H; have c10b0 : decide (x11_1 < (l0_0.length : Int)) = true := decide_eq_true c10
    clear c10; replace H := Option.bind_eq_some_iff.mp H; obtain ⟨t238, A110, H⟩ := H; replace H : (if x10_1.length < 17592186044416 then (stanzaref13_Columns.l0 k1 a2 a3 t238 (x10_1 ++ [t238]) (wrap64 (x11_1 + 1)) l0_0 l0_1) else (none)) = some r := H; have A11 := zB.mk A110; clear A110; by_cases c12 : x10_1.length < 17592186044416
    rotate_left
    · rw [if_neg c12] at H
      exact absurd H (by simp)
    rw [if_pos c12] at H; have LMc12 := zB.mk c12; clear c12; obtain ⟨y239, hy239⟩ : ∃ y_ : List Int, y_ = (x10_1 ++ [t238]) := ⟨_, rfl⟩; replace H : (stanzaref13_Columns.l0 k1 a2 a3 t238 y239 (wrap64 (x11_1 + 1)) l0_0 l0_1) = some r := by first | (rw [hy239]; with_reducible exact H) | (have H2_ := (Option.bind_some _ _).symm.trans H; rw [hy239]; with_reducible exact H2_) | (have H2_ := (Option.bind_some _ _).symm.trans H; with_reducible exact H2_) | with_reducible exact H | (rw [hy239]; exact H) | exact H
    have Ny239 := zB.mk hy239; clear hy239; have H' := zB.mk H
    clear H; have hcz13_0 : wr.cell? ⟨gb233, 0, none⟩ = some (.slice A0_0 l0_0.length c0_0) := (zG BK233.out 0).trans rfl
    have hcz13_1 : wr.cell? ⟨gb233, 1, none⟩ = some (.slice A0_1 l0_1.length c0_1) := (zG BK233.out 1).trans rfl
    have hfz13_0 := zI BK233.out 0; have hfz13_1 := zI BK233.out 1; have p237 : 0 ≤ (x11_1 : Int) := of_decide_eq_true (by first | (with_reducible assumption) | assumption)
    have q237 : x11_1 < (l0_0.length : Int) := of_decide_eq_true (by first | (with_reducible assumption) | assumption)
    obtain ⟨ad237, e237, hx237_0, hx237_1, hx237_2, hx237_3⟩ := at_T62 HR0_0.out x11_1 p237 q237; cases e237
    replace hx237_0 := (HB.out.cell (World.block_lt_of_cell? w _ hx237_0)).trans hx237_0; replace hx237_1 := (HB.out.cell (World.block_lt_of_cell? w _ hx237_1)).trans hx237_1; replace hx237_2 := (HB.out.cell (World.block_lt_of_cell? w _ hx237_2)).trans hx237_2; replace hx237_3 := (HB.out.cell (World.block_lt_of_cell? w _ hx237_3)).trans hx237_3; replace p237 := eq_true p237; replace q237 := eq_true q237; go_wp2_with (first | ((with_reducible refine gate_callee (f := 39) rfl ?_); refine goesL_ (some 26) rfl rfl Try.func39 (by kernel_rfl) rfl #[.agg #[.int .i64 ((rd_T62 l0_0 x11_1).f0), .int .i64 ((rd_T62 l0_0 x11_1).f1), .int .i64 ((rd_T62 l0_0 x11_1).f2), .int .u8 ((rd_T62 l0_0 x11_1).f3)], .int .i64 x9_1, .int .i64 a3] rfl (by (try simp only [List.map_toArray, List.map_cons, List.map_nil]); first | done | rfl | (simp only [List.length_drop, List.length_take]; rfl)) ?_; (with_reducible refine (stanzaref13_Next.calls k1 ((rd_T62 l0_0 x11_1).f0) ((rd_T62 l0_0 x11_1).f1) ((rd_T62 l0_0 x11_1).f2) ((rd_T62 l0_0 x11_1).f3) x9_1 a3 t238 _ A11.out).mono ?_); rintro e w14 ⟨rfl, hb⟩; refine ⟨_, rfl, ?_⟩; have n0_ := zB.mk (Kd.R_below (by (with_reducible repeat (first | apply Kd.R_alloc | apply Kd.R_drewN | apply Kd.R_drew)); exact HO_10.out) hb); have n1_ := zB.mk (zK (g := gb233) (o := .cells #[.slice (some ad237) l0_0.length c0_0, .slice A0_1 l0_1.length c0_1] 31 (0, 0)) (by (with_reducible repeat (first | refine zC ?_ _ | refine zD ?_ | refine zA ?_ _)); exact BK233.out) hb); have n2_ := zB.mk (zO (by repeat (first | (with_reducible first | exact HB.out | apply zJ | apply zF | apply zH | refine zE ?_ GE233.out) | exact HB.out)) hb); clear HO_10; clear BK233; clear HB; have HO_10 := n0_; have BK233 := n1_; have HB := n2_; clear n0_ n1_ n2_; (try clear hb); (try clear hb2); (try clear hk); (try clear hi)) | ((with_reducible refine gate_builtin (b := .append) (xs := #[.tmp 27, .tmp 29]) rfl ?_); at_builtin; refine Kd.R_append (Kd.int .i64) (w0 := w) w.heap.size rfl (.tmp 27) (.tmp 29) 37 3 (.int .i64 0) 8 rfl Try.underlying37 info3 rfl (by decide) (by omega) u10 x10_1 t238 [.int .i64 t238] (fun _ => True) (fun _ => False) rfl rfl ?aP (fun _ hk => hk.elim) ?aF ?aO ?aB ?aS ?aL ?_; (case aP => exact rfl); (case aB => exact (by repeat (first | (with_reducible first | exact HB.out | apply zJ | apply zF | apply zH | refine zE ?_ GE233.out) | exact HB.out))); (case aF => exact (fun _ _ => trivial)); (case aO => exact (by (with_reducible repeat (first | apply Kd.R_alloc | apply Kd.R_drewN | apply Kd.R_drew)); exact HO_10.out)); (case aS => exact (zM (by repeat (first | (with_reducible first | exact HB.out | apply zJ | apply zF | apply zH | refine zE ?_ GE233.out) | exact HB.out)))); (case aL => have := LMc12.out; omega); intro v240 w15 ho hb hg hat; rw [← Ny239.out] at ho; have n0_ := zB.mk (blk_grown (g := gb233) (o := .cells #[.slice (some ad237) l0_0.length c0_0, .slice A0_1 l0_1.length c0_1] 31 (0, 0)) (by (with_reducible repeat (first | refine zC ?_ _ | refine zD ?_ | refine zA ?_ _)); exact BK233.out) hg (Kd.R_ne HO_10.out BK233.out (by decide))); have n1_ := zB.mk (hb); have n2_ := zB.mk (ho); clear BK233; clear HB; clear HO_10; have BK233 := n0_; have HB := n1_; have HO241 := n2_; clear n0_ n1_ n2_; clear ho hb hg hat))
    go_roundg k1
    case measure => have := HK1.out; omega
    case rel => exact ⟨(t238), (y239), (wrap64 (x11_1 + 1)), (by first | rfl | (simp; done) | (simp [*]; done)), (by first | rfl | (simp; done) | (simp [*]; done)), H', ⟨by have := HK1.out; omega⟩, ⟨by (with_reducible repeat (first | apply Kd.R_alloc | apply Kd.R_drewN | apply Kd.R_drew)); exact HO241.out⟩, ⟨by (with_reducible repeat (first | refine zC ?_ _ | refine zD ?_ | refine zA ?_ _)); exact BK233.out⟩, ⟨by repeat (first | (with_reducible first | exact HB.out | apply zJ | apply zF | apply zH | refine zE ?_ GE233.out) | exact HB.out)⟩⟩
end Go.Proofs.Ytlgclhhkgohanaa.F
end
section
namespace Go.Proofs.Ytlgclhhkgohanaa.F
open Go.RowKit Go.Proofs.YtlgclhhkgohanaaW.PrintWords Go.Proofs.YtlgclhhkgohanaaW.PrintLast Go.Proofs.YtlgclhhkgohanaaW.PrintMore
attribute [local go_sem] max2_int min2_int max_two min_two max_three min_three max_four min_four   -- for this text's walks alone
set_option linter.unusedVariables false
set_option linter.unusedSimpArgs false
def stanzaref13_Empty.f (a0_0 : Int) (a0_1 : Int) (a0_2 : Int) (a0_3 : Int) : Option (Bool) := if a0_3 = 1 then (some true) else (if a0_3 = 0 then (some (a0_2 == 0)) else (some false))
set_option maxHeartbeats 8000000 in
set_option maxRecDepth 100000 in
theorem stanzaref13_Empty.calls (a0_0 : Int) (a0_1 : Int) (a0_2 : Int) (a0_3 : Int) (r : Bool) (w : World) (h : stanzaref13_Empty.f a0_0 a0_1 a0_2 a0_3 = some r) :
    Calls Try.prog 40 #[.agg #[.int .i64 a0_0, .int .i64 a0_1, .int .i64 a0_2, .int .u8 a0_3]] w fun e w' => e = .returned (.bool r) ∧ Below w.heap.size w w' := by
  have hu62 := Try.underlying62; have HB := zB.mk (Below.refl w.heap.size w); have H : (if a0_3 = 1 then (some true) else (if a0_3 = 0 then (some (a0_2 == 0)) else (some false))) = some r := h
  clear h; by_cases c2 : a0_3 = 1
  · rw [if_pos c2] at H
    have c2b0 : (a0_3 == 1) = true := beq_iff_eq.mpr c2
    have c2b1 : (a0_3 != 1) = false := bne_eq_false_iff_eq.mpr c2
    clear c2; obtain rfl := Option.some.inj H
    go_enter Try.func40, Try.ntmps40
    go_wp2_with (first | ((with_reducible refine gate_dst (N := 1) rfl ?_); refine box_event ?hg (N := 1) ?hd (cs := #[.int .i64 a0_0, .int .i64 a0_1, .int .i64 a0_2, .int .u8 a0_3]) (t := 62) ?hr ?_; (case hd => rfl); (case hg => rfl); (case hr => first | (go_simp; done) | (go_simp; rfl)); intro gb242 hg w3 hbox hb; have n0_ := zB.mk (zO (by repeat (first | (with_reducible first | exact HB.out | apply zJ | apply zF | apply zH) | exact HB.out)) hb); have n1_ := zB.mk (hbox); have n2_ := zB.mk ((by rw [hg]; exact (zM (by repeat (first | (with_reducible first | exact HB.out | apply zJ | apply zF | apply zH) | exact HB.out))) : w.heap.size ≤ gb242)); have n3_ := zB.mk ((by rw [hg]; exact (zM (by repeat (first | (with_reducible first | exact HB.out | apply zJ | apply zF | apply zH) | exact HB.out))) : w.heap.size ≤ gb242)); clear HB; have HB := n0_; have BK242 := n1_; have GW242 := n2_; have GE242 := n3_; clear n0_ n1_ n2_ n3_; clear hb hbox hg; have hcz4_0 : w3.cell? ⟨gb242, 0, none⟩ = some (.int .i64 a0_0) := (zG BK242.out 0).trans rfl; have hcz4_1 : w3.cell? ⟨gb242, 1, none⟩ = some (.int .i64 a0_1) := (zG BK242.out 1).trans rfl; have hcz4_2 : w3.cell? ⟨gb242, 2, none⟩ = some (.int .i64 a0_2) := (zG BK242.out 2).trans rfl; have hcz4_3 : w3.cell? ⟨gb242, 3, none⟩ = some (.int .u8 a0_3) := (zG BK242.out 3).trans rfl; have hfz4_0 := zI BK242.out 0; have hfz4_1 := zI BK242.out 1; have hfz4_2 := zI BK242.out 2; have hfz4_3 := zI BK242.out 3))
    go_ret
    exact ⟨by first | rfl | (simp [errW_none, errW_some] <;> rfl) | (simp [*, errW_none, errW_some] <;> rfl), by repeat (first | (with_reducible first | exact HB.out | apply zJ | apply zF | apply zH | refine zE ?_ GE242.out) | exact HB.out)⟩
  rw [if_neg c2] at H; have c2b0 : (a0_3 == 1) = false := beq_eq_false_iff_ne.mpr c2
  have c2b1 : (a0_3 != 1) = true := bne_iff_ne.mpr c2
  by_cases c5 : a0_3 = 0
  · rw [if_pos c5] at H
    have c5b0 : (a0_3 == 0) = true := beq_iff_eq.mpr c5
    have c5b1 : (a0_3 != 0) = false := bne_eq_false_iff_eq.mpr c5
    clear c5; obtain rfl := Option.some.inj H
    go_enter Try.func40, Try.ntmps40
    go_wp2_with (first | ((with_reducible refine gate_dst (N := 1) rfl ?_); refine box_event ?hg (N := 1) ?hd (cs := #[.int .i64 a0_0, .int .i64 a0_1, .int .i64 a0_2, .int .u8 a0_3]) (t := 62) ?hr ?_; (case hd => rfl); (case hg => rfl); (case hr => first | (go_simp; done) | (go_simp; rfl)); intro gb242 hg w6 hbox hb; have n0_ := zB.mk (zO (by repeat (first | (with_reducible first | exact HB.out | apply zJ | apply zF | apply zH) | exact HB.out)) hb); have n1_ := zB.mk (hbox); have n2_ := zB.mk ((by rw [hg]; exact (zM (by repeat (first | (with_reducible first | exact HB.out | apply zJ | apply zF | apply zH) | exact HB.out))) : w.heap.size ≤ gb242)); have n3_ := zB.mk ((by rw [hg]; exact (zM (by repeat (first | (with_reducible first | exact HB.out | apply zJ | apply zF | apply zH) | exact HB.out))) : w.heap.size ≤ gb242)); clear HB; have HB := n0_; have BK242 := n1_; have GW242 := n2_; have GE242 := n3_; clear n0_ n1_ n2_ n3_; clear hb hbox hg; have hcz7_0 : w6.cell? ⟨gb242, 0, none⟩ = some (.int .i64 a0_0) := (zG BK242.out 0).trans rfl; have hcz7_1 : w6.cell? ⟨gb242, 1, none⟩ = some (.int .i64 a0_1) := (zG BK242.out 1).trans rfl; have hcz7_2 : w6.cell? ⟨gb242, 2, none⟩ = some (.int .i64 a0_2) := (zG BK242.out 2).trans rfl; have hcz7_3 : w6.cell? ⟨gb242, 3, none⟩ = some (.int .u8 a0_3) := (zG BK242.out 3).trans rfl; have hfz7_0 := zI BK242.out 0; have hfz7_1 := zI BK242.out 1; have hfz7_2 := zI BK242.out 2; have hfz7_3 := zI BK242.out 3))
    go_ret
    exact ⟨by first | rfl | (simp [errW_none, errW_some] <;> rfl) | (simp [*, errW_none, errW_some] <;> rfl), by repeat (first | (with_reducible first | exact HB.out | apply zJ | apply zF | apply zH | refine zE ?_ GE242.out) | exact HB.out)⟩
  rw [if_neg c5] at H; have c5b0 : (a0_3 == 0) = false := beq_eq_false_iff_ne.mpr c5
  have c5b1 : (a0_3 != 0) = true := bne_iff_ne.mpr c5
  obtain rfl := Option.some.inj H
  go_enter Try.func40, Try.ntmps40
  go_wp2_with (first | ((with_reducible refine gate_dst (N := 1) rfl ?_); refine box_event ?hg (N := 1) ?hd (cs := #[.int .i64 a0_0, .int .i64 a0_1, .int .i64 a0_2, .int .u8 a0_3]) (t := 62) ?hr ?_; (case hd => rfl); (case hg => rfl); (case hr => first | (go_simp; done) | (go_simp; rfl)); intro gb242 hg w8 hbox hb; have n0_ := zB.mk (zO (by repeat (first | (with_reducible first | exact HB.out | apply zJ | apply zF | apply zH) | exact HB.out)) hb); have n1_ := zB.mk (hbox); have n2_ := zB.mk ((by rw [hg]; exact (zM (by repeat (first | (with_reducible first | exact HB.out | apply zJ | apply zF | apply zH) | exact HB.out))) : w.heap.size ≤ gb242)); have n3_ := zB.mk ((by rw [hg]; exact (zM (by repeat (first | (with_reducible first | exact HB.out | apply zJ | apply zF | apply zH) | exact HB.out))) : w.heap.size ≤ gb242)); clear HB; have HB := n0_; have BK242 := n1_; have GW242 := n2_; have GE242 := n3_; clear n0_ n1_ n2_ n3_; clear hb hbox hg; have hcz9_0 : w8.cell? ⟨gb242, 0, none⟩ = some (.int .i64 a0_0) := (zG BK242.out 0).trans rfl; have hcz9_1 : w8.cell? ⟨gb242, 1, none⟩ = some (.int .i64 a0_1) := (zG BK242.out 1).trans rfl; have hcz9_2 : w8.cell? ⟨gb242, 2, none⟩ = some (.int .i64 a0_2) := (zG BK242.out 2).trans rfl; have hcz9_3 : w8.cell? ⟨gb242, 3, none⟩ = some (.int .u8 a0_3) := (zG BK242.out 3).trans rfl; have hfz9_0 := zI BK242.out 0; have hfz9_1 := zI BK242.out 1; have hfz9_2 := zI BK242.out 2; have hfz9_3 := zI BK242.out 3))
  go_ret
  exact ⟨by first | rfl | (simp [errW_none, errW_some] <;> rfl) | (simp [*, errW_none, errW_some] <;> rfl), by repeat (first | (with_reducible first | exact HB.out | apply zJ | apply zF | apply zH | refine zE ?_ GE242.out) | exact HB.out)⟩
end Go.Proofs.Ytlgclhhkgohanaa.F
end
section
namespace Go.Proofs.Ytlgclhhkgohanaa.F
open Go.RowKit Go.Proofs.YtlgclhhkgohanaaW.PrintWords Go.Proofs.YtlgclhhkgohanaaW.PrintLast Go.Proofs.YtlgclhhkgohanaaW.PrintMore
attribute [local go_sem] max2_int min2_int max_two min_two max_three min_three max_four min_four   -- for this text's walks alone
set_option linter.unusedVariables false
set_option linter.unusedSimpArgs false
def stanzaref13_Trim.l0 : Nat → Int → Int → Int → List (S62) → List Int → Option (Int)
  | 0, _, _, _, _, _ => none
  | k + 1, x2, x7, x8, x244000, x244001 => if x8 < x2 then (if 0 ≤ x8 then (if x8 < (x244000.length : Int) then ((stanzaref13_Empty.f ((rd_T62 x244000 x8).f0) ((rd_T62 x244000 x8).f1) ((rd_T62 x244000 x8).f2) ((rd_T62 x244000 x8).f3)).bind fun t245 => (if t245 = true then (stanzaref13_Trim.l0 k x2 x7 (wrap64 (x8 + 1)) x244000 x244001) else (stanzaref13_Trim.l0 k x2 (wrap64 (x8 + 1)) (wrap64 (x8 + 1)) x244000 x244001))) else (none)) else (none)) else (some x7)
def stanzaref13_Trim.f (k : Nat) (l0_0 : List (S62)) (l0_1 : List Int) (a1 : Int) (a2 : Int) : Option (Int) := stanzaref13_Trim.l0 k a2 a1 a1 l0_0 l0_1
theorem stanzaref13_Trim.mono_l : ∀ k, (∀ y0 y1 y2 y3 y4, LeO (stanzaref13_Trim.l0 k y0 y1 y2 y3 y4) (stanzaref13_Trim.l0 (k + 1) y0 y1 y2 y3 y4))
  | 0 => fun _ _ _ _ _ r h => by simp [stanzaref13_Trim.l0] at h
  | k + 1 => by
    have ih0 := stanzaref13_Trim.mono_l k
    · intro y0 y1 y2 y3 y4
      unfold stanzaref13_Trim.l0
      repeat' first
      | (with_reducible exact ih0 _ _ _ _ _)
      | (with_reducible exact LeO.refl _)
      | (with_reducible exact LeO.none _)
      | (with_reducible refine LeO.ite ?_ ?_)
      | (with_reducible refine LeO.bind ?_ (fun _ => ?_))
      | exact ih0 _ _ _ _ _
      | exact LeO.none _
      | refine LeO.ite ?_ ?_
      | refine LeO.bind ?_ (fun _ => ?_)
theorem stanzaref13_Trim.mono : ∀ a0 a1 a2 a3 k, LeO (stanzaref13_Trim.f k a0 a1 a2 a3) (stanzaref13_Trim.f (k + 1) a0 a1 a2 a3) := by
  intro a0 a1 a2 a3 k
  have ih0 := stanzaref13_Trim.mono_l k; unfold stanzaref13_Trim.f
  repeat' first
      | (with_reducible exact ih0 _ _ _ _ _)
      | (with_reducible exact LeO.refl _)
      | (with_reducible exact LeO.none _)
      | (with_reducible refine LeO.ite ?_ ?_)
      | (with_reducible refine LeO.bind ?_ (fun _ => ?_))
      | exact ih0 _ _ _ _ _
      | exact LeO.none _
      | refine LeO.ite ?_ ?_
      | refine LeO.bind ?_ (fun _ => ?_)
set_option maxHeartbeats 8000000 in
set_option maxRecDepth 100000 in
theorem stanzaref13_Trim.calls (k : Nat) (A0_0 : Option Addr) (c0_0 : Nat) (l0_0 : List (S62)) (A0_1 : Option Addr) (c0_1 : Nat) (l0_1 : List Int) (a1 : Int) (a2 : Int) (r : Int) (w : World) (hr0_0 : Kd.C k62 w A0_0 l0_0.length l0_0) (hc0_0 : l0_0.length ≤ c0_0) (hr0_1 : Kd.C (Kd.int .u8) w A0_1 l0_1.length l0_1) (hc0_1 : l0_1.length ≤ c0_1) (h : stanzaref13_Trim.f k l0_0 l0_1 a1 a2 = some r) :
    Calls Try.prog 29 #[.agg #[.slice A0_0 l0_0.length c0_0, .slice A0_1 l0_1.length c0_1], .int .i64 a1, .int .i64 a2] w fun e w' => e = .returned (.int .i64 r) ∧ Below w.heap.size w w' := by
  have hu31 := Try.underlying31; have hu62 := Try.underlying62; have HR0_0 := zB.mk hr0_0; have HC0_0 := zB.mk hc0_0; clear hr0_0 hc0_0; have HR0_1 := zB.mk hr0_1; have HC0_1 := zB.mk hc0_1; clear hr0_1 hc0_1; have HB := zB.mk (Below.refl w.heap.size w); have H : (stanzaref13_Trim.l0 k a2 a1 a1 l0_0 l0_1) = some r := h
  clear h; have H' := zB.mk H
  clear H; go_enter Try.func29, Try.ntmps29
  go_wp2_with (first | ((with_reducible refine gate_dst (N := 3) rfl ?_); refine box_event ?hg (N := 3) ?hd (cs := #[.slice A0_0 l0_0.length c0_0, .slice A0_1 l0_1.length c0_1]) (t := 31) ?hr ?_; (case hd => rfl); (case hg => rfl); (case hr => first | (go_simp; done) | (go_simp; rfl)); intro gb243 hg w4 hbox hb; have n0_ := zB.mk (zO (by repeat (first | (with_reducible first | exact HB.out | apply zJ | apply zF | apply zH) | exact HB.out)) hb); have n1_ := zB.mk (hbox); have n2_ := zB.mk ((by rw [hg]; exact (zM (by repeat (first | (with_reducible first | exact HB.out | apply zJ | apply zF | apply zH) | exact HB.out))) : w.heap.size ≤ gb243)); have n3_ := zB.mk ((by rw [hg]; exact (zM (by repeat (first | (with_reducible first | exact HB.out | apply zJ | apply zF | apply zH) | exact HB.out))) : w.heap.size ≤ gb243)); clear HB; have HB := n0_; have BK243 := n1_; have GW243 := n2_; have GE243 := n3_; clear n0_ n1_ n2_ n3_; clear hb hbox hg))
  go_loopg [7, 8] k (fun kq v7 v8 w' => ∃ (x7_1 : Int) (x8_1 : Int), v7 = .int .i64 x7_1 ∧ v8 = .int .i64 x8_1 ∧ zB (stanzaref13_Trim.l0 kq a2 x7_1 x8_1 l0_0 l0_1 = some r) ∧ zB (kq ≤ k) ∧ zB (w'.heap[gb243]? = some (.cells #[(.slice A0_0 l0_0.length c0_0), (.slice A0_1 l0_1.length c0_1)] 31 (0, 0))) ∧ zB (Below w.heap.size w w'))
  case atStart => exact ⟨(a1), (a1), (by first | rfl | (simp; done) | (simp [*]; done)), (by first | rfl | (simp; done) | (simp [*]; done)), H', ⟨Nat.le_refl _⟩, ⟨by (with_reducible repeat (first | refine zC ?_ _ | refine zD ?_ | refine zA ?_ _)); exact BK243.out⟩, ⟨by repeat (first | (with_reducible first | exact HB.out | apply zJ | apply zF | apply zH | refine zE ?_ GE243.out) | exact HB.out)⟩⟩
  clear H'; try clear c2
  try clear p2
  obtain ⟨x7_1, x8_1, rfl, rfl, HA, HK1, BK243, HB⟩ := hrel; cases gk with
  | zero => exact absurd HA.out (by simp [stanzaref13_Trim.l0])
  | succ k1 =>
    have H := HA.out; clear HA; simp only [stanzaref13_Trim.l0] at H; by_cases c5 : x8_1 < a2
    rotate_left
    · rw [if_neg c5] at H
      have c5b0 : decide (x8_1 < a2) = false := decide_eq_false c5
      clear c5; obtain rfl := Option.some.inj H
      go_wp2
      go_ret
      exact ⟨by first | rfl | (simp [errW_none, errW_some] <;> rfl) | (simp [*, errW_none, errW_some] <;> rfl), by repeat (first | (with_reducible first | exact HB.out | apply zJ | apply zF | apply zH | refine zE ?_ GE243.out) | exact HB.out)⟩
    rw [if_pos c5] at H; have c5b0 : decide (x8_1 < a2) = true := decide_eq_true c5
    clear c5; by_cases c6 : 0 ≤ x8_1
    rotate_left
    · rw [if_neg c6] at H
      exact absurd H (by simp)
    rw [if_pos c6] at H; have c6b0 : decide (0 ≤ x8_1) = true := decide_eq_true c6
    clear c6; by_cases c7 : x8_1 < (l0_0.length : Int)
    rotate_left
    · rw [if_neg c7] at H
      exact absurd H (by simp)
    rw [if_pos c7] at H; have c7b0 : decide (x8_1 < (l0_0.length : Int)) = true := decide_eq_true c7
    clear c7; replace H := Option.bind_eq_some_iff.mp H; obtain ⟨t245, A80, H⟩ := H; replace H : (if t245 = true then (stanzaref13_Trim.l0 k1 a2 x7_1 (wrap64 (x8_1 + 1)) l0_0 l0_1) else (stanzaref13_Trim.l0 k1 a2 (wrap64 (x8_1 + 1)) (wrap64 (x8_1 + 1)) l0_0 l0_1)) = some r := H; have A8 := zB.mk A80; clear A80; by_cases c9 : t245 = true
    · subst c9
      have H1 : (stanzaref13_Trim.l0 k1 a2 x7_1 (wrap64 (x8_1 + 1)) l0_0 l0_1) = some r := by rw [if_pos rfl] at H; exact H
      clear H; have H := H1; clear H1; have H' := zB.mk H
      clear H; have hcz10_0 : wr.cell? ⟨gb243, 0, none⟩ = some (.slice A0_0 l0_0.length c0_0) := (zG BK243.out 0).trans rfl
      have hcz10_1 : wr.cell? ⟨gb243, 1, none⟩ = some (.slice A0_1 l0_1.length c0_1) := (zG BK243.out 1).trans rfl
      have hfz10_0 := zI BK243.out 0; have hfz10_1 := zI BK243.out 1; have p244 : 0 ≤ (x8_1 : Int) := of_decide_eq_true (by first | (with_reducible assumption) | assumption)
      have q244 : x8_1 < (l0_0.length : Int) := of_decide_eq_true (by first | (with_reducible assumption) | assumption)
      obtain ⟨ad244, e244, hx244_0, hx244_1, hx244_2, hx244_3⟩ := at_T62 HR0_0.out x8_1 p244 q244; cases e244
      replace hx244_0 := (HB.out.cell (World.block_lt_of_cell? w _ hx244_0)).trans hx244_0; replace hx244_1 := (HB.out.cell (World.block_lt_of_cell? w _ hx244_1)).trans hx244_1; replace hx244_2 := (HB.out.cell (World.block_lt_of_cell? w _ hx244_2)).trans hx244_2; replace hx244_3 := (HB.out.cell (World.block_lt_of_cell? w _ hx244_3)).trans hx244_3; replace p244 := eq_true p244; replace q244 := eq_true q244; go_wp2_with (first | ((with_reducible refine gate_callee (f := 40) rfl ?_); refine goesL_ (some 21) rfl rfl Try.func40 (by kernel_rfl) rfl #[.agg #[.int .i64 ((rd_T62 l0_0 x8_1).f0), .int .i64 ((rd_T62 l0_0 x8_1).f1), .int .i64 ((rd_T62 l0_0 x8_1).f2), .int .u8 ((rd_T62 l0_0 x8_1).f3)]] rfl (by (try simp only [List.map_toArray, List.map_cons, List.map_nil]); first | done | rfl | (simp only [List.length_drop, List.length_take]; rfl)) ?_; (with_reducible refine (stanzaref13_Empty.calls ((rd_T62 l0_0 x8_1).f0) ((rd_T62 l0_0 x8_1).f1) ((rd_T62 l0_0 x8_1).f2) ((rd_T62 l0_0 x8_1).f3) true _ A8.out).mono ?_); rintro e w11 ⟨rfl, hb⟩; refine ⟨_, rfl, ?_⟩; have n0_ := zB.mk (zK (g := gb243) (o := .cells #[.slice (some ad244) l0_0.length c0_0, .slice A0_1 l0_1.length c0_1] 31 (0, 0)) (by (with_reducible repeat (first | refine zC ?_ _ | refine zD ?_ | refine zA ?_ _)); exact BK243.out) hb); have n1_ := zB.mk (zO (by repeat (first | (with_reducible first | exact HB.out | apply zJ | apply zF | apply zH | refine zE ?_ GE243.out) | exact HB.out)) hb); clear BK243; clear HB; have BK243 := n0_; have HB := n1_; clear n0_ n1_; (try clear hb); (try clear hb2); (try clear hk); (try clear hi)))
      go_roundg k1
      case measure => have := HK1.out; omega
      case rel => exact ⟨(x7_1), (wrap64 (x8_1 + 1)), (by first | rfl | (simp; done) | (simp [*]; done)), (by first | rfl | (simp; done) | (simp [*]; done)), H', ⟨by have := HK1.out; omega⟩, ⟨by (with_reducible repeat (first | refine zC ?_ _ | refine zD ?_ | refine zA ?_ _)); exact BK243.out⟩, ⟨by repeat (first | (with_reducible first | exact HB.out | apply zJ | apply zF | apply zH | refine zE ?_ GE243.out) | exact HB.out)⟩⟩
    replace c9 := Bool.eq_false_iff.mpr c9; subst c9; have H1 : (stanzaref13_Trim.l0 k1 a2 (wrap64 (x8_1 + 1)) (wrap64 (x8_1 + 1)) l0_0 l0_1) = some r := by rw [if_neg (show ¬ (false = true) by decide)] at H; exact H
    clear H; have H := H1; clear H1; have H' := zB.mk H
    clear H; have hcz12_0 : wr.cell? ⟨gb243, 0, none⟩ = some (.slice A0_0 l0_0.length c0_0) := (zG BK243.out 0).trans rfl
    have hcz12_1 : wr.cell? ⟨gb243, 1, none⟩ = some (.slice A0_1 l0_1.length c0_1) := (zG BK243.out 1).trans rfl
    have hfz12_0 := zI BK243.out 0; have hfz12_1 := zI BK243.out 1; have p244 : 0 ≤ (x8_1 : Int) := of_decide_eq_true (by first | (with_reducible assumption) | assumption)
    have q244 : x8_1 < (l0_0.length : Int) := of_decide_eq_true (by first | (with_reducible assumption) | assumption)
    obtain ⟨ad244, e244, hx244_0, hx244_1, hx244_2, hx244_3⟩ := at_T62 HR0_0.out x8_1 p244 q244; cases e244
    replace hx244_0 := (HB.out.cell (World.block_lt_of_cell? w _ hx244_0)).trans hx244_0; replace hx244_1 := (HB.out.cell (World.block_lt_of_cell? w _ hx244_1)).trans hx244_1; replace hx244_2 := (HB.out.cell (World.block_lt_of_cell? w _ hx244_2)).trans hx244_2; replace hx244_3 := (HB.out.cell (World.block_lt_of_cell? w _ hx244_3)).trans hx244_3; replace p244 := eq_true p244; replace q244 := eq_true q244; go_wp2_with (first | ((with_reducible refine gate_callee (f := 40) rfl ?_); refine goesL_ (some 21) rfl rfl Try.func40 (by kernel_rfl) rfl #[.agg #[.int .i64 ((rd_T62 l0_0 x8_1).f0), .int .i64 ((rd_T62 l0_0 x8_1).f1), .int .i64 ((rd_T62 l0_0 x8_1).f2), .int .u8 ((rd_T62 l0_0 x8_1).f3)]] rfl (by (try simp only [List.map_toArray, List.map_cons, List.map_nil]); first | done | rfl | (simp only [List.length_drop, List.length_take]; rfl)) ?_; (with_reducible refine (stanzaref13_Empty.calls ((rd_T62 l0_0 x8_1).f0) ((rd_T62 l0_0 x8_1).f1) ((rd_T62 l0_0 x8_1).f2) ((rd_T62 l0_0 x8_1).f3) false _ A8.out).mono ?_); rintro e w13 ⟨rfl, hb⟩; refine ⟨_, rfl, ?_⟩; have n0_ := zB.mk (zK (g := gb243) (o := .cells #[.slice (some ad244) l0_0.length c0_0, .slice A0_1 l0_1.length c0_1] 31 (0, 0)) (by (with_reducible repeat (first | refine zC ?_ _ | refine zD ?_ | refine zA ?_ _)); exact BK243.out) hb); have n1_ := zB.mk (zO (by repeat (first | (with_reducible first | exact HB.out | apply zJ | apply zF | apply zH | refine zE ?_ GE243.out) | exact HB.out)) hb); clear BK243; clear HB; have BK243 := n0_; have HB := n1_; clear n0_ n1_; (try clear hb); (try clear hb2); (try clear hk); (try clear hi)))
    go_roundg k1
    case measure => have := HK1.out; omega
    case rel => exact ⟨(wrap64 (x8_1 + 1)), (wrap64 (x8_1 + 1)), (by first | rfl | (simp; done) | (simp [*]; done)), (by first | rfl | (simp; done) | (simp [*]; done)), H', ⟨by have := HK1.out; omega⟩, ⟨by (with_reducible repeat (first | refine zC ?_ _ | refine zD ?_ | refine zA ?_ _)); exact BK243.out⟩, ⟨by repeat (first | (with_reducible first | exact HB.out | apply zJ | apply zF | apply zH | refine zE ?_ GE243.out) | exact HB.out)⟩⟩
end Go.Proofs.Ytlgclhhkgohanaa.F
end
section
namespace Go.Proofs.Ytlgclhhkgohanaa.F
open Go.RowKit Go.Proofs.YtlgclhhkgohanaaW.PrintWords Go.Proofs.YtlgclhhkgohanaaW.PrintLast Go.Proofs.YtlgclhhkgohanaaW.PrintMore
attribute [local go_sem] max2_int min2_int max_two min_two max_three min_three max_four min_four   -- for this text's walks alone
set_option linter.unusedVariables false
set_option linter.unusedSimpArgs false
def stanzaref13_Cells.f (k : Nat) (l0_0 : List (S62)) (l0_1 : List Int) (a1 : Int) (a2 : Int) (a3 : Int) (a4 : Int) : Option (Int) := (stanzaref13_Trim.f k l0_0 l0_1 a1 a2).bind fun t247 => ((stanzaref13_Columns.f k l0_0 l0_1 a1 t247 a4).bind fun t248 => (if 0 ≤ (wrap64 ((t248.length : Int) - 1)) then (if (wrap64 ((t248.length : Int) - 1)) < (t248.length : Int) then (if a3 = 3 then (some (wrap64 ((rd t248 (wrap64 ((t248.length : Int) - 1))) + 1))) else (some (rd t248 (wrap64 ((t248.length : Int) - 1))))) else (none)) else (none)))
theorem stanzaref13_Cells.mono : ∀ a0 a1 a2 a3 a4 a5 k, LeO (stanzaref13_Cells.f k a0 a1 a2 a3 a4 a5) (stanzaref13_Cells.f (k + 1) a0 a1 a2 a3 a4 a5) := by
  intro a0 a1 a2 a3 a4 a5 k
  unfold stanzaref13_Cells.f
  repeat' first
      | (with_reducible exact stanzaref13_Columns.mono _ _ _ _ _ _)
      | (with_reducible exact stanzaref13_Trim.mono _ _ _ _ _)
      | (with_reducible exact LeO.refl _)
      | (with_reducible exact LeO.none _)
      | (with_reducible refine LeO.ite ?_ ?_)
      | (with_reducible refine LeO.bind ?_ (fun _ => ?_))
      | exact stanzaref13_Columns.mono _ _ _ _ _ _
      | exact stanzaref13_Trim.mono _ _ _ _ _
      | exact LeO.none _
      | refine LeO.ite ?_ ?_
      | refine LeO.bind ?_ (fun _ => ?_)
def stanzaref13_Cells.T1 : Bool × List (List Nat × List Nat) := (true, [([], []), ([], []), ([], []), ([], []), ([], []), ([2, 3, 4], [2, 3, 4]), ([], []), ([0, 1, 5, 6, 5], [0, 1, 5, 6]), ([7, 7, 0, 1, 2, 3, 4, 5, 6, 7], [7])])
def stanzaref13_Cells.B1 : List Nat := [0, 0, 0, 0, 0, 28, 0, 127, 255]
theorem stanzaref13_Cells.tab1 : rtab .any (opsOf Try.f18 1) = stanzaref13_Cells.T1 := by kernel_rfl
theorem stanzaref13_Cells.bits1 : waitsOk stanzaref13_Cells.T1.2 stanzaref13_Cells.B1 = true := by kernel_rfl
set_option maxHeartbeats 8000000 in
set_option maxRecDepth 100000 in
theorem stanzaref13_Cells.calls (k : Nat) (A0_0 : Option Addr) (c0_0 : Nat) (l0_0 : List (S62)) (A0_1 : Option Addr) (c0_1 : Nat) (l0_1 : List Int) (a1 : Int) (a2 : Int) (a3 : Int) (a4 : Int) (r : Int) (w : World) (hr0_0 : Kd.C k62 w A0_0 l0_0.length l0_0) (hc0_0 : l0_0.length ≤ c0_0) (hr0_1 : Kd.C (Kd.int .u8) w A0_1 l0_1.length l0_1) (hc0_1 : l0_1.length ≤ c0_1) (h : stanzaref13_Cells.f k l0_0 l0_1 a1 a2 a3 a4 = some r) :
    Calls Try.prog 18 #[.agg #[.slice A0_0 l0_0.length c0_0, .slice A0_1 l0_1.length c0_1], .int .i64 a1, .int .i64 a2, .int .u8 a3, .int .i64 a4] w fun e w' => e = .returned (.int .i64 r) ∧ Below w.heap.size w w' := by
  have hu31 := Try.underlying31; have HR0_0 := zB.mk hr0_0; have HC0_0 := zB.mk hc0_0; clear hr0_0 hc0_0; have HR0_1 := zB.mk hr0_1; have HC0_1 := zB.mk hc0_1; clear hr0_1 hc0_1; have HB := zB.mk (Below.refl w.heap.size w); have H : ((stanzaref13_Trim.f k l0_0 l0_1 a1 a2).bind fun t247 => ((stanzaref13_Columns.f k l0_0 l0_1 a1 t247 a4).bind fun t248 => (if 0 ≤ (wrap64 ((t248.length : Int) - 1)) then (if (wrap64 ((t248.length : Int) - 1)) < (t248.length : Int) then (if a3 = 3 then (some (wrap64 ((rd t248 (wrap64 ((t248.length : Int) - 1))) + 1))) else (some (rd t248 (wrap64 ((t248.length : Int) - 1))))) else (none)) else (none)))) = some r := h
  clear h; replace H := Option.bind_eq_some_iff.mp H; obtain ⟨t247, A60, H⟩ := H; replace H : ((stanzaref13_Columns.f k l0_0 l0_1 a1 t247 a4).bind fun t248 => (if 0 ≤ (wrap64 ((t248.length : Int) - 1)) then (if (wrap64 ((t248.length : Int) - 1)) < (t248.length : Int) then (if a3 = 3 then (some (wrap64 ((rd t248 (wrap64 ((t248.length : Int) - 1))) + 1))) else (some (rd t248 (wrap64 ((t248.length : Int) - 1))))) else (none)) else (none))) = some r := H
  have A6 := zB.mk A60; clear A60; replace H := Option.bind_eq_some_iff.mp H; obtain ⟨t248, A70, H⟩ := H; replace H : (if 0 ≤ (wrap64 ((t248.length : Int) - 1)) then (if (wrap64 ((t248.length : Int) - 1)) < (t248.length : Int) then (if a3 = 3 then (some (wrap64 ((rd t248 (wrap64 ((t248.length : Int) - 1))) + 1))) else (some (rd t248 (wrap64 ((t248.length : Int) - 1))))) else (none)) else (none)) = some r := H; have A7 := zB.mk A70; clear A70; obtain ⟨ji8, hji8⟩ : ∃ j_ : Int, (wrap64 ((t248.length : Int) - 1)) = j_ := ⟨_, rfl⟩; replace H : (if 0 ≤ (ji8) then (if (ji8) < (t248.length : Int) then (if a3 = 3 then (some (wrap64 ((rd t248 (ji8)) + 1))) else (some (rd t248 (ji8)))) else (none)) else (none)) = some r := by first | (rw [hji8] at H; exact H) | (simp only [hji8] at H ⊢; exact H)
  (try rw [hji8] at A6)
  (try rw [hji8] at A7)
  have hji8w : (IntKind.i64.wrap ((t248.length : Int) - 1)) = ji8 := (i64_w _).trans hji8
  by_cases c9 : 0 ≤ (ji8)
  rotate_left
  · rw [if_neg c9] at H
    exact absurd H (by simp)
  rw [if_pos c9] at H; have c9b0 : decide (0 ≤ (ji8)) = true := decide_eq_true c9
  clear c9; by_cases c10 : (ji8) < (t248.length : Int)
  rotate_left
  · rw [if_neg c10] at H
    exact absurd H (by simp)
  rw [if_pos c10] at H; have c10b0 : decide ((ji8) < (t248.length : Int)) = true := decide_eq_true c10
  clear c10; by_cases c11 : a3 = 3
  · rw [if_pos c11] at H
    have c11b0 : (a3 == 3) = true := beq_iff_eq.mpr c11
    have c11b1 : (a3 != 3) = false := bne_eq_false_iff_eq.mpr c11
    clear c11; obtain rfl := Option.some.inj H
    go_enter Try.func18, Try.ntmps18
    try go_wp2_with (first | ((with_reducible refine gate_dst (N := 5) rfl ?_); refine box_event ?hg (N := 5) ?hd (cs := #[.slice A0_0 l0_0.length c0_0, .slice A0_1 l0_1.length c0_1]) (t := 31) ?hr ?_; (case hd => rfl); (case hg => rfl); (case hr => first | (go_simp; done) | (go_simp; rfl)); intro gb246 hg w12 hbox hb; have n0_ := zB.mk (zO (by repeat (first | (with_reducible first | exact HB.out | apply zJ | apply zF | apply zH) | exact HB.out)) hb); have n1_ := zB.mk (hbox); have n2_ := zB.mk ((by rw [hg]; exact (zM (by repeat (first | (with_reducible first | exact HB.out | apply zJ | apply zF | apply zH) | exact HB.out))) : w.heap.size ≤ gb246)); have n3_ := zB.mk ((by rw [hg]; exact (zM (by repeat (first | (with_reducible first | exact HB.out | apply zJ | apply zF | apply zH) | exact HB.out))) : w.heap.size ≤ gb246)); clear HB; have HB := n0_; have BK246 := n1_; have GW246 := n2_; have GE246 := n3_; clear n0_ n1_ n2_ n3_; clear hb hbox hg))
    have n0_ := zB.mk (zD BK246.out); have n1_ := zB.mk (zH HB.out); clear BK246; clear HB; have BK246 := n0_; have HB := n1_; clear n0_ n1_; refine start_ (n := 9) (S := fun w' => w'.cell? ⟨gb246, 0, none⟩ = some (.slice A0_0 l0_0.length c0_0) ∧ w'.cell? ⟨gb246, 1, none⟩ = some (.slice A0_1 l0_1.length c0_1)) (ds := []) #[false, false, false, false, false, false, false, false, false] (by kernel_rfl) rfl rfl ⟨(zG BK246.out 0).trans rfl, (zG BK246.out 1).trans rfl⟩ (fun hHeld => ?_); refine with_tabW stanzaref13_Cells.tab1 stanzaref13_Cells.bits1 (fun HT_ HW_ => ?_)
    generalize w12.drew = w13 at BK246 HB hHeld ⊢
    refine pure_ (i := 1) (N := some 14) (v := ?_) (a' := ?_) #[false, true, false, false, false, false, false, false, false] rfl rfl (any_of HT_.out (by kernel_rfl)) (fun _ _ _ h => h) (Or.inl ⟨by rfl, ?_⟩) ?_ ?_
    rotate_left
    · intro w'
      go_simp
      with_reducible rfl
    rotate_left
    · simp only [Act.put, sA_, sB_, sC_, i64_w, i32_w]
      rfl
    refine pure_ (i := 3) (N := some 16) (v := ?_) (a' := ?_) #[false, true, false, true, false, false, false, false, false] rfl rfl (any_of HT_.out (by kernel_rfl)) (fun _ _ _ h => h) (Or.inl ⟨by rfl, ?_⟩) ?_ ?_
    rotate_left
    · intro w'
      go_simp
      with_reducible rfl
    rotate_left
    · simp only [Act.put, sA_, sB_, sC_, i64_w, i32_w]
      rfl
    refine pure_ (i := 4) (N := some 17) (v := ?_) (a' := ?_) #[false, true, false, true, true, false, false, false, false] rfl rfl (any_of HT_.out (by kernel_rfl)) (fun _ _ _ h => h) (Or.inl ⟨by rfl, ?_⟩) ?_ ?_
    rotate_left
    · intro w'
      go_simp
      with_reducible rfl
    rotate_left
    · simp only [Act.put, sA_, sB_, sC_, i64_w, i32_w]
      rfl
    refine pure_ (i := 6) (N := some 19) (v := ?_) (a' := ?_) #[false, true, false, true, true, false, true, false, false] rfl rfl (any_of HT_.out (by kernel_rfl)) (fun _ _ _ h => h) (Or.inl ⟨by rfl, ?_⟩) ?_ ?_
    rotate_left
    · intro w'
      go_simp
      with_reducible rfl
    rotate_left
    · simp only [Act.put, sA_, sB_, sC_, i64_w, i32_w]
      rfl
    refine take_ (i := 0) (N := some 13) (v := ?_) (a' := ?_) #[true, true, false, true, true, false, true, false, false] rfl rfl (take_ofW HT_.out HW_.out (by kernel_rfl)) (fun _ _ _ h => h) (Or.inl ⟨by rfl, ?_⟩) hHeld ?_ ?_
    rotate_left
    · rintro w' ⟨s0, s1⟩
      go_simp
      with_reducible rfl
    rotate_left
    · simp only [Act.put, sA_, sB_, sC_, i64_w, i32_w]
      rfl
    refine take_ (i := 2) (N := some 15) (v := ?_) (a' := ?_) #[true, true, true, true, true, false, true, false, false] rfl rfl (take_ofW HT_.out HW_.out (by kernel_rfl)) (fun _ _ _ h => h) (Or.inl ⟨by rfl, ?_⟩) hHeld ?_ ?_
    rotate_left
    · rintro w' ⟨s0, s1⟩
      go_simp
      with_reducible rfl
    rotate_left
    · simp only [Act.put, sA_, sB_, sC_, i64_w, i32_w]
      rfl
    refine one_ (i := 5) (N := some 18) #[true, true, true, true, true, true, true, false, false] rfl rfl (one_of HT_.out (by kernel_rfl)) (by decide) (fun K hK => ?_)
    refine goes_ Try.func29 (by kernel_rfl) rfl #[.agg #[.slice A0_0 l0_0.length c0_0, .slice A0_1 l0_1.length c0_1], .int .i64 a1, .int .i64 a2] (by rfl) rfl rfl (by (try simp only [List.map_toArray, List.map_cons, List.map_nil]); first | done | rfl | (simp only [List.length_drop, List.length_take]; rfl)) ?_
    with_reducible refine (stanzaref13_Trim.calls k _ _ l0_0 _ _ l0_1 a1 a2 t247 _ ?side1 ?side2 ?side3 ?side4 A6.out).mono ?_
    (case side1 => repeat (first | exact (Kd.C_below HR0_0.out HB.out) | (with_reducible refine Kd.C_alloc ?_ _) | (with_reducible refine Kd.C_drewN ?_ _) | (with_reducible refine Kd.C_drew ?_)))
    (case side2 => exact HC0_0.out)
    (case side3 => repeat (first | exact (Kd.C_below HR0_1.out HB.out) | (with_reducible refine Kd.C_alloc ?_ _) | (with_reducible refine Kd.C_drewN ?_ _) | (with_reducible refine Kd.C_drew ?_)))
    (case side4 => exact HC0_1.out)
    rintro e w14 ⟨rfl, hb⟩
    refine ⟨_, rfl, ?_⟩
    have n0_ := zB.mk (zK (g := gb246) (o := .cells #[.slice A0_0 l0_0.length c0_0, .slice A0_1 l0_1.length c0_1] 31 (0, 0)) (by (with_reducible repeat (first | refine zC ?_ _ | refine zD ?_ | refine zA ?_ _)); exact BK246.out) hb)
    have n1_ := zB.mk (zO (by repeat (first | (with_reducible first | exact HB.out | apply zJ | apply zF | apply zH | refine zE ?_ GE246.out) | exact HB.out)) hb)
    clear BK246 HB; have BK246 := n0_; have HB := n1_; clear n0_ n1_; (try clear hb)
    (try clear hb2)
    (try clear hk)
    (try clear hi)
    refine hK.out _ _ ⟨(zG BK246.out 0).trans rfl, (zG BK246.out 1).trans rfl⟩ (fun hHeld => ?_)
    clear hK K; refine norm_ (a' := ?_) ?_ ?_
    rotate_left
    · show Act.put _ (some 18) _ = _
      simp only [Act.put, sA_, sB_, sC_, i64_w, i32_w]; rfl
    refine one_ (i := 7) (N := some 20) #[true, true, true, true, true, true, true, true, false] rfl rfl (one_of HT_.out (by kernel_rfl)) (by decide) (fun K hK => ?_)
    refine goes_ Try.func28 (by kernel_rfl) rfl #[.agg #[.slice A0_0 l0_0.length c0_0, .slice A0_1 l0_1.length c0_1], .int .i64 a1, .int .i64 t247, .int .i64 a4] (by rfl) rfl rfl (by (try simp only [List.map_toArray, List.map_cons, List.map_nil]); first | done | rfl | (simp only [List.length_drop, List.length_take]; rfl)) ?_
    with_reducible refine (stanzaref13_Columns.calls k _ _ l0_0 _ _ l0_1 a1 t247 a4 t248 _ ?side1 ?side2 ?side3 ?side4 A7.out).mono ?_
    (case side1 => repeat (first | exact (Kd.C_below HR0_0.out HB.out) | (with_reducible refine Kd.C_alloc ?_ _) | (with_reducible refine Kd.C_drewN ?_ _) | (with_reducible refine Kd.C_drew ?_)))
    (case side2 => exact HC0_0.out)
    (case side3 => repeat (first | exact (Kd.C_below HR0_1.out HB.out) | (with_reducible refine Kd.C_alloc ?_ _) | (with_reducible refine Kd.C_drewN ?_ _) | (with_reducible refine Kd.C_drew ?_)))
    (case side4 => exact HC0_1.out)
    rintro e w15 ⟨v249, rfl, ho0, hb⟩
    refine ⟨_, rfl, ?_⟩
    have n0_ := zB.mk (Kd.R_lower ho0 (zM (by repeat (first | (with_reducible first | exact HB.out | apply zJ | apply zF | apply zH | refine zE ?_ GE246.out) | exact HB.out))))
    have n1_ := zB.mk (zK (g := gb246) (o := .cells #[.slice A0_0 l0_0.length c0_0, .slice A0_1 l0_1.length c0_1] 31 (0, 0)) (by (with_reducible repeat (first | refine zC ?_ _ | refine zD ?_ | refine zA ?_ _)); exact BK246.out) hb)
    have n2_ := zB.mk (zO (by repeat (first | (with_reducible first | exact HB.out | apply zJ | apply zF | apply zH | refine zE ?_ GE246.out) | exact HB.out)) hb)
    clear BK246 HB; have HO250 := n0_; have BK246 := n1_; have HB := n2_; clear n0_ n1_ n2_; (try clear hb)
    (try clear hb2)
    (try clear hk)
    (try clear hi)
    (try clear ho0)
    refine hK.out _ _ ⟨(zG BK246.out 0).trans rfl, (zG BK246.out 1).trans rfl⟩ (fun hHeld => ?_)
    clear hK K; refine norm_ (a' := ?_) ?_ ?_
    rotate_left
    · show Act.put _ (some 20) _ = _
      simp only [Act.put, sA_, sB_, sC_, i64_w, i32_w]; rfl
    refine pure_ (i := 8) (N := some 11) (v := ?_) (a' := ?_) #[true, true, true, true, true, true, true, true, true] rfl rfl (any_of HT_.out (by kernel_rfl)) (fun _ _ _ h => h) (Or.inl ⟨by rfl, ?_⟩) ?_ ?_
    rotate_left
    · intro w'
      go_simp
      with_reducible rfl
    rotate_left
    · simp only [Act.put, sA_, sB_, sC_, i64_w, i32_w]
      rfl
    refine done_ (done_of HT_.out (by kernel_rfl)) ?_
    obtain ⟨Ao16, co16, eo16⟩ := Kd.R_slice HO250.out; subst eo16; have p251 : 0 ≤ ((ji8) : Int) := of_decide_eq_true (by first | (with_reducible assumption) | assumption)
    have q251 : (ji8) < (t248.length : Int) := of_decide_eq_true (by first | (with_reducible assumption) | assumption)
    obtain ⟨ad251, e251, hx251_0⟩ := Kd.at_int (Kd.R_reads' HO250.out).2.2 (ji8) p251 q251; cases e251
    replace p251 := eq_true p251; replace q251 := eq_true q251; try go_wp2
    go_ret
    exact ⟨by first | rfl | (simp [errW_none, errW_some] <;> rfl) | (simp only [← hji8]; first | rfl | (simp [errW_none, errW_some] <;> rfl)) | (simp [*, errW_none, errW_some] <;> rfl), by repeat (first | (with_reducible first | exact HB.out | apply zJ | apply zF | apply zH | refine zE ?_ GE246.out) | exact HB.out)⟩
  rw [if_neg c11] at H; have c11b0 : (a3 == 3) = false := beq_eq_false_iff_ne.mpr c11
  have c11b1 : (a3 != 3) = true := bne_iff_ne.mpr c11
  obtain rfl := Option.some.inj H
  go_enter Try.func18, Try.ntmps18
  try go_wp2_with (first | ((with_reducible refine gate_dst (N := 5) rfl ?_); refine box_event ?hg (N := 5) ?hd (cs := #[.slice A0_0 l0_0.length c0_0, .slice A0_1 l0_1.length c0_1]) (t := 31) ?hr ?_; (case hd => rfl); (case hg => rfl); (case hr => first | (go_simp; done) | (go_simp; rfl)); intro gb246 hg w17 hbox hb; have n0_ := zB.mk (zO (by repeat (first | (with_reducible first | exact HB.out | apply zJ | apply zF | apply zH) | exact HB.out)) hb); have n1_ := zB.mk (hbox); have n2_ := zB.mk ((by rw [hg]; exact (zM (by repeat (first | (with_reducible first | exact HB.out | apply zJ | apply zF | apply zH) | exact HB.out))) : w.heap.size ≤ gb246)); have n3_ := zB.mk ((by rw [hg]; exact (zM (by repeat (first | (with_reducible first | exact HB.out | apply zJ | apply zF | apply zH) | exact HB.out))) : w.heap.size ≤ gb246)); clear HB; have HB := n0_; have BK246 := n1_; have GW246 := n2_; have GE246 := n3_; clear n0_ n1_ n2_ n3_; clear hb hbox hg))
  have n0_ := zB.mk (zD BK246.out); have n1_ := zB.mk (zH HB.out); clear BK246; clear HB; have BK246 := n0_; have HB := n1_; clear n0_ n1_; refine start_ (n := 9) (S := fun w' => w'.cell? ⟨gb246, 0, none⟩ = some (.slice A0_0 l0_0.length c0_0) ∧ w'.cell? ⟨gb246, 1, none⟩ = some (.slice A0_1 l0_1.length c0_1)) (ds := []) #[false, false, false, false, false, false, false, false, false] (by kernel_rfl) rfl rfl ⟨(zG BK246.out 0).trans rfl, (zG BK246.out 1).trans rfl⟩ (fun hHeld => ?_); refine with_tabW stanzaref13_Cells.tab1 stanzaref13_Cells.bits1 (fun HT_ HW_ => ?_)
  generalize w17.drew = w18 at BK246 HB hHeld ⊢
  refine pure_ (i := 1) (N := some 14) (v := ?_) (a' := ?_) #[false, true, false, false, false, false, false, false, false] rfl rfl (any_of HT_.out (by kernel_rfl)) (fun _ _ _ h => h) (Or.inl ⟨by rfl, ?_⟩) ?_ ?_
  rotate_left
  · intro w'
    go_simp
    with_reducible rfl
  rotate_left
  · simp only [Act.put, sA_, sB_, sC_, i64_w, i32_w]
    rfl
  refine pure_ (i := 3) (N := some 16) (v := ?_) (a' := ?_) #[false, true, false, true, false, false, false, false, false] rfl rfl (any_of HT_.out (by kernel_rfl)) (fun _ _ _ h => h) (Or.inl ⟨by rfl, ?_⟩) ?_ ?_
  rotate_left
  · intro w'
    go_simp
    with_reducible rfl
  rotate_left
  · simp only [Act.put, sA_, sB_, sC_, i64_w, i32_w]
    rfl
  refine pure_ (i := 4) (N := some 17) (v := ?_) (a' := ?_) #[false, true, false, true, true, false, false, false, false] rfl rfl (any_of HT_.out (by kernel_rfl)) (fun _ _ _ h => h) (Or.inl ⟨by rfl, ?_⟩) ?_ ?_
  rotate_left
  · intro w'
    go_simp
    with_reducible rfl
  rotate_left
  · simp only [Act.put, sA_, sB_, sC_, i64_w, i32_w]
    rfl
  refine pure_ (i := 6) (N := some 19) (v := ?_) (a' := ?_) #[false, true, false, true, true, false, true, false, false] rfl rfl (any_of HT_.out (by kernel_rfl)) (fun _ _ _ h => h) (Or.inl ⟨by rfl, ?_⟩) ?_ ?_
  rotate_left
  · intro w'
    go_simp
    with_reducible rfl
  rotate_left
  · simp only [Act.put, sA_, sB_, sC_, i64_w, i32_w]
    rfl
  refine take_ (i := 0) (N := some 13) (v := ?_) (a' := ?_) #[true, true, false, true, true, false, true, false, false] rfl rfl (take_ofW HT_.out HW_.out (by kernel_rfl)) (fun _ _ _ h => h) (Or.inl ⟨by rfl, ?_⟩) hHeld ?_ ?_
  rotate_left
  · rintro w' ⟨s0, s1⟩
    go_simp
    with_reducible rfl
  rotate_left
  · simp only [Act.put, sA_, sB_, sC_, i64_w, i32_w]
    rfl
  refine take_ (i := 2) (N := some 15) (v := ?_) (a' := ?_) #[true, true, true, true, true, false, true, false, false] rfl rfl (take_ofW HT_.out HW_.out (by kernel_rfl)) (fun _ _ _ h => h) (Or.inl ⟨by rfl, ?_⟩) hHeld ?_ ?_
  rotate_left
  · rintro w' ⟨s0, s1⟩
    go_simp
    with_reducible rfl
  rotate_left
  · simp only [Act.put, sA_, sB_, sC_, i64_w, i32_w]
    rfl
  refine one_ (i := 5) (N := some 18) #[true, true, true, true, true, true, true, false, false] rfl rfl (one_of HT_.out (by kernel_rfl)) (by decide) (fun K hK => ?_)
  refine goes_ Try.func29 (by kernel_rfl) rfl #[.agg #[.slice A0_0 l0_0.length c0_0, .slice A0_1 l0_1.length c0_1], .int .i64 a1, .int .i64 a2] (by rfl) rfl rfl (by (try simp only [List.map_toArray, List.map_cons, List.map_nil]); first | done | rfl | (simp only [List.length_drop, List.length_take]; rfl)) ?_
  with_reducible refine (stanzaref13_Trim.calls k _ _ l0_0 _ _ l0_1 a1 a2 t247 _ ?side1 ?side2 ?side3 ?side4 A6.out).mono ?_
  (case side1 => repeat (first | exact (Kd.C_below HR0_0.out HB.out) | (with_reducible refine Kd.C_alloc ?_ _) | (with_reducible refine Kd.C_drewN ?_ _) | (with_reducible refine Kd.C_drew ?_)))
  (case side2 => exact HC0_0.out)
  (case side3 => repeat (first | exact (Kd.C_below HR0_1.out HB.out) | (with_reducible refine Kd.C_alloc ?_ _) | (with_reducible refine Kd.C_drewN ?_ _) | (with_reducible refine Kd.C_drew ?_)))
  (case side4 => exact HC0_1.out)
  rintro e w19 ⟨rfl, hb⟩
  refine ⟨_, rfl, ?_⟩
  have n0_ := zB.mk (zK (g := gb246) (o := .cells #[.slice A0_0 l0_0.length c0_0, .slice A0_1 l0_1.length c0_1] 31 (0, 0)) (by (with_reducible repeat (first | refine zC ?_ _ | refine zD ?_ | refine zA ?_ _)); exact BK246.out) hb)
  have n1_ := zB.mk (zO (by repeat (first | (with_reducible first | exact HB.out | apply zJ | apply zF | apply zH | refine zE ?_ GE246.out) | exact HB.out)) hb)
  clear BK246 HB; have BK246 := n0_; have HB := n1_; clear n0_ n1_; (try clear hb)
  (try clear hb2)
  (try clear hk)
  (try clear hi)
  refine hK.out _ _ ⟨(zG BK246.out 0).trans rfl, (zG BK246.out 1).trans rfl⟩ (fun hHeld => ?_)
  clear hK K; refine norm_ (a' := ?_) ?_ ?_
  rotate_left
  · show Act.put _ (some 18) _ = _
    simp only [Act.put, sA_, sB_, sC_, i64_w, i32_w]; rfl
  refine one_ (i := 7) (N := some 20) #[true, true, true, true, true, true, true, true, false] rfl rfl (one_of HT_.out (by kernel_rfl)) (by decide) (fun K hK => ?_)
  refine goes_ Try.func28 (by kernel_rfl) rfl #[.agg #[.slice A0_0 l0_0.length c0_0, .slice A0_1 l0_1.length c0_1], .int .i64 a1, .int .i64 t247, .int .i64 a4] (by rfl) rfl rfl (by (try simp only [List.map_toArray, List.map_cons, List.map_nil]); first | done | rfl | (simp only [List.length_drop, List.length_take]; rfl)) ?_
  with_reducible refine (stanzaref13_Columns.calls k _ _ l0_0 _ _ l0_1 a1 t247 a4 t248 _ ?side1 ?side2 ?side3 ?side4 A7.out).mono ?_
  (case side1 => repeat (first | exact (Kd.C_below HR0_0.out HB.out) | (with_reducible refine Kd.C_alloc ?_ _) | (with_reducible refine Kd.C_drewN ?_ _) | (with_reducible refine Kd.C_drew ?_)))
  (case side2 => exact HC0_0.out)
  (case side3 => repeat (first | exact (Kd.C_below HR0_1.out HB.out) | (with_reducible refine Kd.C_alloc ?_ _) | (with_reducible refine Kd.C_drewN ?_ _) | (with_reducible refine Kd.C_drew ?_)))
  (case side4 => exact HC0_1.out)
  rintro e w20 ⟨v249, rfl, ho0, hb⟩
  refine ⟨_, rfl, ?_⟩
  have n0_ := zB.mk (Kd.R_lower ho0 (zM (by repeat (first | (with_reducible first | exact HB.out | apply zJ | apply zF | apply zH | refine zE ?_ GE246.out) | exact HB.out))))
  have n1_ := zB.mk (zK (g := gb246) (o := .cells #[.slice A0_0 l0_0.length c0_0, .slice A0_1 l0_1.length c0_1] 31 (0, 0)) (by (with_reducible repeat (first | refine zC ?_ _ | refine zD ?_ | refine zA ?_ _)); exact BK246.out) hb)
  have n2_ := zB.mk (zO (by repeat (first | (with_reducible first | exact HB.out | apply zJ | apply zF | apply zH | refine zE ?_ GE246.out) | exact HB.out)) hb)
  clear BK246 HB; have HO250 := n0_; have BK246 := n1_; have HB := n2_; clear n0_ n1_ n2_; (try clear hb)
  (try clear hb2)
  (try clear hk)
  (try clear hi)
  (try clear ho0)
  refine hK.out _ _ ⟨(zG BK246.out 0).trans rfl, (zG BK246.out 1).trans rfl⟩ (fun hHeld => ?_)
  clear hK K; refine norm_ (a' := ?_) ?_ ?_
  rotate_left
  · show Act.put _ (some 20) _ = _
    simp only [Act.put, sA_, sB_, sC_, i64_w, i32_w]; rfl
  refine pure_ (i := 8) (N := some 11) (v := ?_) (a' := ?_) #[true, true, true, true, true, true, true, true, true] rfl rfl (any_of HT_.out (by kernel_rfl)) (fun _ _ _ h => h) (Or.inl ⟨by rfl, ?_⟩) ?_ ?_
  rotate_left
  · intro w'
    go_simp
    with_reducible rfl
  rotate_left
  · simp only [Act.put, sA_, sB_, sC_, i64_w, i32_w]
    rfl
  refine done_ (done_of HT_.out (by kernel_rfl)) ?_
  obtain ⟨Ao21, co21, eo21⟩ := Kd.R_slice HO250.out; subst eo21; have p251 : 0 ≤ ((ji8) : Int) := of_decide_eq_true (by first | (with_reducible assumption) | assumption)
  have q251 : (ji8) < (t248.length : Int) := of_decide_eq_true (by first | (with_reducible assumption) | assumption)
  obtain ⟨ad251, e251, hx251_0⟩ := Kd.at_int (Kd.R_reads' HO250.out).2.2 (ji8) p251 q251; cases e251
  replace p251 := eq_true p251; replace q251 := eq_true q251; try go_wp2
  go_ret
  exact ⟨by first | rfl | (simp [errW_none, errW_some] <;> rfl) | (simp only [← hji8]; first | rfl | (simp [errW_none, errW_some] <;> rfl)) | (simp [*, errW_none, errW_some] <;> rfl), by repeat (first | (with_reducible first | exact HB.out | apply zJ | apply zF | apply zH | refine zE ?_ GE246.out) | exact HB.out)⟩
end Go.Proofs.Ytlgclhhkgohanaa.F
end
section
namespace Go.Proofs.Ytlgclhhkgohanaa.F
open Go.RowKit Go.Proofs.YtlgclhhkgohanaaW.PrintWords Go.Proofs.YtlgclhhkgohanaaW.PrintLast Go.Proofs.YtlgclhhkgohanaaW.PrintMore
attribute [local go_sem] max2_int min2_int max_two min_two max_three min_three max_four min_four   -- for this text's walks alone
set_option linter.unusedVariables false
set_option linter.unusedSimpArgs false
def stanzalaw15_BestOne.l0 : Nat → List (S45) → Int → Int → Int → Int → Int → Int → Int → Nat → Option (Bool)
  | 0, _, _, _, _, _, _, _, _, _ => none
  | k + 1, x0, x21, x22, x375000, x375001, x375002, x375003, x375004, x375005 => if x22 < x21 then (if 0 ≤ x22 then (if x22 < (x0.length : Int) then (if (Int.tmod ((rd_T45 x0 x22).f3) 4) = 2 then (stanzalaw15_BestOne.l0 k (x0.set (x22 : Int).toNat (⟨(rd_T45 x0 x22).f0, (rd_T45 x0 x22).f1, (rd_T45 x0 x22).f2, 0⟩ : S45)) x21 (wrap64 (x22 + 1)) x375000 x375001 x375002 x375003 x375004 x375005) else (stanzalaw15_BestOne.l0 k x0 x21 (wrap64 (x22 + 1)) x375000 x375001 x375002 x375003 x375004 x375005)) else (none)) else (none)) else ((stanzahand03_Para.f k x0).bind fun bt388 => ((stanzahand03_Config.f x375000 x375001 x375002 x375003 x375004 x375005).bind fun bt394 => ((best_Break.f k bt388.1 bt388.2 0 (bt388.1.length : Int) bt394.1 bt394.2.1 bt394.2.2.1 bt394.2.2.2.1 bt394.2.2.2.2.1 bt394.2.2.2.2.2).bind fun bt402 => (if (bt388.1.length : Int) = 0 then (if bt402.2 = true then (some ((bt402.1.length : Int) == 0)) else (some false)) else ((stanzaref13_Cells.f k bt388.1 bt388.2 0 (bt388.1.length : Int) 2 bt394.2.1).bind fun t406 => (if t406 > bt394.1 then (if bt402.2 = true then (some (decide ((bt402.1.length : Int) > 1))) else (some true)) else (if bt402.2 = true then (if (bt402.1.length : Int) = 1 then (if 0 < (bt402.1.length : Int) then (if ((rd_T48 bt402.1 0).f1) = (bt388.1.length : Int) then (some (((rd_T48 bt402.1 0).f3) == 2)) else (some false)) else (none)) else (some false)) else (some false))))))))
def stanzalaw15_BestOne.f (k : Nat) (l0 : List (S45)) (a1_0 : Int) (a1_1 : Int) (a1_2 : Int) (a1_3 : Int) (a1_4 : Int) (a1_5 : Nat) : Option (Bool) := (stanzalaw15_Awake.f k).bind fun t375 => (if t375 = true then ((some (([] : List (S45)) : List (S45))).bind fun y376 => (if 0 ≤ (mn (l0.length : Int) 200) then (if (mn (l0.length : Int) 200) ≤ (l0.length : Int) then ((some (l0.take ((mn (l0.length : Int) 200) : Int).toNat : List (S45))).bind fun y379 => (if y376.length + y379.length < 35184372088832 then ((some (y376 ++ y379 : List (S45))).bind fun y383 => (stanzalaw15_BestOne.l0 k y383 (y383.length : Int) 0 a1_0 a1_1 a1_2 a1_3 a1_4 a1_5)) else (none))) else (none)) else (none))) else (some false))
theorem stanzalaw15_BestOne.mono_l : ∀ k, (∀ y0 y1 y2 y3 y4 y5 y6 y7 y8, LeO (stanzalaw15_BestOne.l0 k y0 y1 y2 y3 y4 y5 y6 y7 y8) (stanzalaw15_BestOne.l0 (k + 1) y0 y1 y2 y3 y4 y5 y6 y7 y8))
  | 0 => fun _ _ _ _ _ _ _ _ _ r h => by simp [stanzalaw15_BestOne.l0] at h
  | k + 1 => by
    have ih0 := stanzalaw15_BestOne.mono_l k
    · intro y0 y1 y2 y3 y4 y5 y6 y7 y8
      unfold stanzalaw15_BestOne.l0
      repeat' first
      | (with_reducible exact ih0 _ _ _ _ _ _ _ _ _)
      | (with_reducible exact best_Break.mono _ _ _ _ _ _ _ _ _ _ _)
      | (with_reducible exact stanzahand03_Para.mono _ _)
      | (with_reducible exact stanzalaw15_Awake.mono _)
      | (with_reducible exact stanzaref13_Cells.mono _ _ _ _ _ _ _)
      | (with_reducible exact LeO.refl _)
      | (with_reducible exact LeO.none _)
      | (with_reducible refine LeO.ite ?_ ?_)
      | (with_reducible refine LeO.bind ?_ (fun _ => ?_))
      | exact ih0 _ _ _ _ _ _ _ _ _
      | exact best_Break.mono _ _ _ _ _ _ _ _ _ _ _
      | exact stanzahand03_Para.mono _ _
      | exact stanzalaw15_Awake.mono _
      | exact stanzaref13_Cells.mono _ _ _ _ _ _ _
      | exact LeO.none _
      | refine LeO.ite ?_ ?_
      | refine LeO.bind ?_ (fun _ => ?_)
theorem stanzalaw15_BestOne.mono : ∀ a0 a1 a2 a3 a4 a5 a6 k, LeO (stanzalaw15_BestOne.f k a0 a1 a2 a3 a4 a5 a6) (stanzalaw15_BestOne.f (k + 1) a0 a1 a2 a3 a4 a5 a6) := by
  intro a0 a1 a2 a3 a4 a5 a6 k
  have ih0 := stanzalaw15_BestOne.mono_l k; unfold stanzalaw15_BestOne.f
  repeat' first
      | (with_reducible exact ih0 _ _ _ _ _ _ _ _ _)
      | (with_reducible exact best_Break.mono _ _ _ _ _ _ _ _ _ _ _)
      | (with_reducible exact stanzahand03_Para.mono _ _)
      | (with_reducible exact stanzalaw15_Awake.mono _)
      | (with_reducible exact stanzaref13_Cells.mono _ _ _ _ _ _ _)
      | (with_reducible exact LeO.refl _)
      | (with_reducible exact LeO.none _)
      | (with_reducible refine LeO.ite ?_ ?_)
      | (with_reducible refine LeO.bind ?_ (fun _ => ?_))
      | exact ih0 _ _ _ _ _ _ _ _ _
      | exact best_Break.mono _ _ _ _ _ _ _ _ _ _ _
      | exact stanzahand03_Para.mono _ _
      | exact stanzalaw15_Awake.mono _
      | exact stanzaref13_Cells.mono _ _ _ _ _ _ _
      | exact LeO.none _
      | refine LeO.ite ?_ ?_
      | refine LeO.bind ?_ (fun _ => ?_)
def stanzalaw15_BestOne.T10 : Bool × List (List Nat × List Nat) := (true, [([], []), ([0], [0]), ([], []), ([2, 1], [2]), ([], []), ([], []), ([4, 1, 3, 0, 1, 4, 5], [1, 4]), ([5, 3, 6, 0, 1, 2, 3, 4, 5, 6], [3, 5])])
def stanzalaw15_BestOne.B10 : List Nat := [0, 1, 0, 7, 0, 0, 63, 127]
theorem stanzalaw15_BestOne.tab10 : rtab .any (opsOf Try.f6 10) = stanzalaw15_BestOne.T10 := by kernel_rfl
theorem stanzalaw15_BestOne.bits10 : waitsOk stanzalaw15_BestOne.T10.2 stanzalaw15_BestOne.B10 = true := by kernel_rfl
def stanzalaw15_BestOne.T15 : Bool × List (List Nat × List Nat) := (true, [([], []), ([], []), ([], []), ([2], [2]), ([0, 1, 3], [0, 1, 3]), ([], []), ([5], [5]), ([4, 6], [4, 6])])
def stanzalaw15_BestOne.B15 : List Nat := [0, 0, 0, 4, 15, 0, 32, 127]
theorem stanzalaw15_BestOne.tab15 : rtab .any (opsOf Try.f6 15) = stanzalaw15_BestOne.T15 := by kernel_rfl
theorem stanzalaw15_BestOne.bits15 : waitsOk stanzalaw15_BestOne.T15.2 stanzalaw15_BestOne.B15 = true := by kernel_rfl
set_option maxHeartbeats 8000000 in
set_option maxRecDepth 100000 in
theorem stanzalaw15_BestOne.calls (k : Nat) (A0 : Option Addr) (c0 : Nat) (l0 : List (S45)) (a1_0 : Int) (a1_1 : Int) (a1_2 : Int) (a1_3 : Int) (a1_4 : Int) (a1_5 : Nat) (r : Bool) (w : World) (hr0 : Kd.C k45 w A0 l0.length l0) (hc0 : l0.length ≤ c0) (h : stanzalaw15_BestOne.f k l0 a1_0 a1_1 a1_2 a1_3 a1_4 a1_5 = some r) (hrt_ : zB (r = true)) :
    Calls Try.prog 6 #[.slice A0 l0.length c0, .agg #[.int .u8 a1_0, .int .u8 a1_1, .int .u8 a1_2, .int .u16 a1_3, .int .u16 a1_4, .float .f64 a1_5]] w fun e w' => e = .returned (.bool r) ∧ Below w.heap.size w w' := by
  have hu26 := Try.underlying26; have hu31 := Try.underlying31; have hu35 := Try.underlying35; have HR0 := zB.mk hr0; have HC0 := zB.mk hc0; clear hr0 hc0; have HB := zB.mk (Below.refl w.heap.size w); have H : ((stanzalaw15_Awake.f k).bind fun t375 => (if t375 = true then ((some (([] : List (S45)) : List (S45))).bind fun y376 => (if 0 ≤ (mn (l0.length : Int) 200) then (if (mn (l0.length : Int) 200) ≤ (l0.length : Int) then ((some (l0.take ((mn (l0.length : Int) 200) : Int).toNat : List (S45))).bind fun y379 => (if y376.length + y379.length < 35184372088832 then ((some (y376 ++ y379 : List (S45))).bind fun y383 => (stanzalaw15_BestOne.l0 k y383 (y383.length : Int) 0 a1_0 a1_1 a1_2 a1_3 a1_4 a1_5)) else (none))) else (none)) else (none))) else (some false))) = some r := h
  clear h; replace H := Option.bind_eq_some_iff.mp H; obtain ⟨t375, A30, H⟩ := H; replace H : (if t375 = true then ((some (([] : List (S45)) : List (S45))).bind fun y376 => (if 0 ≤ (mn (l0.length : Int) 200) then (if (mn (l0.length : Int) 200) ≤ (l0.length : Int) then ((some (l0.take ((mn (l0.length : Int) 200) : Int).toNat : List (S45))).bind fun y379 => (if y376.length + y379.length < 35184372088832 then ((some (y376 ++ y379 : List (S45))).bind fun y383 => (stanzalaw15_BestOne.l0 k y383 (y383.length : Int) 0 a1_0 a1_1 a1_2 a1_3 a1_4 a1_5)) else (none))) else (none)) else (none))) else (some false)) = some r := H
  have A3 := zB.mk A30; clear A30; by_cases c4 : t375 = true
  rotate_left
  · replace c4 := Bool.eq_false_iff.mpr c4
    subst c4; have H1 : (some false) = some r := by rw [if_neg (show ¬ (false = true) by decide)] at H; exact H
    clear H; have H := H1; clear H1; exact absurd ((Option.some.inj H).trans hrt_.out) (by decide)
  subst c4; have H1 : ((some (([] : List (S45)) : List (S45))).bind fun y376 => (if 0 ≤ (mn (l0.length : Int) 200) then (if (mn (l0.length : Int) 200) ≤ (l0.length : Int) then ((some (l0.take ((mn (l0.length : Int) 200) : Int).toNat : List (S45))).bind fun y379 => (if y376.length + y379.length < 35184372088832 then ((some (y376 ++ y379 : List (S45))).bind fun y383 => (stanzalaw15_BestOne.l0 k y383 (y383.length : Int) 0 a1_0 a1_1 a1_2 a1_3 a1_4 a1_5)) else (none))) else (none)) else (none))) = some r := by rw [if_pos rfl] at H; exact H
  clear H; have H := H1; clear H1; obtain ⟨y376, hy376⟩ : ∃ y_ : List (S45), y_ = (([] : List (S45))) := ⟨_, rfl⟩; replace H : (if 0 ≤ (mn (l0.length : Int) 200) then (if (mn (l0.length : Int) 200) ≤ (l0.length : Int) then ((some (l0.take ((mn (l0.length : Int) 200) : Int).toNat : List (S45))).bind fun y379 => (if y376.length + y379.length < 35184372088832 then ((some (y376 ++ y379 : List (S45))).bind fun y383 => (stanzalaw15_BestOne.l0 k y383 (y383.length : Int) 0 a1_0 a1_1 a1_2 a1_3 a1_4 a1_5)) else (none))) else (none)) else (none)) = some r := by first | (rw [hy376]; with_reducible exact H) | (have H2_ := (Option.bind_some _ _).symm.trans H; rw [hy376]; with_reducible exact H2_) | (have H2_ := (Option.bind_some _ _).symm.trans H; with_reducible exact H2_) | with_reducible exact H | (rw [hy376]; exact H) | exact H
  have Ny376 := zB.mk hy376; clear hy376; obtain ⟨ji5, hji5⟩ : ∃ j_ : Int, (mn (l0.length : Int) 200) = j_ := ⟨_, rfl⟩; replace H : (if 0 ≤ (ji5) then (if (ji5) ≤ (l0.length : Int) then ((some (l0.take ((ji5) : Int).toNat : List (S45))).bind fun y379 => (if y376.length + y379.length < 35184372088832 then ((some (y376 ++ y379 : List (S45))).bind fun y383 => (stanzalaw15_BestOne.l0 k y383 (y383.length : Int) 0 a1_0 a1_1 a1_2 a1_3 a1_4 a1_5)) else (none))) else (none)) else (none)) = some r := by first | (rw [hji5] at H; exact H) | (simp only [hji5] at H ⊢; exact H)
  (try rw [hji5] at A3)
  (try (have hji5h : ji5 ≤ 200 := by (rw [← hji5]; unfold mn; (repeat' split) <;> omega)))
  (try (have hji5g : ji5 ≤ 64 := by omega))
  (try (have hji5l : 0 ≤ ji5 := by (rw [← hji5]; unfold mn; (repeat' split) <;> omega)))
  (try (have hji5m : 0 ≤ ji5 := by omega))
  have hji5_ : (if 200 < (l0.length : Int) then 200 else (l0.length : Int)) = ji5 := hji5
  by_cases c6 : 0 ≤ (ji5)
  rotate_left
  · rw [if_neg c6] at H
    exact absurd H (by simp)
  rw [if_pos c6] at H; have c6b0 := eq_true c6; have c6b1 : decide (0 ≤ (ji5)) = true := decide_eq_true c6
  clear c6; by_cases c7 : (ji5) ≤ (l0.length : Int)
  rotate_left
  · rw [if_neg c7] at H
    exact absurd H (by simp)
  rw [if_pos c7] at H; have c7b0 := eq_true c7; have c7b1 : decide ((ji5) ≤ (l0.length : Int)) = true := decide_eq_true c7
  clear c7; obtain ⟨y379, hy379⟩ : ∃ y_ : List (S45), y_ = (l0.take ((ji5) : Int).toNat) := ⟨_, rfl⟩; replace H : (if y376.length + y379.length < 35184372088832 then ((some (y376 ++ y379 : List (S45))).bind fun y383 => (stanzalaw15_BestOne.l0 k y383 (y383.length : Int) 0 a1_0 a1_1 a1_2 a1_3 a1_4 a1_5)) else (none)) = some r := by first | (rw [hy379]; with_reducible exact H) | (have H2_ := (Option.bind_some _ _).symm.trans H; rw [hy379]; with_reducible exact H2_) | (have H2_ := (Option.bind_some _ _).symm.trans H; with_reducible exact H2_) | with_reducible exact H | (rw [hy379]; exact H) | exact H
  have Ny379 := zB.mk hy379; clear hy379; by_cases c8 : y376.length + y379.length < 35184372088832
  rotate_left
  · rw [if_neg c8] at H
    exact absurd H (by simp)
  rw [if_pos c8] at H; have LMc8 := zB.mk c8; clear c8; obtain ⟨y383, hy383⟩ : ∃ y_ : List (S45), y_ = (y376 ++ y379) := ⟨_, rfl⟩; replace H : (stanzalaw15_BestOne.l0 k y383 (y383.length : Int) 0 a1_0 a1_1 a1_2 a1_3 a1_4 a1_5) = some r := by first | (rw [hy383]; with_reducible exact H) | (have H2_ := (Option.bind_some _ _).symm.trans H; rw [hy383]; with_reducible exact H2_) | (have H2_ := (Option.bind_some _ _).symm.trans H; with_reducible exact H2_) | with_reducible exact H | (rw [hy383]; exact H) | exact H
  have Ny383 := zB.mk hy383; clear hy383; have H' := zB.mk H
  clear H; go_enter Try.func6, Try.ntmps6
  go_wp2_with (first | ((with_reducible refine gate_dst (N := 3) rfl ?_); (try (refine gate_guard (by rfl) ?_; dsimp only)); refine box_event ?hg (N := 3) ?hd (cs := #[.int .u8 a1_0, .int .u8 a1_1, .int .u8 a1_2, .int .u16 a1_3, .int .u16 a1_4, .float .f64 a1_5]) (t := 26) ?hr ?_; (case hd => rfl); (case hg => rfl); (case hr => first | (go_simp; done) | (go_simp; rfl)); intro gb374 hg w9 hbox hb; have n0_ := zB.mk (zO (by repeat (first | (with_reducible first | exact HB.out | apply zJ | apply zF | apply zH) | exact HB.out)) hb); have n1_ := zB.mk (hbox); have n2_ := zB.mk ((by rw [hg]; exact (zM (by repeat (first | (with_reducible first | exact HB.out | apply zJ | apply zF | apply zH) | exact HB.out))) : w.heap.size ≤ gb374)); have n3_ := zB.mk ((by rw [hg]; exact (zM (by repeat (first | (with_reducible first | exact HB.out | apply zJ | apply zF | apply zH) | exact HB.out))) : w.heap.size ≤ gb374)); clear HB; have HB := n0_; have BK374 := n1_; have GW374 := n2_; have GE374 := n3_; clear n0_ n1_ n2_ n3_; clear hb hbox hg) | ((with_reducible refine gate_callee (f := 10) rfl ?_); refine goesL_ (some 11) rfl rfl Try.func10 (by kernel_rfl) rfl #[] rfl (by (try simp only [List.map_toArray, List.map_cons, List.map_nil]); first | done | rfl | (simp only [List.length_drop, List.length_take]; rfl)) ?_; (with_reducible refine (stanzalaw15_Awake.calls k  true _ A3.out (by first | exact ⟨rfl⟩ | exact hrt_)).mono ?_); rintro e w10 ⟨rfl, hb⟩; refine ⟨_, rfl, ?_⟩; have n0_ := zB.mk (zK (g := gb374) (o := .cells #[.int .u8 a1_0, .int .u8 a1_1, .int .u8 a1_2, .int .u16 a1_3, .int .u16 a1_4, .float .f64 a1_5] 26 (0, 0)) (by (with_reducible repeat (first | refine zC ?_ _ | refine zD ?_ | refine zA ?_ _)); exact BK374.out) hb); have n1_ := zB.mk (zO (by repeat (first | (with_reducible first | exact HB.out | apply zJ | apply zF | apply zH | refine zE ?_ GE374.out) | exact HB.out)) hb); clear BK374; clear HB; have BK374 := n0_; have HB := n1_; clear n0_ n1_; (try clear hb); (try clear hb2); (try clear hk); (try clear hi)) | ((with_reducible refine gate_dst (N := 13) rfl ?_); (try (refine gate_guard (by rfl) ?_; dsimp only)); refine Kd.R_lit k45 _ 45 ?hg (N := 13) ?hd (xs := ([] : List (S45))) (inner := []) (ok := fun _ => True) (okp := fun _ => True) ?hr ?hp (fun _ hk => hk) trivial (Below.refl _ _) (Nat.le_refl _) (by simp) ?_; (case hd => rfl); (case hg => rfl); (case hr => first | (go_simp; done) | (go_simp; rfl)); (case hp => exact (Reps.none _ _)); intro v377 w11 ho12 hb hg_ hnew_; clear hg_ hnew_; (first | rw [← Ny376.out] at ho12 | (simp only [Int.reduceToNat] at ho12; rw [← Ny376.out] at ho12)); have n0_ := zB.mk (Kd.R_lower ho12 (zM (by repeat (first | (with_reducible first | exact HB.out | apply zJ | apply zF | apply zH | refine zE ?_ GE374.out) | exact HB.out)))); have n1_ := zB.mk (zK (g := gb374) (o := .cells #[.int .u8 a1_0, .int .u8 a1_1, .int .u8 a1_2, .int .u16 a1_3, .int .u16 a1_4, .float .f64 a1_5] 26 (0, 0)) (by (with_reducible repeat (first | refine zC ?_ _ | refine zD ?_ | refine zA ?_ _)); exact BK374.out) hb); have n2_ := zB.mk (zO (by repeat (first | (with_reducible first | exact HB.out | apply zJ | apply zF | apply zH | refine zE ?_ GE374.out) | exact HB.out)) hb); clear BK374; clear HB; have HO378 := n0_; have BK374 := n1_; have HB := n2_; clear n0_ n1_ n2_; clear hb ho12; have q13 : ((ji5) : Int) ≤ ((l0.length : Int) : Int) := of_decide_eq_true (by first | (with_reducible assumption) | assumption); obtain ⟨i013, hi013, _, hsz13, _⟩ := info_parts info45; have hroom13 : l0.length ≤ c0 := HC0.out; have hC13 : Kd.C k45 _ A0 l0.length l0 := HR0.out; have hcut13 := cut_to (P := Try.prog) 22 45 .i64 Try.underlying22 hi013 A0 l0.length c0 (ji5) (of_decide_eq_true (by first | (with_reducible assumption) | assumption)) q13 hroom13; have hr13 := Kd.C_take (m := ((ji5) : Int).toNat) hC13 (by omega); have hy13 : y379.length = ((ji5) : Int).toNat := (by rw [Ny379.out, List.length_take]; omega); rw [← Ny379.out] at hr13; rw [← hy13] at hcut13; have HR382 := zB.mk hr13; have HC382 := zB.mk (show y379.length ≤ c0 from by omega); clear hr13 hC13 hroom13 hi013 hsz13; have KY13 := zB.mk hy13; clear hy13; replace q13 := eq_true q13) | ((with_reducible refine gate_builtin (b := .append) (xs := #[.tmp 13, .tmp 18]) rfl ?_); (try (refine gate_guard (by rfl) ?_; dsimp only)); at_builtin; refine Kd.R_append_rows k45 (w0 := w) w.heap.size rfl (.tmp 13) (.tmp 18) 22 45 (.agg #[(.int .u8 0), (.int .u8 0), (.int .u8 0), (.int .u8 0)]) 4 rfl Try.underlying22 info45 rfl (by decide) (by omega) v377 y376 y379 _ _ _ (fun _ => True) (fun _ => False) rfl rfl ?aO ?aR (fun _ _ h => h) (fun _ h => h.elim) ?aF ?aB ?aS ?aL ?_; (case aR => repeat (first | exact (Kd.C_below HR382.out HB.out) | (with_reducible refine Kd.C_alloc ?_ _) | (with_reducible refine Kd.C_drewN ?_ _) | (with_reducible refine Kd.C_drew ?_))); (case aB => exact (by repeat (first | (with_reducible first | exact HB.out | apply zJ | apply zF | apply zH | refine zE ?_ GE374.out) | exact HB.out))); (case aF => exact (fun _ _ => trivial)); (case aO => exact (by (with_reducible repeat (first | apply Kd.R_alloc | apply Kd.R_drewN | apply Kd.R_drew)); exact HO378.out)); (case aS => exact (zM (by repeat (first | (with_reducible first | exact HB.out | apply zJ | apply zF | apply zH | refine zE ?_ GE374.out) | exact HB.out)))); (case aL => have := LMc8.out; omega); intro v384 w14 ho hb hg hat; rw [← Ny383.out] at ho; have n0_ := zB.mk (blk_grown (g := gb374) (o := .cells #[.int .u8 a1_0, .int .u8 a1_1, .int .u8 a1_2, .int .u16 a1_3, .int .u16 a1_4, .float .f64 a1_5] 26 (0, 0)) (by (with_reducible repeat (first | refine zC ?_ _ | refine zD ?_ | refine zA ?_ _)); exact BK374.out) hg (Kd.R_ne HO378.out BK374.out (by decide))); have n1_ := zB.mk (hb); have n2_ := zB.mk (ho); clear BK374; clear HB; clear HO378; have BK374 := n0_; have HB := n1_; have HO385 := n2_; clear n0_ n1_ n2_; clear ho hb hg hat; obtain ⟨Ao15, co15, eo15⟩ := Kd.R_slice HO385.out; subst eo15))
  go_loopg [22] k (fun kq v22 w' => ∃ (x0_1 : List (S45)) (x22_1 : Int), v22 = .int .i64 x22_1 ∧ zB (stanzalaw15_BestOne.l0 kq x0_1 (y383.length : Int) x22_1 a1_0 a1_1 a1_2 a1_3 a1_4 a1_5 = some r) ∧ zB (kq ≤ k) ∧ zB (Kd.R k45 45 w' w.heap.size (fun _ => True) (.slice Ao15 y383.length co15) x0_1) ∧ zB (w'.heap[gb374]? = some (.cells #[.int .u8 a1_0, .int .u8 a1_1, .int .u8 a1_2, .int .u16 a1_3, .int .u16 a1_4, .float .f64 a1_5] 26 (0, 0))) ∧ zB (Below w.heap.size w w'))
  case atStart => exact ⟨(y383), (0), (by first | rfl | (simp; done) | (simp [*]; done)), H', ⟨Nat.le_refl _⟩, ⟨by (with_reducible repeat (first | apply Kd.R_alloc | apply Kd.R_drewN | apply Kd.R_drew)); exact HO385.out⟩, ⟨by (with_reducible repeat (first | refine zC ?_ _ | refine zD ?_ | refine zA ?_ _)); exact BK374.out⟩, ⟨by repeat (first | (with_reducible first | exact HB.out | apply zJ | apply zF | apply zH | refine zE ?_ GE374.out) | exact HB.out)⟩⟩
  clear H'; try clear c1
  try clear q1
  try clear p2
  try clear c4
  try clear c6
  try clear c6b0
  try clear c6b1
  try clear c7
  try clear c7b0
  try clear c7b1
  try clear c8
  try clear c10
  try clear q13
  try clear q13
  obtain ⟨x0_1, x22_1, rfl, HA, HK1, HO_0, BK374, HB⟩ := hrel; have hl0_1 := (Kd.R_reads' HO_0.out).1; rw [hl0_1] at HO_0; (try simp only [hl0_1])
  (try simp only [hl0_1] at BK374)
  cases gk with
  | zero => exact absurd HA.out (by simp [stanzalaw15_BestOne.l0])
  | succ k1 =>
    have H := HA.out; clear HA; simp only [stanzalaw15_BestOne.l0] at H; by_cases c16 : x22_1 < (y383.length : Int)
    · rw [if_pos c16] at H
      have c16b0 : decide (x22_1 < (y383.length : Int)) = true := decide_eq_true c16
      (try simp only [hl0_1] at c16b0)
      clear c16; by_cases c17 : 0 ≤ x22_1
      rotate_left
      · rw [if_neg c17] at H
        exact absurd H (by simp)
      rw [if_pos c17] at H; have c17b0 : decide (0 ≤ x22_1) = true := decide_eq_true c17
      clear c17; by_cases c18 : x22_1 < (x0_1.length : Int)
      rotate_left
      · rw [if_neg c18] at H
        exact absurd H (by simp)
      rw [if_pos c18] at H; have c18b0 : decide (x22_1 < (x0_1.length : Int)) = true := decide_eq_true c18
      (try simp only [hl0_1] at c18b0)
      clear c18; by_cases c19 : (Int.tmod ((rd_T45 x0_1 x22_1).f3) 4) = 2
      rotate_left
      · rw [if_neg c19] at H
        have c19b0 : ((Int.tmod ((rd_T45 x0_1 x22_1).f3) 4) == 2) = false := beq_eq_false_iff_ne.mpr c19
        have c19b1 : ((Int.tmod ((rd_T45 x0_1 x22_1).f3) 4) != 2) = true := bne_iff_ne.mpr c19
        have H' := zB.mk H
        clear H; have p386 : 0 ≤ (x22_1 : Int) := of_decide_eq_true (by first | (with_reducible assumption) | assumption)
        have q386 : x22_1 < (x0_1.length : Int) := of_decide_eq_true (by first | (with_reducible assumption) | assumption)
        obtain ⟨ad386, e386, hx386_0, hx386_1, hx386_2, hx386_3⟩ := at_T45 (Kd.R_reads' HO_0.out).2.2 x22_1 p386 q386; cases e386
        replace p386 := eq_true p386; replace q386 := eq_true q386; go_wp2
        (try simp only [← hl0_1])
        go_roundg k1
        case measure => have := HK1.out; omega
        case rel => exact ⟨(x0_1), (wrap64 (x22_1 + 1)), (by first | rfl | (simp; done) | (simp [*]; done)), H', ⟨by have := HK1.out; omega⟩, ⟨by (try simp only [hl0_1]); (with_reducible repeat (first | apply Kd.R_alloc | apply Kd.R_drewN | apply Kd.R_drew)); exact HO_0.out⟩, ⟨by (try simp only [hl0_1]); (with_reducible repeat (first | refine zC ?_ _ | refine zD ?_ | refine zA ?_ _)); exact BK374.out⟩, ⟨by repeat (first | (with_reducible first | exact HB.out | apply zJ | apply zF | apply zH | refine zE ?_ GE374.out) | exact HB.out)⟩⟩
      rw [if_pos c19] at H; have c19b0 : ((Int.tmod ((rd_T45 x0_1 x22_1).f3) 4) == 2) = true := beq_iff_eq.mpr c19
      have c19b1 : ((Int.tmod ((rd_T45 x0_1 x22_1).f3) 4) != 2) = false := bne_eq_false_iff_eq.mpr c19
      clear c19; obtain ⟨y387, hy387⟩ : ∃ y_ : List (S45), y_ = (x0_1.set (x22_1 : Int).toNat (⟨(rd_T45 x0_1 x22_1).f0, (rd_T45 x0_1 x22_1).f1, (rd_T45 x0_1 x22_1).f2, 0⟩ : S45)) := ⟨_, rfl⟩; replace H : (stanzalaw15_BestOne.l0 k1 y387 (y383.length : Int) (wrap64 (x22_1 + 1)) a1_0 a1_1 a1_2 a1_3 a1_4 a1_5) = some r := by first | (rw [hy387]; with_reducible exact H) | (have H2_ := (Option.bind_some _ _).symm.trans H; rw [hy387]; with_reducible exact H2_) | (have H2_ := (Option.bind_some _ _).symm.trans H; with_reducible exact H2_) | with_reducible exact H | (rw [hy387]; exact H) | exact H
      have Ny387 := zB.mk hy387; clear hy387; have H' := zB.mk H
      clear H; have p386 : 0 ≤ (x22_1 : Int) := of_decide_eq_true (by first | (with_reducible assumption) | assumption)
      have q386 : x22_1 < (x0_1.length : Int) := of_decide_eq_true (by first | (with_reducible assumption) | assumption)
      obtain ⟨ad386, e386, hx386_0, hx386_1, hx386_2, hx386_3⟩ := at_T45 (Kd.R_reads' HO_0.out).2.2 x22_1 p386 q386; cases e386
      replace p386 := eq_true p386; replace q386 := eq_true q386; have p20 : 0 ≤ (x22_1 : Int) := of_decide_eq_true (by first | (with_reducible assumption) | assumption)
      have q20 : (x22_1 : Int) < ((x0_1.length : Int) : Int) := of_decide_eq_true (by first | (with_reducible assumption) | assumption)
      obtain ⟨go20, co20, eo20, gb20, gl20, cl20, HG20⟩ := Kd.R_form HO_0.out (by omega)
      (first | cases eo20 | (injection eo20 with ea_ en_ ec_; (first | subst ea_ | (injection ea_ with ea_; subst ea_)); subst ec_; clear en_))
      have GB20 := zB.mk gb20; have GG20 := zB.mk HG20; clear gb20 gl20 HG20; (first | simp only [add_plain] at hx386_0 | skip)
      (first | simp only [add_plain] at hx386_1 | skip)
      (first | simp only [add_plain] at hx386_2 | skip)
      (first | simp only [add_plain] at hx386_3 | skip)
      obtain ⟨ce20, hcl20, hM20, hcc20, hfr20⟩ := Kd.R_elem HO_0.out z45 (x22_1 : Int) p20 q20; obtain rfl := k45_openM hM20
      have hx20_0 : wr.cell? ⟨go20, (x22_1 : Int).toNat * 4, none⟩ = some (.int .u8 ((rd_T45 x0_1 x22_1).f0)) := hcc20 0 _ rfl
      have hx20_1 : wr.cell? ⟨go20, (x22_1 : Int).toNat * 4 + 1, none⟩ = some (.int .u8 ((rd_T45 x0_1 x22_1).f1)) := hcc20 1 _ rfl
      have hx20_2 : wr.cell? ⟨go20, (x22_1 : Int).toNat * 4 + 2, none⟩ = some (.int .u8 ((rd_T45 x0_1 x22_1).f2)) := hcc20 2 _ rfl
      have hx20_3 : wr.cell? ⟨go20, (x22_1 : Int).toNat * 4 + 3, none⟩ = some (.int .u8 ((rd_T45 x0_1 x22_1).f3)) := hcc20 3 _ rfl
      have hf20_0 : wr.frozen? ⟨go20, (x22_1 : Int).toNat * 4, none⟩ = false := hfr20 0
      have hf20_1 : wr.frozen? ⟨go20, (x22_1 : Int).toNat * 4 + 1, none⟩ = false := hfr20 1
      have hf20_2 : wr.frozen? ⟨go20, (x22_1 : Int).toNat * 4 + 2, none⟩ = false := hfr20 2
      have hf20_3 : wr.frozen? ⟨go20, (x22_1 : Int).toNat * 4 + 3, none⟩ = false := hfr20 3
      clear hcl20 hcc20 hfr20 hM20; replace p20 := eq_true p20; replace q20 := eq_true q20; have HX21 := zB.mk (show Kd.R k45 45 wr w.heap.size (fun _ => True) (.slice (some ⟨go20, 0, none⟩) x0_1.length co15) x0_1 from (by (with_reducible repeat (first | apply Kd.R_alloc | apply Kd.R_drewN | apply Kd.R_drew)); exact HO_0.out))
      obtain ⟨ce21, hcl21, hM21, hcc21, hfr21⟩ := Kd.R_elem HX21.out z45 (x22_1 : Int) (of_decide_eq_true (by first | (with_reducible assumption) | assumption)) (by have h_ : (x22_1 : Int) < ((x0_1.length : Int) : Int) := of_decide_eq_true (by first | (with_reducible assumption) | assumption); first | exact h_ | (have e_ := (Kd.R_reads' HO_0.out).1; omega) | simpa using h_)
      obtain rfl := k45_openM hM21
      have HP21 := Kd.R_seg HX21.out (x22_1 : Int) (of_decide_eq_true (by first | (with_reducible assumption) | assumption)) (by have h_ : (x22_1 : Int) < ((x0_1.length : Int) : Int) := of_decide_eq_true (by first | (with_reducible assumption) | assumption); first | exact h_ | (have e_ := (Kd.R_reads' HO_0.out).1; omega) | simpa using h_) (seg := [.int .u8 0]) (j := 3) hcl21 hcc21 (show 4 ≤ 4 from by decide) (x' := (⟨(rd_T45 x0_1 x22_1).f0, (rd_T45 x0_1 x22_1).f1, (rd_T45 x0_1 x22_1).f2, 0⟩ : S45)) (k45_mkM _ _ _ (⟨(rd_T45 x0_1 x22_1).f0, (rd_T45 x0_1 x22_1).f1, (rd_T45 x0_1 x22_1).f2, 0⟩ : S45) ) (fun _ hk => hk)
      have hx21_3 := hcc21 3 _ rfl; (try simp only [show (k45).sz = 4 from rfl, Nat.mul_one, Nat.add_zero] at hx21_3)
      have hf21_3 := hfr21 3; (try simp only [show (k45).sz = 4 from rfl, Nat.mul_one, Nat.add_zero] at hf21_3)
      clear hcl21 hcc21 hfr21 hM21; go_wp2_with (first | ((with_reducible refine gate_store (t := 5) (p := 35) rfl ?_); refine store_event (t := 5) (p := 35) (v := ?vo_w22) (w1 := (wr.setCell ⟨go20, (x22_1 : Int).toNat * 4 + 3, none⟩ (.int .u8 0))) ?hg ?ho ?hn ?hr ?_; (case ho => rfl); (case hg => rfl); (case hn => rfl); (case hr => first | (go_simp; done) | (go_simp; rfl)); intro w22 hw; have hg : wr.grownBy w22 (some go20) := (by rw [hw]; exact HP21.2); have hp_ : Kd.R k45 45 w22 w.heap.size (fun _ => True) (.slice (some ⟨go20, 0, none⟩) x0_1.length co15) y387 := (by rw [hw, Ny387.out]; exact HP21.1); clear HP21; have n0_ := zB.mk (hp_); have n1_ := zB.mk (blk_grown (g := gb374) (o := .cells #[.int .u8 a1_0, .int .u8 a1_1, .int .u8 a1_2, .int .u16 a1_3, .int .u16 a1_4, .float .f64 a1_5] 26 (0, 0)) (by (with_reducible repeat (first | refine zC ?_ _ | refine zD ?_ | refine zA ?_ _)); exact BK374.out) hg (Kd.R_ne HO_0.out BK374.out (by decide))); have n2_ := zB.mk ((by rw [hw]; exact zE (HB.out) GB20.out : Below w.heap.size w w22)); clear HO_0; clear BK374; clear HB; have HO_0 := n0_; have BK374 := n1_; have HB := n2_; clear n0_ n1_ n2_; clear hg hw hp_))
      (try simp only [← hl0_1])
      go_roundg k1
      case measure => have := HK1.out; omega
      case rel => exact ⟨(y387), (wrap64 (x22_1 + 1)), (by first | rfl | (simp; done) | (simp [*]; done)), H', ⟨by have := HK1.out; omega⟩, ⟨by (try simp only [hl0_1]); (with_reducible repeat (first | apply Kd.R_alloc | apply Kd.R_drewN | apply Kd.R_drew)); exact HO_0.out⟩, ⟨by (try simp only [hl0_1]); (with_reducible repeat (first | refine zC ?_ _ | refine zD ?_ | refine zA ?_ _)); exact BK374.out⟩, ⟨by repeat (first | (with_reducible first | exact HB.out | apply zJ | apply zF | apply zH | refine zE ?_ GE374.out) | exact HB.out)⟩⟩
    rw [if_neg c16] at H; have c16b0 : decide (x22_1 < (y383.length : Int)) = false := decide_eq_false c16
    (try simp only [hl0_1] at c16b0)
    clear c16; replace H := Option.bind_eq_some_iff.mp H; obtain ⟨⟨t388, t391⟩, A230, H⟩ := H; replace H : ((stanzahand03_Config.f a1_0 a1_1 a1_2 a1_3 a1_4 a1_5).bind fun bt394 => ((best_Break.f k1 t388 t391 0 (t388.length : Int) bt394.1 bt394.2.1 bt394.2.2.1 bt394.2.2.2.1 bt394.2.2.2.2.1 bt394.2.2.2.2.2).bind fun bt402 => (if (t388.length : Int) = 0 then (if bt402.2 = true then (some ((bt402.1.length : Int) == 0)) else (some false)) else ((stanzaref13_Cells.f k1 t388 t391 0 (t388.length : Int) 2 bt394.2.1).bind fun t406 => (if t406 > bt394.1 then (if bt402.2 = true then (some (decide ((bt402.1.length : Int) > 1))) else (some true)) else (if bt402.2 = true then (if (bt402.1.length : Int) = 1 then (if 0 < (bt402.1.length : Int) then (if ((rd_T48 bt402.1 0).f1) = (t388.length : Int) then (some (((rd_T48 bt402.1 0).f3) == 2)) else (some false)) else (none)) else (some false)) else (some false))))))) = some r := H
    have A23 := zB.mk A230; clear A230; replace H := Option.bind_eq_some_iff.mp H; obtain ⟨⟨t394, t395, t396, t397, t398, t399⟩, A240, H⟩ := H; replace H : ((best_Break.f k1 t388 t391 0 (t388.length : Int) t394 t395 t396 t397 t398 t399).bind fun bt402 => (if (t388.length : Int) = 0 then (if bt402.2 = true then (some ((bt402.1.length : Int) == 0)) else (some false)) else ((stanzaref13_Cells.f k1 t388 t391 0 (t388.length : Int) 2 t395).bind fun t406 => (if t406 > t394 then (if bt402.2 = true then (some (decide ((bt402.1.length : Int) > 1))) else (some true)) else (if bt402.2 = true then (if (bt402.1.length : Int) = 1 then (if 0 < (bt402.1.length : Int) then (if ((rd_T48 bt402.1 0).f1) = (t388.length : Int) then (some (((rd_T48 bt402.1 0).f3) == 2)) else (some false)) else (none)) else (some false)) else (some false)))))) = some r := H
    have A24 := zB.mk A240; clear A240; replace H := Option.bind_eq_some_iff.mp H; obtain ⟨⟨t402, t405⟩, A250, H⟩ := H; replace H : (if (t388.length : Int) = 0 then (if t405 = true then (some ((t402.length : Int) == 0)) else (some false)) else ((stanzaref13_Cells.f k1 t388 t391 0 (t388.length : Int) 2 t395).bind fun t406 => (if t406 > t394 then (if t405 = true then (some (decide ((t402.length : Int) > 1))) else (some true)) else (if t405 = true then (if (t402.length : Int) = 1 then (if 0 < (t402.length : Int) then (if ((rd_T48 t402 0).f1) = (t388.length : Int) then (some (((rd_T48 t402 0).f3) == 2)) else (some false)) else (none)) else (some false)) else (some false))))) = some r := H
    have A25 := zB.mk A250; clear A250; by_cases c26 : (t388.length : Int) = 0
    · rw [if_pos c26] at H
      have c26b0 : ((t388.length : Int) == 0) = true := beq_iff_eq.mpr c26
      have c26b1 : ((t388.length : Int) != 0) = false := bne_eq_false_iff_eq.mpr c26
      (try simp only [hl0_1] at c26b0)
      (try simp only [hl0_1] at c26b1)
      clear c26; by_cases c27 : t405 = true
      rotate_left
      · replace c27 := Bool.eq_false_iff.mpr c27
        subst c27; have H1 : (some false) = some r := by rw [if_neg (show ¬ (false = true) by decide)] at H; exact H
        clear H; have H := H1; clear H1; exact absurd ((Option.some.inj H).trans hrt_.out) (by decide)
      subst c27; have H1 : (some ((t402.length : Int) == 0)) = some r := by rw [if_pos rfl] at H; exact H
      clear H; have H := H1; clear H1; obtain rfl := Option.some.inj H
      try go_wp2
      have n0_ := zB.mk (Kd.R_drew HO_0.out); have n1_ := zB.mk (zD BK374.out); have n2_ := zB.mk (zH HB.out); clear HO_0; clear BK374; clear HB; have HO_0 := n0_; have BK374 := n1_; have HB := n2_; clear n0_ n1_ n2_; refine start_ (n := 8) (S := fun w' => w'.cell? ⟨gb374, 0, none⟩ = some (.int .u8 a1_0) ∧ w'.cell? ⟨gb374, 1, none⟩ = some (.int .u8 a1_1) ∧ w'.cell? ⟨gb374, 2, none⟩ = some (.int .u8 a1_2) ∧ w'.cell? ⟨gb374, 3, none⟩ = some (.int .u16 a1_3) ∧ w'.cell? ⟨gb374, 4, none⟩ = some (.int .u16 a1_4) ∧ w'.cell? ⟨gb374, 5, none⟩ = some (.float .f64 a1_5)) (ds := []) #[false, false, false, false, false, false, false, false] (by kernel_rfl) rfl rfl ⟨(zG BK374.out 0).trans rfl, (zG BK374.out 1).trans rfl, (zG BK374.out 2).trans rfl, (zG BK374.out 3).trans rfl, (zG BK374.out 4).trans rfl, (zG BK374.out 5).trans rfl⟩ (fun hHeld => ?_); refine with_tabW stanzalaw15_BestOne.tab10 stanzalaw15_BestOne.bits10 (fun HT_ HW_ => ?_)
      generalize wr.drew = w28 at HO_0 BK374 HB hHeld ⊢
      refine pure_ (i := 0) (N := some 37) (v := ?_) (a' := ?_) (tf_ 1 8) rfl rfl (any_of HT_.out (by kernel_rfl)) (fun _ _ _ h => h) (Or.inl ⟨by rfl, ?_⟩) ?_ ?_
      rotate_left
      · intro w'
        go_simp
        with_reducible rfl
      rotate_left
      · simp only [Act.put, sA_, sB_, sC_, i64_w, i32_w]
        rfl
      refine take_ (i := 2) (N := some 39) (v := ?_) (a' := ?_) #[true, false, true, false, false, false, false, false] rfl rfl (take_ofW HT_.out HW_.out (by kernel_rfl)) (fun _ _ _ h => h) (Or.inl ⟨by rfl, ?_⟩) hHeld ?_ ?_
      rotate_left
      · rintro w' ⟨s0, s1, s2, s3, s4, s5⟩
        go_simp
        with_reducible rfl
      rotate_left
      · simp only [Act.put, sA_, sB_, sC_, i64_w, i32_w]
        rfl
      refine join_ (σ := Value × Value × Nat × Nat) 2 #[true, true, true, true, true, true, false, false] (fun s_ => [(38, .agg #[s_.1, s_.2.1]), (40, .agg #[.int .i64 t394, .int .i64 t395, .int .u8 t396, .int .i64 t397, .int .i64 t398, .float .f64 t399]), (6, .pointer (some ⟨s_.2.2.1, 0, none⟩)), (7, .pointer (some ⟨s_.2.2.2, 0, none⟩))]) (fun s_ w' => (w'.cell? ⟨gb374, 0, none⟩ = some (.int .u8 a1_0) ∧ w'.cell? ⟨gb374, 1, none⟩ = some (.int .u8 a1_1) ∧ w'.cell? ⟨gb374, 2, none⟩ = some (.int .u8 a1_2) ∧ w'.cell? ⟨gb374, 3, none⟩ = some (.int .u16 a1_3) ∧ w'.cell? ⟨gb374, 4, none⟩ = some (.int .u16 a1_4) ∧ w'.cell? ⟨gb374, 5, none⟩ = some (.float .f64 a1_5)) ∧ (Kd.R k62 62 w' w.heap.size (fun _ => True) s_.1 t388) ∧ (Kd.R (Kd.int .u8) 46 w' w.heap.size (fun _ => True) s_.2.1 t391) ∧ (Kd.R k45 45 w' w.heap.size (fun _ => True) (.slice Ao15 x0_1.length co15) x0_1) ∧ (w'.heap[gb374]? = some (.cells #[.int .u8 a1_0, .int .u8 a1_1, .int .u8 a1_2, .int .u16 a1_3, .int .u16 a1_4, .float .f64 a1_5] 26 (0, 0))) ∧ (w'.heap[s_.2.2.1]? = some (.cells #[.slice none 0 0, .slice none 0 0] 31 (0, 0))) ∧ (w'.heap[s_.2.2.2]? = some (.cells #[.int .i64 0, .int .i64 0, .int .u8 0, .int .i64 0, .int .i64 0, .float .f64 0] 35 (0, 0))) ∧ (w.heap.size ≤ s_.2.2.1) ∧ (w.heap.size ≤ s_.2.2.1) ∧ (gb374 ≠ s_.2.2.1) ∧ (s_.2.2.1 ≠ gb374) ∧ (s_.2.2.2 ≠ s_.2.2.1) ∧ (s_.2.2.1 ≠ s_.2.2.2) ∧ (w.heap.size ≤ s_.2.2.2) ∧ (w.heap.size ≤ s_.2.2.2) ∧ (gb374 ≠ s_.2.2.2) ∧ (s_.2.2.2 ≠ gb374) ∧ (Below w.heap.size w w')) ?_ ?_
      rotate_left
      · intro hJ1_3_4_5
        refine par4_ (fuel := 2) (l' := #[true, true, true, true, true, true, false, false]) (i1 := 1) (i3 := 3) (i4 := 4) (i5 := 5) (σ := Value × Value) (cs4 := #[.slice none 0 0, .slice none 0 0]) (t4 := 31) (cs5 := #[.int .i64 0, .int .i64 0, .int .u8 0, .int .i64 0, .int .i64 0, .float .f64 0]) (t5 := 35) (fun s_ => .agg #[s_.1, s_.2]) (.agg #[.int .i64 t394, .int .i64 t395, .int .u8 t396, .int .i64 t397, .int .i64 t398, .float .f64 t399]) (par4_of HT_.out (by kernel_rfl)) rfl rfl rfl rfl rfl rfl rfl rfl rfl rfl (by decide) rfl (fun w_ => (w_.cell? ⟨gb374, 0, none⟩ = some (.int .u8 a1_0) ∧ w_.cell? ⟨gb374, 1, none⟩ = some (.int .u8 a1_1) ∧ w_.cell? ⟨gb374, 2, none⟩ = some (.int .u8 a1_2) ∧ w_.cell? ⟨gb374, 3, none⟩ = some (.int .u16 a1_3) ∧ w_.cell? ⟨gb374, 4, none⟩ = some (.int .u16 a1_4) ∧ w_.cell? ⟨gb374, 5, none⟩ = some (.float .f64 a1_5)) ∧ (Kd.R k45 45 w_ w.heap.size (fun _ => True) (.slice Ao15 x0_1.length co15) x0_1) ∧ (w_.heap[gb374]? = some (.cells #[.int .u8 a1_0, .int .u8 a1_1, .int .u8 a1_2, .int .u16 a1_3, .int .u16 a1_4, .float .f64 a1_5] 26 (0, 0))) ∧ (Below w.heap.size w w_)) ?pgrow (fun _ hP_ => hP_.1) (fun s_ w_ => (Kd.R k62 62 w_ w.heap.size (fun _ => True) s_.1 t388) ∧ (Kd.R (Kd.int .u8) 46 w_ w.heap.size (fun _ => True) s_.2 t391)) ?pF (fun g_ => (w.heap.size ≤ g_) ∧ (gb374 ≠ g_) ∧ (g_ ≠ gb374)) ?pNew ?pc1 ?pc3 ?pc4 ?pc5 ?pPhi ?pcont
        case pgrow =>
          intro w0_ w1_ hP_ hb_; obtain ⟨hS_, k0_, k1_, k2_⟩ := hP_; have HO_0 := zB.mk (by first | exact Kd.R_below k0_ hb_ | exact zK k0_ hb_ | exact zO k0_ hb_); have BK374 := zB.mk (by first | exact Kd.R_below k1_ hb_ | exact zK k1_ hb_ | exact zO k1_ hb_); have HB := zB.mk (by first | exact Kd.R_below k2_ hb_ | exact zK k2_ hb_ | exact zO k2_ hb_)
          exact ⟨⟨(zG BK374.out 0).trans rfl, (zG BK374.out 1).trans rfl, (zG BK374.out 2).trans rfl, (zG BK374.out 3).trans rfl, (zG BK374.out 4).trans rfl, (zG BK374.out 5).trans rfl⟩, HO_0.out, BK374.out, HB.out⟩
        case pF => intro s_ w0_ w1_ hP_ hb_; obtain ⟨f0_, f1_⟩ := hP_; exact ⟨(by first | exact Kd.R_below f0_ hb_ | exact zK f0_ hb_ | exact zO f0_ hb_), (by first | exact Kd.R_below f1_ hb_ | exact zK f1_ hb_ | exact zO f1_ hb_)⟩
        case pNew => intro w0_ hP_; obtain ⟨hS_, k0_, k1_, k2_⟩ := hP_; (try have l0_ := blk_lt k0_); (try have m0_ := zM k0_); (try have l1_ := blk_lt k1_); (try have m1_ := zM k1_); (try have l2_ := blk_lt k2_); (try have m2_ := zM k2_); refine ⟨?_, ?_, ?_⟩ <;> omega
        case pc1 =>
          intro a_ W_ K_ hev_ hP_ h_; obtain ⟨hS_, k0_, k1_, k2_⟩ := hP_; have HO_0 := zB.mk k0_; have BK374 := zB.mk k1_; have HB := zB.mk k2_
          refine goes_ Try.func11 (by kernel_rfl) rfl #[.slice Ao15 x0_1.length co15] (by rfl) rfl rfl (by simp only [List.map_toArray, List.map_cons, List.map_nil]; first | rfl | (simp (disch := decide) only [hev_]; rfl) | (rw [hev_ _ (by decide) (by decide) (by decide) (by decide)]; rfl)) ?_
          with_reducible refine (stanzahand03_Para.calls k1 _ _ x0_1 t388 t391 _ ?side1 ?side2 A23.out).mono ?_
          (case side1 => repeat (first | exact (Kd.R_reads' HO_0.out).2.2 | (with_reducible refine Kd.C_alloc ?_ _) | (with_reducible refine Kd.C_drewN ?_ _) | (with_reducible refine Kd.C_drew ?_)))
          (case side2 => exact (Kd.R_reads' HO_0.out).2.1)
          rintro e w29 ⟨v389, v392, rfl, ho0, ho1, hb⟩
          refine ⟨_, rfl, ?_⟩
          exact h_ (v389, v392) _ hb ⟨(Kd.R_lower ho0 (zM (by repeat (first | (with_reducible first | exact HB.out | apply zJ | apply zF | apply zH | refine zE ?_ GE374.out) | exact HB.out)))), (Kd.R_lower ho1 (zM (by repeat (first | (with_reducible first | exact HB.out | apply zJ | apply zF | apply zH | refine zE ?_ GE374.out) | exact HB.out))))⟩
        case pc3 =>
          intro a_ W_ K_ hev_ hP_ h_; obtain ⟨hS_, k0_, k1_, k2_⟩ := hP_; have HO_0 := zB.mk k0_; have BK374 := zB.mk k1_; have HB := zB.mk k2_
          refine goes_ Try.func12 (by kernel_rfl) rfl #[.agg #[.int .u8 a1_0, .int .u8 a1_1, .int .u8 a1_2, .int .u16 a1_3, .int .u16 a1_4, .float .f64 a1_5]] (by rfl) rfl rfl (by simp only [List.map_toArray, List.map_cons, List.map_nil]; first | rfl | (simp (disch := decide) only [hev_]; rfl) | (rw [hev_ _ (by decide) (by decide) (by decide) (by decide)]; rfl)) ?_
          with_reducible refine (stanzahand03_Config.calls a1_0 a1_1 a1_2 a1_3 a1_4 a1_5 t394 t395 t396 t397 t398 t399 _ A24.out).mono ?_
          rintro e w31 ⟨rfl, hb⟩
          refine ⟨_, rfl, ?_⟩
          exact h_ _ hb
        case pc4 => intro a_ W_; first | (go_simp; done) | (go_simp; rfl)
        case pc5 => intro a_ W_; first | (go_simp; done) | (go_simp; rfl)
        case pPhi => exact ⟨hHeld, HO_0.out, BK374.out, HB.out⟩
        case pcont => intro s_ gb400 gb401 w33 hP_ hF_ y4_ y5_ x4_ x5_ he_; obtain ⟨hS_, k0_, k1_, k2_⟩ := hP_; obtain ⟨v389, v392⟩ := s_; obtain ⟨f0_, f1_⟩ := hF_; exact hJ1_3_4_5 (v389, v392, gb400, gb401) _ ⟨hS_, f0_, f1_, k0_, k1_, y4_, y5_, x4_.1, x4_.1, x4_.2.1, x4_.2.2, (Ne.symm he_), he_, x5_.1, x5_.1, x5_.2.1, x5_.2.2, k2_⟩
      rintro ⟨v389, v392, gb400, gb401⟩ w33 ⟨hS_, h0_, h1_, h2_, h3_, h4_, h5_, h6_, h7_, h8_, h9_, h10_, h11_, h12_, h13_, h14_, h15_, h16_⟩
      have n0_ : zB (Kd.R k62 62 w33 w.heap.size (fun _ => True) v389 t388) := ⟨h0_⟩
      have n1_ : zB (Kd.R (Kd.int .u8) 46 w33 w.heap.size (fun _ => True) v392 t391) := ⟨h1_⟩
      have n2_ : zB (Kd.R k45 45 w33 w.heap.size (fun _ => True) (.slice Ao15 x0_1.length co15) x0_1) := ⟨h2_⟩
      have n3_ : zB (w33.heap[gb374]? = some (.cells #[.int .u8 a1_0, .int .u8 a1_1, .int .u8 a1_2, .int .u16 a1_3, .int .u16 a1_4, .float .f64 a1_5] 26 (0, 0))) := ⟨h3_⟩
      have n4_ : zB (w33.heap[gb400]? = some (.cells #[.slice none 0 0, .slice none 0 0] 31 (0, 0))) := ⟨h4_⟩
      have n5_ : zB (w33.heap[gb401]? = some (.cells #[.int .i64 0, .int .i64 0, .int .u8 0, .int .i64 0, .int .i64 0, .float .f64 0] 35 (0, 0))) := ⟨h5_⟩
      have n6_ : zB (w.heap.size ≤ gb400) := ⟨h6_⟩
      have n7_ : zB (w.heap.size ≤ gb400) := ⟨h7_⟩
      have n8_ : zB (gb374 ≠ gb400) := ⟨h8_⟩
      have n9_ : zB (gb400 ≠ gb374) := ⟨h9_⟩
      have n10_ : zB (gb401 ≠ gb400) := ⟨h10_⟩
      have n11_ : zB (gb400 ≠ gb401) := ⟨h11_⟩
      have n12_ : zB (w.heap.size ≤ gb401) := ⟨h12_⟩
      have n13_ : zB (w.heap.size ≤ gb401) := ⟨h13_⟩
      have n14_ : zB (gb374 ≠ gb401) := ⟨h14_⟩
      have n15_ : zB (gb401 ≠ gb374) := ⟨h15_⟩
      have n16_ : zB (Below w.heap.size w w33) := ⟨h16_⟩
      clear HO_0 BK374 HB h0_ h1_ h2_ h3_ h4_ h5_ h6_ h7_ h8_ h9_ h10_ h11_ h12_ h13_ h14_ h15_ h16_; have HO390 := n0_; have HO393 := n1_; have HO_0 := n2_; have BK374 := n3_; have BK400 := n4_; have BK401 := n5_; have GW400 := n6_; have GE400 := n7_; have NB374_400 := n8_; have NB400_374 := n9_; have NB401_400 := n10_; have NB400_401 := n11_; have GW401 := n12_; have GE401 := n13_; have NB374_401 := n14_; have NB401_374 := n15_; have HB := n16_; clear n0_ n1_ n2_ n3_ n4_ n5_ n6_ n7_ n8_ n9_ n10_ n11_ n12_ n13_ n14_ n15_ n16_; have hHeld : w33.cell? ⟨gb374, 0, none⟩ = some (.int .u8 a1_0) ∧ w33.cell? ⟨gb374, 1, none⟩ = some (.int .u8 a1_1) ∧ w33.cell? ⟨gb374, 2, none⟩ = some (.int .u8 a1_2) ∧ w33.cell? ⟨gb374, 3, none⟩ = some (.int .u16 a1_3) ∧ w33.cell? ⟨gb374, 4, none⟩ = some (.int .u16 a1_4) ∧ w33.cell? ⟨gb374, 5, none⟩ = some (.float .f64 a1_5) := hS_
      obtain ⟨Ao34, co34, eo34⟩ := Kd.R_slice HO390.out; (first | subst eo34 | (injection eo34 with f1_ f2_ f3_; have f4_ := f1_.symm; have f5_ := f3_.symm; clear f1_ f2_ f3_; subst f4_; subst f5_))
      obtain ⟨Ao36, co36, eo36⟩ := Kd.R_slice HO393.out; (first | subst eo36 | (injection eo36 with f1_ f2_ f3_; have f4_ := f1_.symm; have f5_ := f3_.symm; clear f1_ f2_ f3_; subst f4_; subst f5_))
      refine norm_ (a' := ?_) ?_ ?_
      rotate_left
      · simp only [putAll, Act.put, sA_, sB_, sC_]
        rfl
      refine one_ (i := 6) (N := none) #[true, true, true, true, true, true, true, false] rfl rfl (one_of HT_.out (by kernel_rfl)) (by decide) (fun K hK => ?_)
      have hs35 : w33.cell? ⟨gb400, 0, none⟩ = some (.slice none 0 0) := (zG BK400.out 0).trans rfl
      have hfs35 := zI BK400.out 0; have hns35_0 := NB374_400.out; have hns35_2 := NB401_400.out; have hms35_0 := NB400_374.out; have hms35_2 := NB400_401.out; have hs37 : w33.cell? ⟨gb400, 1, none⟩ = some (.slice none 0 0) := (zG BK400.out 1).trans rfl
      have hfs37 := zI BK400.out 1; have hns37_0 := NB374_400.out; have hns37_2 := NB401_400.out; have hms37_0 := NB400_374.out; have hms37_2 := NB400_401.out; refine skip_ (w1 := ?_) (by rfl) rfl ?_ ?_
      rotate_left
      · go_simp
        rfl
      refine hK.out _ _ ⟨((zL (p := ⟨gb400, _, none⟩) NB374_400.out _).trans (((zL (p := ⟨gb400, _, none⟩) NB374_400.out _).trans (hHeld.1)))), ((zL (p := ⟨gb400, _, none⟩) NB374_400.out _).trans (((zL (p := ⟨gb400, _, none⟩) NB374_400.out _).trans (hHeld.2.1)))), ((zL (p := ⟨gb400, _, none⟩) NB374_400.out _).trans (((zL (p := ⟨gb400, _, none⟩) NB374_400.out _).trans (hHeld.2.2.1)))), ((zL (p := ⟨gb400, _, none⟩) NB374_400.out _).trans (((zL (p := ⟨gb400, _, none⟩) NB374_400.out _).trans (hHeld.2.2.2.1)))), ((zL (p := ⟨gb400, _, none⟩) NB374_400.out _).trans (((zL (p := ⟨gb400, _, none⟩) NB374_400.out _).trans (hHeld.2.2.2.2.1)))), ((zL (p := ⟨gb400, _, none⟩) NB374_400.out _).trans (((zL (p := ⟨gb400, _, none⟩) NB374_400.out _).trans (hHeld.2.2.2.2.2))))⟩ (fun hHeld => ?_)
      clear hK K; refine one_ (i := 7) (N := none) #[true, true, true, true, true, true, true, true] rfl rfl (one_of HT_.out (by kernel_rfl)) (by decide) (fun K hK => ?_)
      have hs38 : w33.cell? ⟨gb401, 0, none⟩ = some (.int .i64 0) := (zG BK401.out 0).trans rfl
      have hfs38 := zI BK401.out 0; have hns38_0 := NB374_401.out; have hns38_1 := NB400_401.out; have hms38_0 := NB401_374.out; have hms38_1 := NB401_400.out; have hs39 : w33.cell? ⟨gb401, 1, none⟩ = some (.int .i64 0) := (zG BK401.out 1).trans rfl
      have hfs39 := zI BK401.out 1; have hns39_0 := NB374_401.out; have hns39_1 := NB400_401.out; have hms39_0 := NB401_374.out; have hms39_1 := NB401_400.out; have hs40 : w33.cell? ⟨gb401, 2, none⟩ = some (.int .u8 0) := (zG BK401.out 2).trans rfl
      have hfs40 := zI BK401.out 2; have hns40_0 := NB374_401.out; have hns40_1 := NB400_401.out; have hms40_0 := NB401_374.out; have hms40_1 := NB401_400.out; have hs41 : w33.cell? ⟨gb401, 3, none⟩ = some (.int .i64 0) := (zG BK401.out 3).trans rfl
      have hfs41 := zI BK401.out 3; have hns41_0 := NB374_401.out; have hns41_1 := NB400_401.out; have hms41_0 := NB401_374.out; have hms41_1 := NB401_400.out; have hs42 : w33.cell? ⟨gb401, 4, none⟩ = some (.int .i64 0) := (zG BK401.out 4).trans rfl
      have hfs42 := zI BK401.out 4; have hns42_0 := NB374_401.out; have hns42_1 := NB400_401.out; have hms42_0 := NB401_374.out; have hms42_1 := NB401_400.out; have hs43 : w33.cell? ⟨gb401, 5, none⟩ = some (.float .f64 0) := (zG BK401.out 5).trans rfl
      have hfs43 := zI BK401.out 5; have hns43_0 := NB374_401.out; have hns43_1 := NB400_401.out; have hms43_0 := NB401_374.out; have hms43_1 := NB401_400.out; refine skip_ (w1 := ?_) (by rfl) rfl ?_ ?_
      rotate_left
      · go_simp
        rfl
      refine hK.out _ _ ⟨((zL (p := ⟨gb401, _, none⟩) NB374_401.out _).trans (((zL (p := ⟨gb401, _, none⟩) NB374_401.out _).trans (((zL (p := ⟨gb401, _, none⟩) NB374_401.out _).trans (((zL (p := ⟨gb401, _, none⟩) NB374_401.out _).trans (((zL (p := ⟨gb401, _, none⟩) NB374_401.out _).trans (((zL (p := ⟨gb401, _, none⟩) NB374_401.out _).trans (hHeld.1)))))))))))), ((zL (p := ⟨gb401, _, none⟩) NB374_401.out _).trans (((zL (p := ⟨gb401, _, none⟩) NB374_401.out _).trans (((zL (p := ⟨gb401, _, none⟩) NB374_401.out _).trans (((zL (p := ⟨gb401, _, none⟩) NB374_401.out _).trans (((zL (p := ⟨gb401, _, none⟩) NB374_401.out _).trans (((zL (p := ⟨gb401, _, none⟩) NB374_401.out _).trans (hHeld.2.1)))))))))))), ((zL (p := ⟨gb401, _, none⟩) NB374_401.out _).trans (((zL (p := ⟨gb401, _, none⟩) NB374_401.out _).trans (((zL (p := ⟨gb401, _, none⟩) NB374_401.out _).trans (((zL (p := ⟨gb401, _, none⟩) NB374_401.out _).trans (((zL (p := ⟨gb401, _, none⟩) NB374_401.out _).trans (((zL (p := ⟨gb401, _, none⟩) NB374_401.out _).trans (hHeld.2.2.1)))))))))))), ((zL (p := ⟨gb401, _, none⟩) NB374_401.out _).trans (((zL (p := ⟨gb401, _, none⟩) NB374_401.out _).trans (((zL (p := ⟨gb401, _, none⟩) NB374_401.out _).trans (((zL (p := ⟨gb401, _, none⟩) NB374_401.out _).trans (((zL (p := ⟨gb401, _, none⟩) NB374_401.out _).trans (((zL (p := ⟨gb401, _, none⟩) NB374_401.out _).trans (hHeld.2.2.2.1)))))))))))), ((zL (p := ⟨gb401, _, none⟩) NB374_401.out _).trans (((zL (p := ⟨gb401, _, none⟩) NB374_401.out _).trans (((zL (p := ⟨gb401, _, none⟩) NB374_401.out _).trans (((zL (p := ⟨gb401, _, none⟩) NB374_401.out _).trans (((zL (p := ⟨gb401, _, none⟩) NB374_401.out _).trans (((zL (p := ⟨gb401, _, none⟩) NB374_401.out _).trans (hHeld.2.2.2.2.1)))))))))))), ((zL (p := ⟨gb401, _, none⟩) NB374_401.out _).trans (((zL (p := ⟨gb401, _, none⟩) NB374_401.out _).trans (((zL (p := ⟨gb401, _, none⟩) NB374_401.out _).trans (((zL (p := ⟨gb401, _, none⟩) NB374_401.out _).trans (((zL (p := ⟨gb401, _, none⟩) NB374_401.out _).trans (((zL (p := ⟨gb401, _, none⟩) NB374_401.out _).trans (hHeld.2.2.2.2.2))))))))))))⟩ (fun hHeld => ?_)
      clear hK K; refine done_ (done_of HT_.out (by kernel_rfl)) ?_
      have hnb44 := NB400_374.out; have hnc44 := NB374_400.out; have hnb45 := NB400_401.out; have hnc45 := NB401_400.out; have hcz46_0 : w33.cell? ⟨gb400, 0, none⟩ = some (.slice none 0 0) := (zG BK400.out 0).trans rfl
      have hcz46_1 : w33.cell? ⟨gb400, 1, none⟩ = some (.slice none 0 0) := (zG BK400.out 1).trans rfl
      have hfz46_0 := zI BK400.out 0; have hfz46_1 := zI BK400.out 1; have hnb47 := NB401_374.out; have hnc47 := NB374_401.out; have hcz48_0 : w33.cell? ⟨gb401, 0, none⟩ = some (.int .i64 0) := (zG BK401.out 0).trans rfl
      have hcz48_1 : w33.cell? ⟨gb401, 1, none⟩ = some (.int .i64 0) := (zG BK401.out 1).trans rfl
      have hcz48_2 : w33.cell? ⟨gb401, 2, none⟩ = some (.int .u8 0) := (zG BK401.out 2).trans rfl
      have hcz48_3 : w33.cell? ⟨gb401, 3, none⟩ = some (.int .i64 0) := (zG BK401.out 3).trans rfl
      have hcz48_4 : w33.cell? ⟨gb401, 4, none⟩ = some (.int .i64 0) := (zG BK401.out 4).trans rfl
      have hcz48_5 : w33.cell? ⟨gb401, 5, none⟩ = some (.float .f64 0) := (zG BK401.out 5).trans rfl
      have hfz48_0 := zI BK401.out 0; have hfz48_1 := zI BK401.out 1; have hfz48_2 := zI BK401.out 2; have hfz48_3 := zI BK401.out 3; have hfz48_4 := zI BK401.out 4; have hfz48_5 := zI BK401.out 5; try go_wp2_with (first | ((with_reducible refine gate_callee (f := 14) rfl ?_); refine goesL_ (some 48) rfl rfl Try.func14 (by kernel_rfl) rfl #[.agg #[.slice Ao34 t388.length co34, .slice Ao36 t391.length co36], .int .i64 0, .int .i64 (t388.length : Int), .agg #[.int .i64 t394, .int .i64 t395, .int .u8 t396, .int .i64 t397, .int .i64 t398, .float .f64 t399]] rfl (by (try simp only [List.map_toArray, List.map_cons, List.map_nil]); first | done | rfl | (simp only [List.length_drop, List.length_take]; rfl)) ?_; (with_reducible refine (best_Break.calls k1 _ _ t388 _ _ t391 0 (t388.length : Int) t394 t395 t396 t397 t398 t399 t402 true _ ?side1 ?side2 ?side3 ?side4 A25.out).mono ?_); (case side1 => refine (Kd.R_reads' (e := 62) (base := w.heap.size) (ok := fun k_ => True) (n := t388.length) (c := co34) ?_).2.2; exact (by (with_reducible repeat (first | apply Kd.R_alloc | apply Kd.R_drewN | apply Kd.R_drew)); exact (Kd.R_mono (Kd.R_mono (Kd.R_far (p := ⟨gb401, 5, none⟩) (Kd.R_far (p := ⟨gb401, 4, none⟩) (Kd.R_far (p := ⟨gb401, 3, none⟩) (Kd.R_far (p := ⟨gb401, 2, none⟩) (Kd.R_far (p := ⟨gb401, 1, none⟩) (Kd.R_far (p := ⟨gb401, 0, none⟩) (Kd.R_far (p := ⟨gb400, 1, none⟩) (Kd.R_far (p := ⟨gb400, 0, none⟩) (Kd.R_types (Kd.R_types HO390.out BK400.out (by decide)) BK401.out (by decide)) (fun _ hk => hk.1.2) (.slice Ao34 t388.length co34)) (fun _ hk => hk.1.2) (.slice Ao36 t391.length co36)) (fun _ hk => hk.2) (.int .i64 t394)) (fun _ hk => hk.2) (.int .i64 t395)) (fun _ hk => hk.2) (.int .u8 t396)) (fun _ hk => hk.2) (.int .i64 t397)) (fun _ hk => hk.2) (.int .i64 t398)) (fun _ hk => hk.2) (.float .f64 t399)) (fun _ h_ => h_.1)) (fun _ h_ => h_.1)))); (case side2 => exact (Kd.R_reads' HO390.out).2.1); (case side3 => refine (Kd.R_reads' (e := 46) (base := w.heap.size) (ok := fun k_ => True) (n := t391.length) (c := co36) ?_).2.2; exact (by (with_reducible repeat (first | apply Kd.R_alloc | apply Kd.R_drewN | apply Kd.R_drew)); exact (Kd.R_mono (Kd.R_mono (Kd.R_far (p := ⟨gb401, 5, none⟩) (Kd.R_far (p := ⟨gb401, 4, none⟩) (Kd.R_far (p := ⟨gb401, 3, none⟩) (Kd.R_far (p := ⟨gb401, 2, none⟩) (Kd.R_far (p := ⟨gb401, 1, none⟩) (Kd.R_far (p := ⟨gb401, 0, none⟩) (Kd.R_far (p := ⟨gb400, 1, none⟩) (Kd.R_far (p := ⟨gb400, 0, none⟩) (Kd.R_types (Kd.R_types HO393.out BK400.out (by decide)) BK401.out (by decide)) (fun _ hk => hk.1.2) (.slice Ao34 t388.length co34)) (fun _ hk => hk.1.2) (.slice Ao36 t391.length co36)) (fun _ hk => hk.2) (.int .i64 t394)) (fun _ hk => hk.2) (.int .i64 t395)) (fun _ hk => hk.2) (.int .u8 t396)) (fun _ hk => hk.2) (.int .i64 t397)) (fun _ hk => hk.2) (.int .i64 t398)) (fun _ hk => hk.2) (.float .f64 t399)) (fun _ h_ => h_.1)) (fun _ h_ => h_.1)))); (case side4 => exact (Kd.R_reads' HO393.out).2.1); rintro e w49 ⟨v403, rfl, ho0, hb⟩; refine ⟨_, rfl, ?_⟩; have n0_ := zB.mk (Kd.R_below (by (with_reducible repeat (first | apply Kd.R_alloc | apply Kd.R_drewN | apply Kd.R_drew)); exact (Kd.R_mono (Kd.R_mono (Kd.R_far (p := ⟨gb401, 5, none⟩) (Kd.R_far (p := ⟨gb401, 4, none⟩) (Kd.R_far (p := ⟨gb401, 3, none⟩) (Kd.R_far (p := ⟨gb401, 2, none⟩) (Kd.R_far (p := ⟨gb401, 1, none⟩) (Kd.R_far (p := ⟨gb401, 0, none⟩) (Kd.R_far (p := ⟨gb400, 1, none⟩) (Kd.R_far (p := ⟨gb400, 0, none⟩) (Kd.R_types (Kd.R_types HO_0.out BK400.out (by decide)) BK401.out (by decide)) (fun _ hk => hk.1.2) (.slice Ao34 t388.length co34)) (fun _ hk => hk.1.2) (.slice Ao36 t391.length co36)) (fun _ hk => hk.2) (.int .i64 t394)) (fun _ hk => hk.2) (.int .i64 t395)) (fun _ hk => hk.2) (.int .u8 t396)) (fun _ hk => hk.2) (.int .i64 t397)) (fun _ hk => hk.2) (.int .i64 t398)) (fun _ hk => hk.2) (.float .f64 t399)) (fun _ h_ => h_.1)) (fun _ h_ => h_.1))) hb); have n1_ := zB.mk (Kd.R_below (by (with_reducible repeat (first | apply Kd.R_alloc | apply Kd.R_drewN | apply Kd.R_drew)); exact (Kd.R_mono (Kd.R_mono (Kd.R_far (p := ⟨gb401, 5, none⟩) (Kd.R_far (p := ⟨gb401, 4, none⟩) (Kd.R_far (p := ⟨gb401, 3, none⟩) (Kd.R_far (p := ⟨gb401, 2, none⟩) (Kd.R_far (p := ⟨gb401, 1, none⟩) (Kd.R_far (p := ⟨gb401, 0, none⟩) (Kd.R_far (p := ⟨gb400, 1, none⟩) (Kd.R_far (p := ⟨gb400, 0, none⟩) (Kd.R_types (Kd.R_types HO390.out BK400.out (by decide)) BK401.out (by decide)) (fun _ hk => hk.1.2) (.slice Ao34 t388.length co34)) (fun _ hk => hk.1.2) (.slice Ao36 t391.length co36)) (fun _ hk => hk.2) (.int .i64 t394)) (fun _ hk => hk.2) (.int .i64 t395)) (fun _ hk => hk.2) (.int .u8 t396)) (fun _ hk => hk.2) (.int .i64 t397)) (fun _ hk => hk.2) (.int .i64 t398)) (fun _ hk => hk.2) (.float .f64 t399)) (fun _ h_ => h_.1)) (fun _ h_ => h_.1))) hb); have n2_ := zB.mk (Kd.R_below (by (with_reducible repeat (first | apply Kd.R_alloc | apply Kd.R_drewN | apply Kd.R_drew)); exact (Kd.R_mono (Kd.R_mono (Kd.R_far (p := ⟨gb401, 5, none⟩) (Kd.R_far (p := ⟨gb401, 4, none⟩) (Kd.R_far (p := ⟨gb401, 3, none⟩) (Kd.R_far (p := ⟨gb401, 2, none⟩) (Kd.R_far (p := ⟨gb401, 1, none⟩) (Kd.R_far (p := ⟨gb401, 0, none⟩) (Kd.R_far (p := ⟨gb400, 1, none⟩) (Kd.R_far (p := ⟨gb400, 0, none⟩) (Kd.R_types (Kd.R_types HO393.out BK400.out (by decide)) BK401.out (by decide)) (fun _ hk => hk.1.2) (.slice Ao34 t388.length co34)) (fun _ hk => hk.1.2) (.slice Ao36 t391.length co36)) (fun _ hk => hk.2) (.int .i64 t394)) (fun _ hk => hk.2) (.int .i64 t395)) (fun _ hk => hk.2) (.int .u8 t396)) (fun _ hk => hk.2) (.int .i64 t397)) (fun _ hk => hk.2) (.int .i64 t398)) (fun _ hk => hk.2) (.float .f64 t399)) (fun _ h_ => h_.1)) (fun _ h_ => h_.1))) hb); have n3_ := zB.mk (Kd.R_lower ho0 (zM (by repeat (first | (with_reducible first | exact HB.out | apply zJ | apply zF | apply zH | refine zE ?_ GE374.out | refine zE ?_ GE400.out | refine zE ?_ GE401.out) | exact HB.out)))); have n4_ := zB.mk (zK (g := gb374) (o := .cells #[.int .u8 a1_0, .int .u8 a1_1, .int .u8 a1_2, .int .u16 a1_3, .int .u16 a1_4, .float .f64 a1_5] 26 (0, 0)) (by (with_reducible repeat (first | refine zC ?_ _ | refine zD ?_ | refine zA ?_ _)); refine zN ?_ NB374_401.out _; (with_reducible repeat (first | refine zC ?_ _ | refine zD ?_ | refine zA ?_ _)); refine zN ?_ NB374_401.out _; (with_reducible repeat (first | refine zC ?_ _ | refine zD ?_ | refine zA ?_ _)); refine zN ?_ NB374_401.out _; (with_reducible repeat (first | refine zC ?_ _ | refine zD ?_ | refine zA ?_ _)); refine zN ?_ NB374_401.out _; (with_reducible repeat (first | refine zC ?_ _ | refine zD ?_ | refine zA ?_ _)); refine zN ?_ NB374_401.out _; (with_reducible repeat (first | refine zC ?_ _ | refine zD ?_ | refine zA ?_ _)); refine zN ?_ NB374_401.out _; (with_reducible repeat (first | refine zC ?_ _ | refine zD ?_ | refine zA ?_ _)); refine zN ?_ NB374_400.out _; (with_reducible repeat (first | refine zC ?_ _ | refine zD ?_ | refine zA ?_ _)); refine zN ?_ NB374_400.out _; (with_reducible repeat (first | refine zC ?_ _ | refine zD ?_ | refine zA ?_ _)); exact BK374.out) hb); have n5_ := zB.mk (zK (g := gb400) (o := .cells #[.slice Ao34 t388.length co34, .slice Ao36 t391.length co36] 31 (0, 0)) (by (with_reducible repeat (first | refine zC ?_ _ | refine zD ?_ | refine zA ?_ _)); refine zN ?_ NB400_401.out _; (with_reducible repeat (first | refine zC ?_ _ | refine zD ?_ | refine zA ?_ _)); refine zN ?_ NB400_401.out _; (with_reducible repeat (first | refine zC ?_ _ | refine zD ?_ | refine zA ?_ _)); refine zN ?_ NB400_401.out _; (with_reducible repeat (first | refine zC ?_ _ | refine zD ?_ | refine zA ?_ _)); refine zN ?_ NB400_401.out _; (with_reducible repeat (first | refine zC ?_ _ | refine zD ?_ | refine zA ?_ _)); refine zN ?_ NB400_401.out _; (with_reducible repeat (first | refine zC ?_ _ | refine zD ?_ | refine zA ?_ _)); refine zN ?_ NB400_401.out _; (with_reducible repeat (first | refine zC ?_ _ | refine zD ?_ | refine zA ?_ _)); refine blk_put (cs := #[.slice Ao34 t388.length co34, .slice none 0 0]) ?_ 1 _ rfl; (with_reducible repeat (first | refine zC ?_ _ | refine zD ?_ | refine zA ?_ _)); refine blk_put (cs := #[.slice none 0 0, .slice none 0 0]) ?_ 0 _ rfl; (with_reducible repeat (first | refine zC ?_ _ | refine zD ?_ | refine zA ?_ _)); exact BK400.out) hb); have n6_ := zB.mk (zK (g := gb401) (o := .cells #[.int .i64 t394, .int .i64 t395, .int .u8 t396, .int .i64 t397, .int .i64 t398, .float .f64 t399] 35 (0, 0)) (by (with_reducible repeat (first | refine zC ?_ _ | refine zD ?_ | refine zA ?_ _)); refine blk_put (cs := #[.int .i64 t394, .int .i64 t395, .int .u8 t396, .int .i64 t397, .int .i64 t398, .float .f64 0]) ?_ 5 _ rfl; (with_reducible repeat (first | refine zC ?_ _ | refine zD ?_ | refine zA ?_ _)); refine blk_put (cs := #[.int .i64 t394, .int .i64 t395, .int .u8 t396, .int .i64 t397, .int .i64 0, .float .f64 0]) ?_ 4 _ rfl; (with_reducible repeat (first | refine zC ?_ _ | refine zD ?_ | refine zA ?_ _)); refine blk_put (cs := #[.int .i64 t394, .int .i64 t395, .int .u8 t396, .int .i64 0, .int .i64 0, .float .f64 0]) ?_ 3 _ rfl; (with_reducible repeat (first | refine zC ?_ _ | refine zD ?_ | refine zA ?_ _)); refine blk_put (cs := #[.int .i64 t394, .int .i64 t395, .int .u8 0, .int .i64 0, .int .i64 0, .float .f64 0]) ?_ 2 _ rfl; (with_reducible repeat (first | refine zC ?_ _ | refine zD ?_ | refine zA ?_ _)); refine blk_put (cs := #[.int .i64 t394, .int .i64 0, .int .u8 0, .int .i64 0, .int .i64 0, .float .f64 0]) ?_ 1 _ rfl; (with_reducible repeat (first | refine zC ?_ _ | refine zD ?_ | refine zA ?_ _)); refine blk_put (cs := #[.int .i64 0, .int .i64 0, .int .u8 0, .int .i64 0, .int .i64 0, .float .f64 0]) ?_ 0 _ rfl; (with_reducible repeat (first | refine zC ?_ _ | refine zD ?_ | refine zA ?_ _)); refine zN ?_ NB401_400.out _; (with_reducible repeat (first | refine zC ?_ _ | refine zD ?_ | refine zA ?_ _)); refine zN ?_ NB401_400.out _; (with_reducible repeat (first | refine zC ?_ _ | refine zD ?_ | refine zA ?_ _)); exact BK401.out) hb); have n7_ := zB.mk (zO (by repeat (first | (with_reducible first | exact HB.out | apply zJ | apply zF | apply zH | refine zE ?_ GE374.out | refine zE ?_ GE400.out | refine zE ?_ GE401.out) | exact HB.out)) hb); clear HO_0; clear HO390; clear HO393; clear BK374; clear BK400; clear BK401; clear HB; have HO_0 := n0_; have HO390 := n1_; have HO393 := n2_; have HO404 := n3_; have BK374 := n4_; have BK400 := n5_; have BK401 := n6_; have HB := n7_; clear n0_ n1_ n2_ n3_ n4_ n5_ n6_ n7_; (try clear hb); (try clear hb2); (try clear hk); (try clear hi); (try clear ho0); obtain ⟨Ao50, co50, eo50⟩ := Kd.R_slice HO404.out; subst eo50))
      go_ret
      exact ⟨by first | rfl | (simp [errW_none, errW_some] <;> rfl) | (simp only [← hji5]; first | rfl | (simp [errW_none, errW_some] <;> rfl)) | (simp [*, errW_none, errW_some] <;> rfl), by repeat (first | (with_reducible first | exact HB.out | apply zJ | apply zF | apply zH | refine zE ?_ GE374.out | refine zE ?_ GE400.out | refine zE ?_ GE401.out) | exact HB.out)⟩
    rw [if_neg c26] at H; have c26b0 : ((t388.length : Int) == 0) = false := beq_eq_false_iff_ne.mpr c26
    have c26b1 : ((t388.length : Int) != 0) = true := bne_iff_ne.mpr c26
    have c26b2 : ¬ (t388 = []) := fun h_ => c26 (by rw [h_]; rfl)
    (try simp only [hl0_1] at c26b0)
    (try simp only [hl0_1] at c26b1)
    (try simp only [hl0_1] at c26b2)
    replace H := Option.bind_eq_some_iff.mp H; obtain ⟨t406, A510, H⟩ := H; replace H : (if t406 > t394 then (if t405 = true then (some (decide ((t402.length : Int) > 1))) else (some true)) else (if t405 = true then (if (t402.length : Int) = 1 then (if 0 < (t402.length : Int) then (if ((rd_T48 t402 0).f1) = (t388.length : Int) then (some (((rd_T48 t402 0).f3) == 2)) else (some false)) else (none)) else (some false)) else (some false))) = some r := H; have A51 := zB.mk A510; clear A510; by_cases c52 : t406 > t394
    rotate_left
    · rw [if_neg c52] at H
      have c52b0 : decide (t394 < t406) = false := decide_eq_false c52
      clear c52; by_cases c103 : t405 = true
      rotate_left
      · replace c103 := Bool.eq_false_iff.mpr c103
        subst c103; have H1 : (some false) = some r := by rw [if_neg (show ¬ (false = true) by decide)] at H; exact H
        clear H; have H := H1; clear H1; exact absurd ((Option.some.inj H).trans hrt_.out) (by decide)
      subst c103; have H1 : (if (t402.length : Int) = 1 then (if 0 < (t402.length : Int) then (if ((rd_T48 t402 0).f1) = (t388.length : Int) then (some (((rd_T48 t402 0).f3) == 2)) else (some false)) else (none)) else (some false)) = some r := by rw [if_pos rfl] at H; exact H
      clear H; have H := H1; clear H1; by_cases c104 : (t402.length : Int) = 1
      rotate_left
      · rw [if_neg c104] at H
        have c104b0 : ((t402.length : Int) == 1) = false := beq_eq_false_iff_ne.mpr c104
        have c104b1 : ((t402.length : Int) != 1) = true := bne_iff_ne.mpr c104
        (try simp only [hl0_1] at c104b0)
        (try simp only [hl0_1] at c104b1)
        exact absurd ((Option.some.inj H).trans hrt_.out) (by decide)
      rw [if_pos c104] at H; have c104b0 : ((t402.length : Int) == 1) = true := beq_iff_eq.mpr c104
      have c104b1 : ((t402.length : Int) != 1) = false := bne_eq_false_iff_eq.mpr c104
      (try simp only [hl0_1] at c104b0)
      (try simp only [hl0_1] at c104b1)
      clear c104; by_cases c105 : 0 < (t402.length : Int)
      rotate_left
      · rw [if_neg c105] at H
        exact absurd H (by simp)
      rw [if_pos c105] at H; have c105b0 : decide (0 < (t402.length : Int)) = true := decide_eq_true c105
      have c105b1 : decide (0 < t402.length) = true := decide_eq_true (by omega)
      (try simp only [hl0_1] at c105b0)
      (try simp only [hl0_1] at c105b1)
      clear c105; by_cases c106 : ((rd_T48 t402 0).f1) = (t388.length : Int)
      rotate_left
      · rw [if_neg c106] at H
        have c106b0 : (((rd_T48 t402 0).f1) == (t388.length : Int)) = false := beq_eq_false_iff_ne.mpr c106
        have c106b1 : (((rd_T48 t402 0).f1) != (t388.length : Int)) = true := bne_iff_ne.mpr c106
        (try simp only [hl0_1] at c106b0)
        (try simp only [hl0_1] at c106b1)
        exact absurd ((Option.some.inj H).trans hrt_.out) (by decide)
      rw [if_pos c106] at H; have c106b0 : (((rd_T48 t402 0).f1) == (t388.length : Int)) = true := beq_iff_eq.mpr c106
      have c106b1 : (((rd_T48 t402 0).f1) != (t388.length : Int)) = false := bne_eq_false_iff_eq.mpr c106
      (try simp only [hl0_1] at c106b0)
      (try simp only [hl0_1] at c106b1)
      clear c106; obtain rfl := Option.some.inj H
      try go_wp2
      have n0_ := zB.mk (Kd.R_drew HO_0.out); have n1_ := zB.mk (zD BK374.out); have n2_ := zB.mk (zH HB.out); clear HO_0; clear BK374; clear HB; have HO_0 := n0_; have BK374 := n1_; have HB := n2_; clear n0_ n1_ n2_; refine start_ (n := 8) (S := fun w' => w'.cell? ⟨gb374, 0, none⟩ = some (.int .u8 a1_0) ∧ w'.cell? ⟨gb374, 1, none⟩ = some (.int .u8 a1_1) ∧ w'.cell? ⟨gb374, 2, none⟩ = some (.int .u8 a1_2) ∧ w'.cell? ⟨gb374, 3, none⟩ = some (.int .u16 a1_3) ∧ w'.cell? ⟨gb374, 4, none⟩ = some (.int .u16 a1_4) ∧ w'.cell? ⟨gb374, 5, none⟩ = some (.float .f64 a1_5)) (ds := []) #[false, false, false, false, false, false, false, false] (by kernel_rfl) rfl rfl ⟨(zG BK374.out 0).trans rfl, (zG BK374.out 1).trans rfl, (zG BK374.out 2).trans rfl, (zG BK374.out 3).trans rfl, (zG BK374.out 4).trans rfl, (zG BK374.out 5).trans rfl⟩ (fun hHeld => ?_); refine with_tabW stanzalaw15_BestOne.tab10 stanzalaw15_BestOne.bits10 (fun HT_ HW_ => ?_)
      generalize wr.drew = w107 at HO_0 BK374 HB hHeld ⊢
      refine pure_ (i := 0) (N := some 37) (v := ?_) (a' := ?_) (tf_ 1 8) rfl rfl (any_of HT_.out (by kernel_rfl)) (fun _ _ _ h => h) (Or.inl ⟨by rfl, ?_⟩) ?_ ?_
      rotate_left
      · intro w'
        go_simp
        with_reducible rfl
      rotate_left
      · simp only [Act.put, sA_, sB_, sC_, i64_w, i32_w]
        rfl
      refine take_ (i := 2) (N := some 39) (v := ?_) (a' := ?_) #[true, false, true, false, false, false, false, false] rfl rfl (take_ofW HT_.out HW_.out (by kernel_rfl)) (fun _ _ _ h => h) (Or.inl ⟨by rfl, ?_⟩) hHeld ?_ ?_
      rotate_left
      · rintro w' ⟨s0, s1, s2, s3, s4, s5⟩
        go_simp
        with_reducible rfl
      rotate_left
      · simp only [Act.put, sA_, sB_, sC_, i64_w, i32_w]
        rfl
      refine join_ (σ := Value × Value × Nat × Nat) 2 #[true, true, true, true, true, true, false, false] (fun s_ => [(38, .agg #[s_.1, s_.2.1]), (40, .agg #[.int .i64 t394, .int .i64 t395, .int .u8 t396, .int .i64 t397, .int .i64 t398, .float .f64 t399]), (6, .pointer (some ⟨s_.2.2.1, 0, none⟩)), (7, .pointer (some ⟨s_.2.2.2, 0, none⟩))]) (fun s_ w' => (w'.cell? ⟨gb374, 0, none⟩ = some (.int .u8 a1_0) ∧ w'.cell? ⟨gb374, 1, none⟩ = some (.int .u8 a1_1) ∧ w'.cell? ⟨gb374, 2, none⟩ = some (.int .u8 a1_2) ∧ w'.cell? ⟨gb374, 3, none⟩ = some (.int .u16 a1_3) ∧ w'.cell? ⟨gb374, 4, none⟩ = some (.int .u16 a1_4) ∧ w'.cell? ⟨gb374, 5, none⟩ = some (.float .f64 a1_5)) ∧ (Kd.R k62 62 w' w.heap.size (fun _ => True) s_.1 t388) ∧ (Kd.R (Kd.int .u8) 46 w' w.heap.size (fun _ => True) s_.2.1 t391) ∧ (Kd.R k45 45 w' w.heap.size (fun _ => True) (.slice Ao15 x0_1.length co15) x0_1) ∧ (w'.heap[gb374]? = some (.cells #[.int .u8 a1_0, .int .u8 a1_1, .int .u8 a1_2, .int .u16 a1_3, .int .u16 a1_4, .float .f64 a1_5] 26 (0, 0))) ∧ (w'.heap[s_.2.2.1]? = some (.cells #[.slice none 0 0, .slice none 0 0] 31 (0, 0))) ∧ (w'.heap[s_.2.2.2]? = some (.cells #[.int .i64 0, .int .i64 0, .int .u8 0, .int .i64 0, .int .i64 0, .float .f64 0] 35 (0, 0))) ∧ (w.heap.size ≤ s_.2.2.1) ∧ (w.heap.size ≤ s_.2.2.1) ∧ (gb374 ≠ s_.2.2.1) ∧ (s_.2.2.1 ≠ gb374) ∧ (s_.2.2.2 ≠ s_.2.2.1) ∧ (s_.2.2.1 ≠ s_.2.2.2) ∧ (w.heap.size ≤ s_.2.2.2) ∧ (w.heap.size ≤ s_.2.2.2) ∧ (gb374 ≠ s_.2.2.2) ∧ (s_.2.2.2 ≠ gb374) ∧ (Below w.heap.size w w')) ?_ ?_
      rotate_left
      · intro hJ1_3_4_5
        refine par4_ (fuel := 2) (l' := #[true, true, true, true, true, true, false, false]) (i1 := 1) (i3 := 3) (i4 := 4) (i5 := 5) (σ := Value × Value) (cs4 := #[.slice none 0 0, .slice none 0 0]) (t4 := 31) (cs5 := #[.int .i64 0, .int .i64 0, .int .u8 0, .int .i64 0, .int .i64 0, .float .f64 0]) (t5 := 35) (fun s_ => .agg #[s_.1, s_.2]) (.agg #[.int .i64 t394, .int .i64 t395, .int .u8 t396, .int .i64 t397, .int .i64 t398, .float .f64 t399]) (par4_of HT_.out (by kernel_rfl)) rfl rfl rfl rfl rfl rfl rfl rfl rfl rfl (by decide) rfl (fun w_ => (w_.cell? ⟨gb374, 0, none⟩ = some (.int .u8 a1_0) ∧ w_.cell? ⟨gb374, 1, none⟩ = some (.int .u8 a1_1) ∧ w_.cell? ⟨gb374, 2, none⟩ = some (.int .u8 a1_2) ∧ w_.cell? ⟨gb374, 3, none⟩ = some (.int .u16 a1_3) ∧ w_.cell? ⟨gb374, 4, none⟩ = some (.int .u16 a1_4) ∧ w_.cell? ⟨gb374, 5, none⟩ = some (.float .f64 a1_5)) ∧ (Kd.R k45 45 w_ w.heap.size (fun _ => True) (.slice Ao15 x0_1.length co15) x0_1) ∧ (w_.heap[gb374]? = some (.cells #[.int .u8 a1_0, .int .u8 a1_1, .int .u8 a1_2, .int .u16 a1_3, .int .u16 a1_4, .float .f64 a1_5] 26 (0, 0))) ∧ (Below w.heap.size w w_)) ?pgrow (fun _ hP_ => hP_.1) (fun s_ w_ => (Kd.R k62 62 w_ w.heap.size (fun _ => True) s_.1 t388) ∧ (Kd.R (Kd.int .u8) 46 w_ w.heap.size (fun _ => True) s_.2 t391)) ?pF (fun g_ => (w.heap.size ≤ g_) ∧ (gb374 ≠ g_) ∧ (g_ ≠ gb374)) ?pNew ?pc1 ?pc3 ?pc4 ?pc5 ?pPhi ?pcont
        case pgrow =>
          intro w0_ w1_ hP_ hb_; obtain ⟨hS_, k0_, k1_, k2_⟩ := hP_; have HO_0 := zB.mk (by first | exact Kd.R_below k0_ hb_ | exact zK k0_ hb_ | exact zO k0_ hb_); have BK374 := zB.mk (by first | exact Kd.R_below k1_ hb_ | exact zK k1_ hb_ | exact zO k1_ hb_); have HB := zB.mk (by first | exact Kd.R_below k2_ hb_ | exact zK k2_ hb_ | exact zO k2_ hb_)
          exact ⟨⟨(zG BK374.out 0).trans rfl, (zG BK374.out 1).trans rfl, (zG BK374.out 2).trans rfl, (zG BK374.out 3).trans rfl, (zG BK374.out 4).trans rfl, (zG BK374.out 5).trans rfl⟩, HO_0.out, BK374.out, HB.out⟩
        case pF => intro s_ w0_ w1_ hP_ hb_; obtain ⟨f0_, f1_⟩ := hP_; exact ⟨(by first | exact Kd.R_below f0_ hb_ | exact zK f0_ hb_ | exact zO f0_ hb_), (by first | exact Kd.R_below f1_ hb_ | exact zK f1_ hb_ | exact zO f1_ hb_)⟩
        case pNew => intro w0_ hP_; obtain ⟨hS_, k0_, k1_, k2_⟩ := hP_; (try have l0_ := blk_lt k0_); (try have m0_ := zM k0_); (try have l1_ := blk_lt k1_); (try have m1_ := zM k1_); (try have l2_ := blk_lt k2_); (try have m2_ := zM k2_); refine ⟨?_, ?_, ?_⟩ <;> omega
        case pc1 =>
          intro a_ W_ K_ hev_ hP_ h_; obtain ⟨hS_, k0_, k1_, k2_⟩ := hP_; have HO_0 := zB.mk k0_; have BK374 := zB.mk k1_; have HB := zB.mk k2_
          refine goes_ Try.func11 (by kernel_rfl) rfl #[.slice Ao15 x0_1.length co15] (by rfl) rfl rfl (by simp only [List.map_toArray, List.map_cons, List.map_nil]; first | rfl | (simp (disch := decide) only [hev_]; rfl) | (rw [hev_ _ (by decide) (by decide) (by decide) (by decide)]; rfl)) ?_
          with_reducible refine (stanzahand03_Para.calls k1 _ _ x0_1 t388 t391 _ ?side1 ?side2 A23.out).mono ?_
          (case side1 => repeat (first | exact (Kd.R_reads' HO_0.out).2.2 | (with_reducible refine Kd.C_alloc ?_ _) | (with_reducible refine Kd.C_drewN ?_ _) | (with_reducible refine Kd.C_drew ?_)))
          (case side2 => exact (Kd.R_reads' HO_0.out).2.1)
          rintro e w108 ⟨v389, v392, rfl, ho0, ho1, hb⟩
          refine ⟨_, rfl, ?_⟩
          exact h_ (v389, v392) _ hb ⟨(Kd.R_lower ho0 (zM (by repeat (first | (with_reducible first | exact HB.out | apply zJ | apply zF | apply zH | refine zE ?_ GE374.out) | exact HB.out)))), (Kd.R_lower ho1 (zM (by repeat (first | (with_reducible first | exact HB.out | apply zJ | apply zF | apply zH | refine zE ?_ GE374.out) | exact HB.out))))⟩
        case pc3 =>
          intro a_ W_ K_ hev_ hP_ h_; obtain ⟨hS_, k0_, k1_, k2_⟩ := hP_; have HO_0 := zB.mk k0_; have BK374 := zB.mk k1_; have HB := zB.mk k2_
          refine goes_ Try.func12 (by kernel_rfl) rfl #[.agg #[.int .u8 a1_0, .int .u8 a1_1, .int .u8 a1_2, .int .u16 a1_3, .int .u16 a1_4, .float .f64 a1_5]] (by rfl) rfl rfl (by simp only [List.map_toArray, List.map_cons, List.map_nil]; first | rfl | (simp (disch := decide) only [hev_]; rfl) | (rw [hev_ _ (by decide) (by decide) (by decide) (by decide)]; rfl)) ?_
          with_reducible refine (stanzahand03_Config.calls a1_0 a1_1 a1_2 a1_3 a1_4 a1_5 t394 t395 t396 t397 t398 t399 _ A24.out).mono ?_
          rintro e w110 ⟨rfl, hb⟩
          refine ⟨_, rfl, ?_⟩
          exact h_ _ hb
        case pc4 => intro a_ W_; first | (go_simp; done) | (go_simp; rfl)
        case pc5 => intro a_ W_; first | (go_simp; done) | (go_simp; rfl)
        case pPhi => exact ⟨hHeld, HO_0.out, BK374.out, HB.out⟩
        case pcont => intro s_ gb400 gb401 w112 hP_ hF_ y4_ y5_ x4_ x5_ he_; obtain ⟨hS_, k0_, k1_, k2_⟩ := hP_; obtain ⟨v389, v392⟩ := s_; obtain ⟨f0_, f1_⟩ := hF_; exact hJ1_3_4_5 (v389, v392, gb400, gb401) _ ⟨hS_, f0_, f1_, k0_, k1_, y4_, y5_, x4_.1, x4_.1, x4_.2.1, x4_.2.2, (Ne.symm he_), he_, x5_.1, x5_.1, x5_.2.1, x5_.2.2, k2_⟩
      rintro ⟨v389, v392, gb400, gb401⟩ w112 ⟨hS_, h0_, h1_, h2_, h3_, h4_, h5_, h6_, h7_, h8_, h9_, h10_, h11_, h12_, h13_, h14_, h15_, h16_⟩
      have n0_ : zB (Kd.R k62 62 w112 w.heap.size (fun _ => True) v389 t388) := ⟨h0_⟩
      have n1_ : zB (Kd.R (Kd.int .u8) 46 w112 w.heap.size (fun _ => True) v392 t391) := ⟨h1_⟩
      have n2_ : zB (Kd.R k45 45 w112 w.heap.size (fun _ => True) (.slice Ao15 x0_1.length co15) x0_1) := ⟨h2_⟩
      have n3_ : zB (w112.heap[gb374]? = some (.cells #[.int .u8 a1_0, .int .u8 a1_1, .int .u8 a1_2, .int .u16 a1_3, .int .u16 a1_4, .float .f64 a1_5] 26 (0, 0))) := ⟨h3_⟩
      have n4_ : zB (w112.heap[gb400]? = some (.cells #[.slice none 0 0, .slice none 0 0] 31 (0, 0))) := ⟨h4_⟩
      have n5_ : zB (w112.heap[gb401]? = some (.cells #[.int .i64 0, .int .i64 0, .int .u8 0, .int .i64 0, .int .i64 0, .float .f64 0] 35 (0, 0))) := ⟨h5_⟩
      have n6_ : zB (w.heap.size ≤ gb400) := ⟨h6_⟩
      have n7_ : zB (w.heap.size ≤ gb400) := ⟨h7_⟩
      have n8_ : zB (gb374 ≠ gb400) := ⟨h8_⟩
      have n9_ : zB (gb400 ≠ gb374) := ⟨h9_⟩
      have n10_ : zB (gb401 ≠ gb400) := ⟨h10_⟩
      have n11_ : zB (gb400 ≠ gb401) := ⟨h11_⟩
      have n12_ : zB (w.heap.size ≤ gb401) := ⟨h12_⟩
      have n13_ : zB (w.heap.size ≤ gb401) := ⟨h13_⟩
      have n14_ : zB (gb374 ≠ gb401) := ⟨h14_⟩
      have n15_ : zB (gb401 ≠ gb374) := ⟨h15_⟩
      have n16_ : zB (Below w.heap.size w w112) := ⟨h16_⟩
      clear HO_0 BK374 HB h0_ h1_ h2_ h3_ h4_ h5_ h6_ h7_ h8_ h9_ h10_ h11_ h12_ h13_ h14_ h15_ h16_; have HO390 := n0_; have HO393 := n1_; have HO_0 := n2_; have BK374 := n3_; have BK400 := n4_; have BK401 := n5_; have GW400 := n6_; have GE400 := n7_; have NB374_400 := n8_; have NB400_374 := n9_; have NB401_400 := n10_; have NB400_401 := n11_; have GW401 := n12_; have GE401 := n13_; have NB374_401 := n14_; have NB401_374 := n15_; have HB := n16_; clear n0_ n1_ n2_ n3_ n4_ n5_ n6_ n7_ n8_ n9_ n10_ n11_ n12_ n13_ n14_ n15_ n16_; have hHeld : w112.cell? ⟨gb374, 0, none⟩ = some (.int .u8 a1_0) ∧ w112.cell? ⟨gb374, 1, none⟩ = some (.int .u8 a1_1) ∧ w112.cell? ⟨gb374, 2, none⟩ = some (.int .u8 a1_2) ∧ w112.cell? ⟨gb374, 3, none⟩ = some (.int .u16 a1_3) ∧ w112.cell? ⟨gb374, 4, none⟩ = some (.int .u16 a1_4) ∧ w112.cell? ⟨gb374, 5, none⟩ = some (.float .f64 a1_5) := hS_
      obtain ⟨Ao113, co113, eo113⟩ := Kd.R_slice HO390.out; (first | subst eo113 | (injection eo113 with f1_ f2_ f3_; have f4_ := f1_.symm; have f5_ := f3_.symm; clear f1_ f2_ f3_; subst f4_; subst f5_))
      obtain ⟨Ao115, co115, eo115⟩ := Kd.R_slice HO393.out; (first | subst eo115 | (injection eo115 with f1_ f2_ f3_; have f4_ := f1_.symm; have f5_ := f3_.symm; clear f1_ f2_ f3_; subst f4_; subst f5_))
      refine norm_ (a' := ?_) ?_ ?_
      rotate_left
      · simp only [putAll, Act.put, sA_, sB_, sC_]
        rfl
      refine one_ (i := 6) (N := none) #[true, true, true, true, true, true, true, false] rfl rfl (one_of HT_.out (by kernel_rfl)) (by decide) (fun K hK => ?_)
      have hs114 : w112.cell? ⟨gb400, 0, none⟩ = some (.slice none 0 0) := (zG BK400.out 0).trans rfl
      have hfs114 := zI BK400.out 0; have hns114_0 := NB374_400.out; have hns114_2 := NB401_400.out; have hms114_0 := NB400_374.out; have hms114_2 := NB400_401.out; have hs116 : w112.cell? ⟨gb400, 1, none⟩ = some (.slice none 0 0) := (zG BK400.out 1).trans rfl
      have hfs116 := zI BK400.out 1; have hns116_0 := NB374_400.out; have hns116_2 := NB401_400.out; have hms116_0 := NB400_374.out; have hms116_2 := NB400_401.out; refine skip_ (w1 := ?_) (by rfl) rfl ?_ ?_
      rotate_left
      · go_simp
        rfl
      refine hK.out _ _ ⟨((zL (p := ⟨gb400, _, none⟩) NB374_400.out _).trans (((zL (p := ⟨gb400, _, none⟩) NB374_400.out _).trans (hHeld.1)))), ((zL (p := ⟨gb400, _, none⟩) NB374_400.out _).trans (((zL (p := ⟨gb400, _, none⟩) NB374_400.out _).trans (hHeld.2.1)))), ((zL (p := ⟨gb400, _, none⟩) NB374_400.out _).trans (((zL (p := ⟨gb400, _, none⟩) NB374_400.out _).trans (hHeld.2.2.1)))), ((zL (p := ⟨gb400, _, none⟩) NB374_400.out _).trans (((zL (p := ⟨gb400, _, none⟩) NB374_400.out _).trans (hHeld.2.2.2.1)))), ((zL (p := ⟨gb400, _, none⟩) NB374_400.out _).trans (((zL (p := ⟨gb400, _, none⟩) NB374_400.out _).trans (hHeld.2.2.2.2.1)))), ((zL (p := ⟨gb400, _, none⟩) NB374_400.out _).trans (((zL (p := ⟨gb400, _, none⟩) NB374_400.out _).trans (hHeld.2.2.2.2.2))))⟩ (fun hHeld => ?_)
      clear hK K; refine one_ (i := 7) (N := none) #[true, true, true, true, true, true, true, true] rfl rfl (one_of HT_.out (by kernel_rfl)) (by decide) (fun K hK => ?_)
      have hs117 : w112.cell? ⟨gb401, 0, none⟩ = some (.int .i64 0) := (zG BK401.out 0).trans rfl
      have hfs117 := zI BK401.out 0; have hns117_0 := NB374_401.out; have hns117_1 := NB400_401.out; have hms117_0 := NB401_374.out; have hms117_1 := NB401_400.out; have hs118 : w112.cell? ⟨gb401, 1, none⟩ = some (.int .i64 0) := (zG BK401.out 1).trans rfl
      have hfs118 := zI BK401.out 1; have hns118_0 := NB374_401.out; have hns118_1 := NB400_401.out; have hms118_0 := NB401_374.out; have hms118_1 := NB401_400.out; have hs119 : w112.cell? ⟨gb401, 2, none⟩ = some (.int .u8 0) := (zG BK401.out 2).trans rfl
      have hfs119 := zI BK401.out 2; have hns119_0 := NB374_401.out; have hns119_1 := NB400_401.out; have hms119_0 := NB401_374.out; have hms119_1 := NB401_400.out; have hs120 : w112.cell? ⟨gb401, 3, none⟩ = some (.int .i64 0) := (zG BK401.out 3).trans rfl
      have hfs120 := zI BK401.out 3; have hns120_0 := NB374_401.out; have hns120_1 := NB400_401.out; have hms120_0 := NB401_374.out; have hms120_1 := NB401_400.out; have hs121 : w112.cell? ⟨gb401, 4, none⟩ = some (.int .i64 0) := (zG BK401.out 4).trans rfl
      have hfs121 := zI BK401.out 4; have hns121_0 := NB374_401.out; have hns121_1 := NB400_401.out; have hms121_0 := NB401_374.out; have hms121_1 := NB401_400.out; have hs122 : w112.cell? ⟨gb401, 5, none⟩ = some (.float .f64 0) := (zG BK401.out 5).trans rfl
      have hfs122 := zI BK401.out 5; have hns122_0 := NB374_401.out; have hns122_1 := NB400_401.out; have hms122_0 := NB401_374.out; have hms122_1 := NB401_400.out; refine skip_ (w1 := ?_) (by rfl) rfl ?_ ?_
      rotate_left
      · go_simp
        rfl
      refine hK.out _ _ ⟨((zL (p := ⟨gb401, _, none⟩) NB374_401.out _).trans (((zL (p := ⟨gb401, _, none⟩) NB374_401.out _).trans (((zL (p := ⟨gb401, _, none⟩) NB374_401.out _).trans (((zL (p := ⟨gb401, _, none⟩) NB374_401.out _).trans (((zL (p := ⟨gb401, _, none⟩) NB374_401.out _).trans (((zL (p := ⟨gb401, _, none⟩) NB374_401.out _).trans (hHeld.1)))))))))))), ((zL (p := ⟨gb401, _, none⟩) NB374_401.out _).trans (((zL (p := ⟨gb401, _, none⟩) NB374_401.out _).trans (((zL (p := ⟨gb401, _, none⟩) NB374_401.out _).trans (((zL (p := ⟨gb401, _, none⟩) NB374_401.out _).trans (((zL (p := ⟨gb401, _, none⟩) NB374_401.out _).trans (((zL (p := ⟨gb401, _, none⟩) NB374_401.out _).trans (hHeld.2.1)))))))))))), ((zL (p := ⟨gb401, _, none⟩) NB374_401.out _).trans (((zL (p := ⟨gb401, _, none⟩) NB374_401.out _).trans (((zL (p := ⟨gb401, _, none⟩) NB374_401.out _).trans (((zL (p := ⟨gb401, _, none⟩) NB374_401.out _).trans (((zL (p := ⟨gb401, _, none⟩) NB374_401.out _).trans (((zL (p := ⟨gb401, _, none⟩) NB374_401.out _).trans (hHeld.2.2.1)))))))))))), ((zL (p := ⟨gb401, _, none⟩) NB374_401.out _).trans (((zL (p := ⟨gb401, _, none⟩) NB374_401.out _).trans (((zL (p := ⟨gb401, _, none⟩) NB374_401.out _).trans (((zL (p := ⟨gb401, _, none⟩) NB374_401.out _).trans (((zL (p := ⟨gb401, _, none⟩) NB374_401.out _).trans (((zL (p := ⟨gb401, _, none⟩) NB374_401.out _).trans (hHeld.2.2.2.1)))))))))))), ((zL (p := ⟨gb401, _, none⟩) NB374_401.out _).trans (((zL (p := ⟨gb401, _, none⟩) NB374_401.out _).trans (((zL (p := ⟨gb401, _, none⟩) NB374_401.out _).trans (((zL (p := ⟨gb401, _, none⟩) NB374_401.out _).trans (((zL (p := ⟨gb401, _, none⟩) NB374_401.out _).trans (((zL (p := ⟨gb401, _, none⟩) NB374_401.out _).trans (hHeld.2.2.2.2.1)))))))))))), ((zL (p := ⟨gb401, _, none⟩) NB374_401.out _).trans (((zL (p := ⟨gb401, _, none⟩) NB374_401.out _).trans (((zL (p := ⟨gb401, _, none⟩) NB374_401.out _).trans (((zL (p := ⟨gb401, _, none⟩) NB374_401.out _).trans (((zL (p := ⟨gb401, _, none⟩) NB374_401.out _).trans (((zL (p := ⟨gb401, _, none⟩) NB374_401.out _).trans (hHeld.2.2.2.2.2))))))))))))⟩ (fun hHeld => ?_)
      clear hK K; refine done_ (done_of HT_.out (by kernel_rfl)) ?_
      have hnb123 := NB400_374.out; have hnc123 := NB374_400.out; have hnb124 := NB400_401.out; have hnc124 := NB401_400.out; have hcz125_0 : w112.cell? ⟨gb400, 0, none⟩ = some (.slice none 0 0) := (zG BK400.out 0).trans rfl
      have hcz125_1 : w112.cell? ⟨gb400, 1, none⟩ = some (.slice none 0 0) := (zG BK400.out 1).trans rfl
      have hfz125_0 := zI BK400.out 0; have hfz125_1 := zI BK400.out 1; have hnb126 := NB401_374.out; have hnc126 := NB374_401.out; have hcz127_0 : w112.cell? ⟨gb401, 0, none⟩ = some (.int .i64 0) := (zG BK401.out 0).trans rfl
      have hcz127_1 : w112.cell? ⟨gb401, 1, none⟩ = some (.int .i64 0) := (zG BK401.out 1).trans rfl
      have hcz127_2 : w112.cell? ⟨gb401, 2, none⟩ = some (.int .u8 0) := (zG BK401.out 2).trans rfl
      have hcz127_3 : w112.cell? ⟨gb401, 3, none⟩ = some (.int .i64 0) := (zG BK401.out 3).trans rfl
      have hcz127_4 : w112.cell? ⟨gb401, 4, none⟩ = some (.int .i64 0) := (zG BK401.out 4).trans rfl
      have hcz127_5 : w112.cell? ⟨gb401, 5, none⟩ = some (.float .f64 0) := (zG BK401.out 5).trans rfl
      have hfz127_0 := zI BK401.out 0; have hfz127_1 := zI BK401.out 1; have hfz127_2 := zI BK401.out 2; have hfz127_3 := zI BK401.out 3; have hfz127_4 := zI BK401.out 4; have hfz127_5 := zI BK401.out 5; try go_wp2_with (first | ((with_reducible refine gate_callee (f := 14) rfl ?_); refine goesL_ (some 48) rfl rfl Try.func14 (by kernel_rfl) rfl #[.agg #[.slice Ao113 t388.length co113, .slice Ao115 t391.length co115], .int .i64 0, .int .i64 (t388.length : Int), .agg #[.int .i64 t394, .int .i64 t395, .int .u8 t396, .int .i64 t397, .int .i64 t398, .float .f64 t399]] rfl (by (try simp only [List.map_toArray, List.map_cons, List.map_nil]); first | done | rfl | (simp only [List.length_drop, List.length_take]; rfl)) ?_; (with_reducible refine (best_Break.calls k1 _ _ t388 _ _ t391 0 (t388.length : Int) t394 t395 t396 t397 t398 t399 t402 true _ ?side1 ?side2 ?side3 ?side4 A25.out).mono ?_); (case side1 => refine (Kd.R_reads' (e := 62) (base := w.heap.size) (ok := fun k_ => True) (n := t388.length) (c := co113) ?_).2.2; exact (by (with_reducible repeat (first | apply Kd.R_alloc | apply Kd.R_drewN | apply Kd.R_drew)); exact (Kd.R_mono (Kd.R_mono (Kd.R_far (p := ⟨gb401, 5, none⟩) (Kd.R_far (p := ⟨gb401, 4, none⟩) (Kd.R_far (p := ⟨gb401, 3, none⟩) (Kd.R_far (p := ⟨gb401, 2, none⟩) (Kd.R_far (p := ⟨gb401, 1, none⟩) (Kd.R_far (p := ⟨gb401, 0, none⟩) (Kd.R_far (p := ⟨gb400, 1, none⟩) (Kd.R_far (p := ⟨gb400, 0, none⟩) (Kd.R_types (Kd.R_types HO390.out BK400.out (by decide)) BK401.out (by decide)) (fun _ hk => hk.1.2) (.slice Ao113 t388.length co113)) (fun _ hk => hk.1.2) (.slice Ao115 t391.length co115)) (fun _ hk => hk.2) (.int .i64 t394)) (fun _ hk => hk.2) (.int .i64 t395)) (fun _ hk => hk.2) (.int .u8 t396)) (fun _ hk => hk.2) (.int .i64 t397)) (fun _ hk => hk.2) (.int .i64 t398)) (fun _ hk => hk.2) (.float .f64 t399)) (fun _ h_ => h_.1)) (fun _ h_ => h_.1)))); (case side2 => exact (Kd.R_reads' HO390.out).2.1); (case side3 => refine (Kd.R_reads' (e := 46) (base := w.heap.size) (ok := fun k_ => True) (n := t391.length) (c := co115) ?_).2.2; exact (by (with_reducible repeat (first | apply Kd.R_alloc | apply Kd.R_drewN | apply Kd.R_drew)); exact (Kd.R_mono (Kd.R_mono (Kd.R_far (p := ⟨gb401, 5, none⟩) (Kd.R_far (p := ⟨gb401, 4, none⟩) (Kd.R_far (p := ⟨gb401, 3, none⟩) (Kd.R_far (p := ⟨gb401, 2, none⟩) (Kd.R_far (p := ⟨gb401, 1, none⟩) (Kd.R_far (p := ⟨gb401, 0, none⟩) (Kd.R_far (p := ⟨gb400, 1, none⟩) (Kd.R_far (p := ⟨gb400, 0, none⟩) (Kd.R_types (Kd.R_types HO393.out BK400.out (by decide)) BK401.out (by decide)) (fun _ hk => hk.1.2) (.slice Ao113 t388.length co113)) (fun _ hk => hk.1.2) (.slice Ao115 t391.length co115)) (fun _ hk => hk.2) (.int .i64 t394)) (fun _ hk => hk.2) (.int .i64 t395)) (fun _ hk => hk.2) (.int .u8 t396)) (fun _ hk => hk.2) (.int .i64 t397)) (fun _ hk => hk.2) (.int .i64 t398)) (fun _ hk => hk.2) (.float .f64 t399)) (fun _ h_ => h_.1)) (fun _ h_ => h_.1)))); (case side4 => exact (Kd.R_reads' HO393.out).2.1); rintro e w128 ⟨v403, rfl, ho0, hb⟩; refine ⟨_, rfl, ?_⟩; have n0_ := zB.mk (Kd.R_below (by (with_reducible repeat (first | apply Kd.R_alloc | apply Kd.R_drewN | apply Kd.R_drew)); exact (Kd.R_mono (Kd.R_mono (Kd.R_far (p := ⟨gb401, 5, none⟩) (Kd.R_far (p := ⟨gb401, 4, none⟩) (Kd.R_far (p := ⟨gb401, 3, none⟩) (Kd.R_far (p := ⟨gb401, 2, none⟩) (Kd.R_far (p := ⟨gb401, 1, none⟩) (Kd.R_far (p := ⟨gb401, 0, none⟩) (Kd.R_far (p := ⟨gb400, 1, none⟩) (Kd.R_far (p := ⟨gb400, 0, none⟩) (Kd.R_types (Kd.R_types HO_0.out BK400.out (by decide)) BK401.out (by decide)) (fun _ hk => hk.1.2) (.slice Ao113 t388.length co113)) (fun _ hk => hk.1.2) (.slice Ao115 t391.length co115)) (fun _ hk => hk.2) (.int .i64 t394)) (fun _ hk => hk.2) (.int .i64 t395)) (fun _ hk => hk.2) (.int .u8 t396)) (fun _ hk => hk.2) (.int .i64 t397)) (fun _ hk => hk.2) (.int .i64 t398)) (fun _ hk => hk.2) (.float .f64 t399)) (fun _ h_ => h_.1)) (fun _ h_ => h_.1))) hb); have n1_ := zB.mk (Kd.R_below (by (with_reducible repeat (first | apply Kd.R_alloc | apply Kd.R_drewN | apply Kd.R_drew)); exact (Kd.R_mono (Kd.R_mono (Kd.R_far (p := ⟨gb401, 5, none⟩) (Kd.R_far (p := ⟨gb401, 4, none⟩) (Kd.R_far (p := ⟨gb401, 3, none⟩) (Kd.R_far (p := ⟨gb401, 2, none⟩) (Kd.R_far (p := ⟨gb401, 1, none⟩) (Kd.R_far (p := ⟨gb401, 0, none⟩) (Kd.R_far (p := ⟨gb400, 1, none⟩) (Kd.R_far (p := ⟨gb400, 0, none⟩) (Kd.R_types (Kd.R_types HO390.out BK400.out (by decide)) BK401.out (by decide)) (fun _ hk => hk.1.2) (.slice Ao113 t388.length co113)) (fun _ hk => hk.1.2) (.slice Ao115 t391.length co115)) (fun _ hk => hk.2) (.int .i64 t394)) (fun _ hk => hk.2) (.int .i64 t395)) (fun _ hk => hk.2) (.int .u8 t396)) (fun _ hk => hk.2) (.int .i64 t397)) (fun _ hk => hk.2) (.int .i64 t398)) (fun _ hk => hk.2) (.float .f64 t399)) (fun _ h_ => h_.1)) (fun _ h_ => h_.1))) hb); have n2_ := zB.mk (Kd.R_below (by (with_reducible repeat (first | apply Kd.R_alloc | apply Kd.R_drewN | apply Kd.R_drew)); exact (Kd.R_mono (Kd.R_mono (Kd.R_far (p := ⟨gb401, 5, none⟩) (Kd.R_far (p := ⟨gb401, 4, none⟩) (Kd.R_far (p := ⟨gb401, 3, none⟩) (Kd.R_far (p := ⟨gb401, 2, none⟩) (Kd.R_far (p := ⟨gb401, 1, none⟩) (Kd.R_far (p := ⟨gb401, 0, none⟩) (Kd.R_far (p := ⟨gb400, 1, none⟩) (Kd.R_far (p := ⟨gb400, 0, none⟩) (Kd.R_types (Kd.R_types HO393.out BK400.out (by decide)) BK401.out (by decide)) (fun _ hk => hk.1.2) (.slice Ao113 t388.length co113)) (fun _ hk => hk.1.2) (.slice Ao115 t391.length co115)) (fun _ hk => hk.2) (.int .i64 t394)) (fun _ hk => hk.2) (.int .i64 t395)) (fun _ hk => hk.2) (.int .u8 t396)) (fun _ hk => hk.2) (.int .i64 t397)) (fun _ hk => hk.2) (.int .i64 t398)) (fun _ hk => hk.2) (.float .f64 t399)) (fun _ h_ => h_.1)) (fun _ h_ => h_.1))) hb); have n3_ := zB.mk (Kd.R_lower ho0 (zM (by repeat (first | (with_reducible first | exact HB.out | apply zJ | apply zF | apply zH | refine zE ?_ GE374.out | refine zE ?_ GE400.out | refine zE ?_ GE401.out) | exact HB.out)))); have n4_ := zB.mk (zK (g := gb374) (o := .cells #[.int .u8 a1_0, .int .u8 a1_1, .int .u8 a1_2, .int .u16 a1_3, .int .u16 a1_4, .float .f64 a1_5] 26 (0, 0)) (by (with_reducible repeat (first | refine zC ?_ _ | refine zD ?_ | refine zA ?_ _)); refine zN ?_ NB374_401.out _; (with_reducible repeat (first | refine zC ?_ _ | refine zD ?_ | refine zA ?_ _)); refine zN ?_ NB374_401.out _; (with_reducible repeat (first | refine zC ?_ _ | refine zD ?_ | refine zA ?_ _)); refine zN ?_ NB374_401.out _; (with_reducible repeat (first | refine zC ?_ _ | refine zD ?_ | refine zA ?_ _)); refine zN ?_ NB374_401.out _; (with_reducible repeat (first | refine zC ?_ _ | refine zD ?_ | refine zA ?_ _)); refine zN ?_ NB374_401.out _; (with_reducible repeat (first | refine zC ?_ _ | refine zD ?_ | refine zA ?_ _)); refine zN ?_ NB374_401.out _; (with_reducible repeat (first | refine zC ?_ _ | refine zD ?_ | refine zA ?_ _)); refine zN ?_ NB374_400.out _; (with_reducible repeat (first | refine zC ?_ _ | refine zD ?_ | refine zA ?_ _)); refine zN ?_ NB374_400.out _; (with_reducible repeat (first | refine zC ?_ _ | refine zD ?_ | refine zA ?_ _)); exact BK374.out) hb); have n5_ := zB.mk (zK (g := gb400) (o := .cells #[.slice Ao113 t388.length co113, .slice Ao115 t391.length co115] 31 (0, 0)) (by (with_reducible repeat (first | refine zC ?_ _ | refine zD ?_ | refine zA ?_ _)); refine zN ?_ NB400_401.out _; (with_reducible repeat (first | refine zC ?_ _ | refine zD ?_ | refine zA ?_ _)); refine zN ?_ NB400_401.out _; (with_reducible repeat (first | refine zC ?_ _ | refine zD ?_ | refine zA ?_ _)); refine zN ?_ NB400_401.out _; (with_reducible repeat (first | refine zC ?_ _ | refine zD ?_ | refine zA ?_ _)); refine zN ?_ NB400_401.out _; (with_reducible repeat (first | refine zC ?_ _ | refine zD ?_ | refine zA ?_ _)); refine zN ?_ NB400_401.out _; (with_reducible repeat (first | refine zC ?_ _ | refine zD ?_ | refine zA ?_ _)); refine zN ?_ NB400_401.out _; (with_reducible repeat (first | refine zC ?_ _ | refine zD ?_ | refine zA ?_ _)); refine blk_put (cs := #[.slice Ao113 t388.length co113, .slice none 0 0]) ?_ 1 _ rfl; (with_reducible repeat (first | refine zC ?_ _ | refine zD ?_ | refine zA ?_ _)); refine blk_put (cs := #[.slice none 0 0, .slice none 0 0]) ?_ 0 _ rfl; (with_reducible repeat (first | refine zC ?_ _ | refine zD ?_ | refine zA ?_ _)); exact BK400.out) hb); have n6_ := zB.mk (zK (g := gb401) (o := .cells #[.int .i64 t394, .int .i64 t395, .int .u8 t396, .int .i64 t397, .int .i64 t398, .float .f64 t399] 35 (0, 0)) (by (with_reducible repeat (first | refine zC ?_ _ | refine zD ?_ | refine zA ?_ _)); refine blk_put (cs := #[.int .i64 t394, .int .i64 t395, .int .u8 t396, .int .i64 t397, .int .i64 t398, .float .f64 0]) ?_ 5 _ rfl; (with_reducible repeat (first | refine zC ?_ _ | refine zD ?_ | refine zA ?_ _)); refine blk_put (cs := #[.int .i64 t394, .int .i64 t395, .int .u8 t396, .int .i64 t397, .int .i64 0, .float .f64 0]) ?_ 4 _ rfl; (with_reducible repeat (first | refine zC ?_ _ | refine zD ?_ | refine zA ?_ _)); refine blk_put (cs := #[.int .i64 t394, .int .i64 t395, .int .u8 t396, .int .i64 0, .int .i64 0, .float .f64 0]) ?_ 3 _ rfl; (with_reducible repeat (first | refine zC ?_ _ | refine zD ?_ | refine zA ?_ _)); refine blk_put (cs := #[.int .i64 t394, .int .i64 t395, .int .u8 0, .int .i64 0, .int .i64 0, .float .f64 0]) ?_ 2 _ rfl; (with_reducible repeat (first | refine zC ?_ _ | refine zD ?_ | refine zA ?_ _)); refine blk_put (cs := #[.int .i64 t394, .int .i64 0, .int .u8 0, .int .i64 0, .int .i64 0, .float .f64 0]) ?_ 1 _ rfl; (with_reducible repeat (first | refine zC ?_ _ | refine zD ?_ | refine zA ?_ _)); refine blk_put (cs := #[.int .i64 0, .int .i64 0, .int .u8 0, .int .i64 0, .int .i64 0, .float .f64 0]) ?_ 0 _ rfl; (with_reducible repeat (first | refine zC ?_ _ | refine zD ?_ | refine zA ?_ _)); refine zN ?_ NB401_400.out _; (with_reducible repeat (first | refine zC ?_ _ | refine zD ?_ | refine zA ?_ _)); refine zN ?_ NB401_400.out _; (with_reducible repeat (first | refine zC ?_ _ | refine zD ?_ | refine zA ?_ _)); exact BK401.out) hb); have n7_ := zB.mk (zO (by repeat (first | (with_reducible first | exact HB.out | apply zJ | apply zF | apply zH | refine zE ?_ GE374.out | refine zE ?_ GE400.out | refine zE ?_ GE401.out) | exact HB.out)) hb); clear HO_0; clear HO390; clear HO393; clear BK374; clear BK400; clear BK401; clear HB; have HO_0 := n0_; have HO390 := n1_; have HO393 := n2_; have HO404 := n3_; have BK374 := n4_; have BK400 := n5_; have BK401 := n6_; have HB := n7_; clear n0_ n1_ n2_ n3_ n4_ n5_ n6_ n7_; (try clear hb); (try clear hb2); (try clear hk); (try clear hi); (try clear ho0)))
      have n0_ := zB.mk (Kd.R_drew HO_0.out); have n1_ := zB.mk (Kd.R_drew HO390.out); have n2_ := zB.mk (Kd.R_drew HO393.out); have n3_ := zB.mk (Kd.R_drew HO404.out); have n4_ := zB.mk (zD BK374.out); have n5_ := zB.mk (zD BK400.out); have n6_ := zB.mk (zD BK401.out); have n7_ := zB.mk (zH HB.out); clear HO_0; clear HO390; clear HO393; clear HO404; clear BK374; clear BK400; clear BK401; clear HB; have HO_0 := n0_; have HO390 := n1_; have HO393 := n2_; have HO404 := n3_; have BK374 := n4_; have BK400 := n5_; have BK401 := n6_; have HB := n7_; clear n0_ n1_ n2_ n3_ n4_ n5_ n6_ n7_; refine start_ (n := 8) (S := fun w' => w'.cell? ⟨gb400, 0, none⟩ = some (.slice Ao113 t388.length co113) ∧ w'.cell? ⟨gb400, 1, none⟩ = some (.slice Ao115 t391.length co115) ∧ w'.cell? ⟨gb401, 0, none⟩ = some (.int .i64 t394) ∧ w'.cell? ⟨gb401, 1, none⟩ = some (.int .i64 t395) ∧ w'.cell? ⟨gb401, 2, none⟩ = some (.int .u8 t396) ∧ w'.cell? ⟨gb401, 3, none⟩ = some (.int .i64 t397) ∧ w'.cell? ⟨gb401, 4, none⟩ = some (.int .i64 t398) ∧ w'.cell? ⟨gb401, 5, none⟩ = some (.float .f64 t399)) (ds := []) #[false, false, false, false, false, false, false, false] (by kernel_rfl) rfl rfl ⟨(zG BK400.out 0).trans rfl, (zG BK400.out 1).trans rfl, (zG BK401.out 0).trans rfl, (zG BK401.out 1).trans rfl, (zG BK401.out 2).trans rfl, (zG BK401.out 3).trans rfl, (zG BK401.out 4).trans rfl, (zG BK401.out 5).trans rfl⟩ (fun hHeld => ?_); refine with_tabW stanzalaw15_BestOne.tab15 stanzalaw15_BestOne.bits15 (fun HT_ HW_ => ?_)
      generalize w128.drew = w129 at HO_0 HO390 HO393 HO404 BK374 BK400 BK401 HB hHeld ⊢
      refine pure_ (i := 1) (N := some 60) (v := ?_) (a' := ?_) #[false, true, false, false, false, false, false, false] rfl rfl (any_of HT_.out (by kernel_rfl)) (fun _ _ _ h => h) (Or.inl ⟨by rfl, ?_⟩) ?_ ?_
      rotate_left
      · intro w'
        go_simp
        with_reducible rfl
      rotate_left
      · simp only [Act.put, sA_, sB_, sC_, i64_w, i32_w]
        rfl
      refine pure_ (i := 2) (N := some 61) (v := ?_) (a' := ?_) #[false, true, true, false, false, false, false, false] rfl rfl (any_of HT_.out (by kernel_rfl)) (fun _ _ _ h => h) (Or.inl ⟨by rfl, ?_⟩) ?_ ?_
      rotate_left
      · intro w'
        go_simp
        with_reducible rfl
      rotate_left
      · simp only [Act.put, sA_, sB_, sC_, i64_w, i32_w]
        rfl
      refine pure_ (i := 5) (N := some 64) (v := ?_) (a' := ?_) #[false, true, true, false, false, true, false, false] rfl rfl (any_of HT_.out (by kernel_rfl)) (fun _ _ _ h => h) (Or.inl ⟨by rfl, ?_⟩) ?_ ?_
      rotate_left
      · intro w'
        go_simp
        with_reducible rfl
      rotate_left
      · simp only [Act.put, sA_, sB_, sC_, i64_w, i32_w]
        rfl
      refine take_ (i := 0) (N := some 59) (v := ?_) (a' := ?_) #[true, true, true, false, false, true, false, false] rfl rfl (take_ofW HT_.out HW_.out (by kernel_rfl)) (fun _ _ _ h => h) (Or.inl ⟨by rfl, ?_⟩) hHeld ?_ ?_
      rotate_left
      · rintro w' ⟨s0, s1, s2, s3, s4, s5, s6, s7⟩
        go_simp
        with_reducible rfl
      rotate_left
      · simp only [Act.put, sA_, sB_, sC_, i64_w, i32_w]
        rfl
      refine take_ (i := 3) (N := some 62) (v := ?_) (a' := ?_) #[true, true, true, true, false, true, false, false] rfl rfl (take_ofW HT_.out HW_.out (by kernel_rfl)) (fun _ _ _ h => h) (Or.inl ⟨by rfl, ?_⟩) hHeld ?_ ?_
      rotate_left
      · rintro w' ⟨s0, s1, s2, s3, s4, s5, s6, s7⟩
        go_simp
        with_reducible rfl
      rotate_left
      · simp only [Act.put, sA_, sB_, sC_, i64_w, i32_w]
        rfl
      refine take_ (i := 6) (N := some 65) (v := ?_) (a' := ?_) #[true, true, true, true, false, true, true, false] rfl rfl (take_ofW HT_.out HW_.out (by kernel_rfl)) (fun _ _ _ h => h) (Or.inl ⟨by rfl, ?_⟩) hHeld ?_ ?_
      rotate_left
      · rintro w' ⟨s0, s1, s2, s3, s4, s5, s6, s7⟩
        go_simp
        with_reducible rfl
      rotate_left
      · simp only [Act.put, sA_, sB_, sC_, i64_w, i32_w]
        rfl
      refine one_ (i := 4) (N := some 63) #[true, true, true, true, true, true, true, false] rfl rfl (one_of HT_.out (by kernel_rfl)) (by decide) (fun K hK => ?_)
      refine goes_ Try.func18 (by kernel_rfl) rfl #[.agg #[.slice Ao113 t388.length co113, .slice Ao115 t391.length co115], .int .i64 0, .int .i64 (t388.length : Int), .int .u8 2, .int .i64 t395] (by rfl) rfl rfl (by (try simp only [List.map_toArray, List.map_cons, List.map_nil]); first | done | rfl | (simp only [List.length_drop, List.length_take]; rfl)) ?_
      with_reducible refine (stanzaref13_Cells.calls k1 _ _ t388 _ _ t391 0 (t388.length : Int) 2 t395 t406 _ ?side1 ?side2 ?side3 ?side4 A51.out).mono ?_
      (case side1 => repeat (first | exact (Kd.R_reads' HO390.out).2.2 | (with_reducible refine Kd.C_alloc ?_ _) | (with_reducible refine Kd.C_drewN ?_ _) | (with_reducible refine Kd.C_drew ?_)))
      (case side2 => exact (Kd.R_reads' HO390.out).2.1)
      (case side3 => repeat (first | exact (Kd.R_reads' HO393.out).2.2 | (with_reducible refine Kd.C_alloc ?_ _) | (with_reducible refine Kd.C_drewN ?_ _) | (with_reducible refine Kd.C_drew ?_)))
      (case side4 => exact (Kd.R_reads' HO393.out).2.1)
      rintro e w130 ⟨rfl, hb⟩
      refine ⟨_, rfl, ?_⟩
      have n0_ := zB.mk (Kd.R_below (by (with_reducible repeat (first | apply Kd.R_alloc | apply Kd.R_drewN | apply Kd.R_drew)); exact HO_0.out) hb)
      have n1_ := zB.mk (Kd.R_below (by (with_reducible repeat (first | apply Kd.R_alloc | apply Kd.R_drewN | apply Kd.R_drew)); exact HO390.out) hb)
      have n2_ := zB.mk (Kd.R_below (by (with_reducible repeat (first | apply Kd.R_alloc | apply Kd.R_drewN | apply Kd.R_drew)); exact HO393.out) hb)
      have n3_ := zB.mk (Kd.R_below (by (with_reducible repeat (first | apply Kd.R_alloc | apply Kd.R_drewN | apply Kd.R_drew)); exact HO404.out) hb)
      have n4_ := zB.mk (zK (g := gb374) (o := .cells #[.int .u8 a1_0, .int .u8 a1_1, .int .u8 a1_2, .int .u16 a1_3, .int .u16 a1_4, .float .f64 a1_5] 26 (0, 0)) (by (with_reducible repeat (first | refine zC ?_ _ | refine zD ?_ | refine zA ?_ _)); exact BK374.out) hb)
      have n5_ := zB.mk (zK (g := gb400) (o := .cells #[.slice Ao113 t388.length co113, .slice Ao115 t391.length co115] 31 (0, 0)) (by (with_reducible repeat (first | refine zC ?_ _ | refine zD ?_ | refine zA ?_ _)); exact BK400.out) hb)
      have n6_ := zB.mk (zK (g := gb401) (o := .cells #[.int .i64 t394, .int .i64 t395, .int .u8 t396, .int .i64 t397, .int .i64 t398, .float .f64 t399] 35 (0, 0)) (by (with_reducible repeat (first | refine zC ?_ _ | refine zD ?_ | refine zA ?_ _)); exact BK401.out) hb)
      have n7_ := zB.mk (zO (by repeat (first | (with_reducible first | exact HB.out | apply zJ | apply zF | apply zH | refine zE ?_ GE374.out | refine zE ?_ GE400.out | refine zE ?_ GE401.out) | exact HB.out)) hb)
      clear HO_0 HO390 HO393 HO404 BK374 BK400 BK401 HB; have HO_0 := n0_; have HO390 := n1_; have HO393 := n2_; have HO404 := n3_; have BK374 := n4_; have BK400 := n5_; have BK401 := n6_; have HB := n7_; clear n0_ n1_ n2_ n3_ n4_ n5_ n6_ n7_; (try clear hb)
      (try clear hb2)
      (try clear hk)
      (try clear hi)
      refine hK.out _ _ ⟨(zG BK400.out 0).trans rfl, (zG BK400.out 1).trans rfl, (zG BK401.out 0).trans rfl, (zG BK401.out 1).trans rfl, (zG BK401.out 2).trans rfl, (zG BK401.out 3).trans rfl, (zG BK401.out 4).trans rfl, (zG BK401.out 5).trans rfl⟩ (fun hHeld => ?_)
      clear hK K; refine norm_ (a' := ?_) ?_ ?_
      rotate_left
      · show Act.put _ (some 63) _ = _
        simp only [Act.put, sA_, sB_, sC_, i64_w, i32_w]; rfl
      refine pure_ (i := 7) (N := some 66) (v := ?_) (a' := ?_) #[true, true, true, true, true, true, true, true] rfl rfl (any_of HT_.out (by kernel_rfl)) (fun _ _ _ h => h) (Or.inl ⟨by rfl, ?_⟩) ?_ ?_
      rotate_left
      · intro w'
        go_simp
        with_reducible rfl
      rotate_left
      · simp only [Act.put, sA_, sB_, sC_, i64_w, i32_w]
        rfl
      refine done_ (done_of HT_.out (by kernel_rfl)) ?_
      obtain ⟨Ao131, co131, eo131⟩ := Kd.R_slice HO404.out; subst eo131; have p407 : 0 ≤ (0 : Int) := (by omega)
      have q407 : 0 < (t402.length : Int) := of_decide_eq_true (by first | (with_reducible assumption) | assumption)
      obtain ⟨ad407, e407, hx407_0, hx407_1, hx407_2, hx407_3⟩ := at_T48 (Kd.R_reads' HO404.out).2.2 0 p407 q407; cases e407
      have qi407 : (0 < t402.length) = True := eq_true (by omega)
      (try rw [show ((0 : Int)).toNat = 0 from rfl] at hx407_0)
      (try rw [show 0 * 4 = 0 from rfl] at hx407_0)
      (try rw [Addr.add_zero'] at hx407_0)
      (try rw [show ((0 : Int)).toNat = 0 from rfl] at hx407_1)
      (try rw [show 0 * 4 = 0 from rfl] at hx407_1)
      (try rw [Addr.add_zero'] at hx407_1)
      (try rw [show ((0 : Int)).toNat = 0 from rfl] at hx407_2)
      (try rw [show 0 * 4 = 0 from rfl] at hx407_2)
      (try rw [Addr.add_zero'] at hx407_2)
      (try rw [show ((0 : Int)).toNat = 0 from rfl] at hx407_3)
      (try rw [show 0 * 4 = 0 from rfl] at hx407_3)
      (try rw [Addr.add_zero'] at hx407_3)
      replace p407 := eq_true p407; replace q407 := eq_true q407; have p408 : 0 ≤ (0 : Int) := (by omega)
      have q408 : 0 < (t402.length : Int) := of_decide_eq_true (by first | (with_reducible assumption) | assumption)
      obtain ⟨ad408, e408, hx408_0, hx408_1, hx408_2, hx408_3⟩ := at_T48 (Kd.R_reads' HO404.out).2.2 0 p408 q408; obtain rfl : ad407 = ad408 := (by injection e408)
      have qi408 : (0 < t402.length) = True := eq_true (by omega)
      (try rw [show ((0 : Int)).toNat = 0 from rfl] at hx408_0)
      (try rw [show 0 * 4 = 0 from rfl] at hx408_0)
      (try rw [Addr.add_zero'] at hx408_0)
      (try rw [show ((0 : Int)).toNat = 0 from rfl] at hx408_1)
      (try rw [show 0 * 4 = 0 from rfl] at hx408_1)
      (try rw [Addr.add_zero'] at hx408_1)
      (try rw [show ((0 : Int)).toNat = 0 from rfl] at hx408_2)
      (try rw [show 0 * 4 = 0 from rfl] at hx408_2)
      (try rw [Addr.add_zero'] at hx408_2)
      (try rw [show ((0 : Int)).toNat = 0 from rfl] at hx408_3)
      (try rw [show 0 * 4 = 0 from rfl] at hx408_3)
      (try rw [Addr.add_zero'] at hx408_3)
      replace p408 := eq_true p408; replace q408 := eq_true q408; try go_wp2
      go_ret
      exact ⟨by first | rfl | (simp [errW_none, errW_some] <;> rfl) | (simp only [← hji5]; first | rfl | (simp [errW_none, errW_some] <;> rfl)) | (simp [*, errW_none, errW_some] <;> rfl), by repeat (first | (with_reducible first | exact HB.out | apply zJ | apply zF | apply zH | refine zE ?_ GE374.out | refine zE ?_ GE400.out | refine zE ?_ GE401.out) | exact HB.out)⟩
    rw [if_pos c52] at H; have c52b0 : decide (t394 < t406) = true := decide_eq_true c52
    clear c52; by_cases c53 : t405 = true
    · subst c53
      have H1 : (some (decide ((t402.length : Int) > 1))) = some r := by rw [if_pos rfl] at H; exact H
      clear H; have H := H1; clear H1; obtain rfl := Option.some.inj H
      try go_wp2
      have n0_ := zB.mk (Kd.R_drew HO_0.out); have n1_ := zB.mk (zD BK374.out); have n2_ := zB.mk (zH HB.out); clear HO_0; clear BK374; clear HB; have HO_0 := n0_; have BK374 := n1_; have HB := n2_; clear n0_ n1_ n2_; refine start_ (n := 8) (S := fun w' => w'.cell? ⟨gb374, 0, none⟩ = some (.int .u8 a1_0) ∧ w'.cell? ⟨gb374, 1, none⟩ = some (.int .u8 a1_1) ∧ w'.cell? ⟨gb374, 2, none⟩ = some (.int .u8 a1_2) ∧ w'.cell? ⟨gb374, 3, none⟩ = some (.int .u16 a1_3) ∧ w'.cell? ⟨gb374, 4, none⟩ = some (.int .u16 a1_4) ∧ w'.cell? ⟨gb374, 5, none⟩ = some (.float .f64 a1_5)) (ds := []) #[false, false, false, false, false, false, false, false] (by kernel_rfl) rfl rfl ⟨(zG BK374.out 0).trans rfl, (zG BK374.out 1).trans rfl, (zG BK374.out 2).trans rfl, (zG BK374.out 3).trans rfl, (zG BK374.out 4).trans rfl, (zG BK374.out 5).trans rfl⟩ (fun hHeld => ?_); refine with_tabW stanzalaw15_BestOne.tab10 stanzalaw15_BestOne.bits10 (fun HT_ HW_ => ?_)
      generalize wr.drew = w54 at HO_0 BK374 HB hHeld ⊢
      refine pure_ (i := 0) (N := some 37) (v := ?_) (a' := ?_) (tf_ 1 8) rfl rfl (any_of HT_.out (by kernel_rfl)) (fun _ _ _ h => h) (Or.inl ⟨by rfl, ?_⟩) ?_ ?_
      rotate_left
      · intro w'
        go_simp
        with_reducible rfl
      rotate_left
      · simp only [Act.put, sA_, sB_, sC_, i64_w, i32_w]
        rfl
      refine take_ (i := 2) (N := some 39) (v := ?_) (a' := ?_) #[true, false, true, false, false, false, false, false] rfl rfl (take_ofW HT_.out HW_.out (by kernel_rfl)) (fun _ _ _ h => h) (Or.inl ⟨by rfl, ?_⟩) hHeld ?_ ?_
      rotate_left
      · rintro w' ⟨s0, s1, s2, s3, s4, s5⟩
        go_simp
        with_reducible rfl
      rotate_left
      · simp only [Act.put, sA_, sB_, sC_, i64_w, i32_w]
        rfl
      refine join_ (σ := Value × Value × Nat × Nat) 2 #[true, true, true, true, true, true, false, false] (fun s_ => [(38, .agg #[s_.1, s_.2.1]), (40, .agg #[.int .i64 t394, .int .i64 t395, .int .u8 t396, .int .i64 t397, .int .i64 t398, .float .f64 t399]), (6, .pointer (some ⟨s_.2.2.1, 0, none⟩)), (7, .pointer (some ⟨s_.2.2.2, 0, none⟩))]) (fun s_ w' => (w'.cell? ⟨gb374, 0, none⟩ = some (.int .u8 a1_0) ∧ w'.cell? ⟨gb374, 1, none⟩ = some (.int .u8 a1_1) ∧ w'.cell? ⟨gb374, 2, none⟩ = some (.int .u8 a1_2) ∧ w'.cell? ⟨gb374, 3, none⟩ = some (.int .u16 a1_3) ∧ w'.cell? ⟨gb374, 4, none⟩ = some (.int .u16 a1_4) ∧ w'.cell? ⟨gb374, 5, none⟩ = some (.float .f64 a1_5)) ∧ (Kd.R k62 62 w' w.heap.size (fun _ => True) s_.1 t388) ∧ (Kd.R (Kd.int .u8) 46 w' w.heap.size (fun _ => True) s_.2.1 t391) ∧ (Kd.R k45 45 w' w.heap.size (fun _ => True) (.slice Ao15 x0_1.length co15) x0_1) ∧ (w'.heap[gb374]? = some (.cells #[.int .u8 a1_0, .int .u8 a1_1, .int .u8 a1_2, .int .u16 a1_3, .int .u16 a1_4, .float .f64 a1_5] 26 (0, 0))) ∧ (w'.heap[s_.2.2.1]? = some (.cells #[.slice none 0 0, .slice none 0 0] 31 (0, 0))) ∧ (w'.heap[s_.2.2.2]? = some (.cells #[.int .i64 0, .int .i64 0, .int .u8 0, .int .i64 0, .int .i64 0, .float .f64 0] 35 (0, 0))) ∧ (w.heap.size ≤ s_.2.2.1) ∧ (w.heap.size ≤ s_.2.2.1) ∧ (gb374 ≠ s_.2.2.1) ∧ (s_.2.2.1 ≠ gb374) ∧ (s_.2.2.2 ≠ s_.2.2.1) ∧ (s_.2.2.1 ≠ s_.2.2.2) ∧ (w.heap.size ≤ s_.2.2.2) ∧ (w.heap.size ≤ s_.2.2.2) ∧ (gb374 ≠ s_.2.2.2) ∧ (s_.2.2.2 ≠ gb374) ∧ (Below w.heap.size w w')) ?_ ?_
      rotate_left
      · intro hJ1_3_4_5
        refine par4_ (fuel := 2) (l' := #[true, true, true, true, true, true, false, false]) (i1 := 1) (i3 := 3) (i4 := 4) (i5 := 5) (σ := Value × Value) (cs4 := #[.slice none 0 0, .slice none 0 0]) (t4 := 31) (cs5 := #[.int .i64 0, .int .i64 0, .int .u8 0, .int .i64 0, .int .i64 0, .float .f64 0]) (t5 := 35) (fun s_ => .agg #[s_.1, s_.2]) (.agg #[.int .i64 t394, .int .i64 t395, .int .u8 t396, .int .i64 t397, .int .i64 t398, .float .f64 t399]) (par4_of HT_.out (by kernel_rfl)) rfl rfl rfl rfl rfl rfl rfl rfl rfl rfl (by decide) rfl (fun w_ => (w_.cell? ⟨gb374, 0, none⟩ = some (.int .u8 a1_0) ∧ w_.cell? ⟨gb374, 1, none⟩ = some (.int .u8 a1_1) ∧ w_.cell? ⟨gb374, 2, none⟩ = some (.int .u8 a1_2) ∧ w_.cell? ⟨gb374, 3, none⟩ = some (.int .u16 a1_3) ∧ w_.cell? ⟨gb374, 4, none⟩ = some (.int .u16 a1_4) ∧ w_.cell? ⟨gb374, 5, none⟩ = some (.float .f64 a1_5)) ∧ (Kd.R k45 45 w_ w.heap.size (fun _ => True) (.slice Ao15 x0_1.length co15) x0_1) ∧ (w_.heap[gb374]? = some (.cells #[.int .u8 a1_0, .int .u8 a1_1, .int .u8 a1_2, .int .u16 a1_3, .int .u16 a1_4, .float .f64 a1_5] 26 (0, 0))) ∧ (Below w.heap.size w w_)) ?pgrow (fun _ hP_ => hP_.1) (fun s_ w_ => (Kd.R k62 62 w_ w.heap.size (fun _ => True) s_.1 t388) ∧ (Kd.R (Kd.int .u8) 46 w_ w.heap.size (fun _ => True) s_.2 t391)) ?pF (fun g_ => (w.heap.size ≤ g_) ∧ (gb374 ≠ g_) ∧ (g_ ≠ gb374)) ?pNew ?pc1 ?pc3 ?pc4 ?pc5 ?pPhi ?pcont
        case pgrow =>
          intro w0_ w1_ hP_ hb_; obtain ⟨hS_, k0_, k1_, k2_⟩ := hP_; have HO_0 := zB.mk (by first | exact Kd.R_below k0_ hb_ | exact zK k0_ hb_ | exact zO k0_ hb_); have BK374 := zB.mk (by first | exact Kd.R_below k1_ hb_ | exact zK k1_ hb_ | exact zO k1_ hb_); have HB := zB.mk (by first | exact Kd.R_below k2_ hb_ | exact zK k2_ hb_ | exact zO k2_ hb_)
          exact ⟨⟨(zG BK374.out 0).trans rfl, (zG BK374.out 1).trans rfl, (zG BK374.out 2).trans rfl, (zG BK374.out 3).trans rfl, (zG BK374.out 4).trans rfl, (zG BK374.out 5).trans rfl⟩, HO_0.out, BK374.out, HB.out⟩
        case pF => intro s_ w0_ w1_ hP_ hb_; obtain ⟨f0_, f1_⟩ := hP_; exact ⟨(by first | exact Kd.R_below f0_ hb_ | exact zK f0_ hb_ | exact zO f0_ hb_), (by first | exact Kd.R_below f1_ hb_ | exact zK f1_ hb_ | exact zO f1_ hb_)⟩
        case pNew => intro w0_ hP_; obtain ⟨hS_, k0_, k1_, k2_⟩ := hP_; (try have l0_ := blk_lt k0_); (try have m0_ := zM k0_); (try have l1_ := blk_lt k1_); (try have m1_ := zM k1_); (try have l2_ := blk_lt k2_); (try have m2_ := zM k2_); refine ⟨?_, ?_, ?_⟩ <;> omega
        case pc1 =>
          intro a_ W_ K_ hev_ hP_ h_; obtain ⟨hS_, k0_, k1_, k2_⟩ := hP_; have HO_0 := zB.mk k0_; have BK374 := zB.mk k1_; have HB := zB.mk k2_
          refine goes_ Try.func11 (by kernel_rfl) rfl #[.slice Ao15 x0_1.length co15] (by rfl) rfl rfl (by simp only [List.map_toArray, List.map_cons, List.map_nil]; first | rfl | (simp (disch := decide) only [hev_]; rfl) | (rw [hev_ _ (by decide) (by decide) (by decide) (by decide)]; rfl)) ?_
          with_reducible refine (stanzahand03_Para.calls k1 _ _ x0_1 t388 t391 _ ?side1 ?side2 A23.out).mono ?_
          (case side1 => repeat (first | exact (Kd.R_reads' HO_0.out).2.2 | (with_reducible refine Kd.C_alloc ?_ _) | (with_reducible refine Kd.C_drewN ?_ _) | (with_reducible refine Kd.C_drew ?_)))
          (case side2 => exact (Kd.R_reads' HO_0.out).2.1)
          rintro e w55 ⟨v389, v392, rfl, ho0, ho1, hb⟩
          refine ⟨_, rfl, ?_⟩
          exact h_ (v389, v392) _ hb ⟨(Kd.R_lower ho0 (zM (by repeat (first | (with_reducible first | exact HB.out | apply zJ | apply zF | apply zH | refine zE ?_ GE374.out) | exact HB.out)))), (Kd.R_lower ho1 (zM (by repeat (first | (with_reducible first | exact HB.out | apply zJ | apply zF | apply zH | refine zE ?_ GE374.out) | exact HB.out))))⟩
        case pc3 =>
          intro a_ W_ K_ hev_ hP_ h_; obtain ⟨hS_, k0_, k1_, k2_⟩ := hP_; have HO_0 := zB.mk k0_; have BK374 := zB.mk k1_; have HB := zB.mk k2_
          refine goes_ Try.func12 (by kernel_rfl) rfl #[.agg #[.int .u8 a1_0, .int .u8 a1_1, .int .u8 a1_2, .int .u16 a1_3, .int .u16 a1_4, .float .f64 a1_5]] (by rfl) rfl rfl (by simp only [List.map_toArray, List.map_cons, List.map_nil]; first | rfl | (simp (disch := decide) only [hev_]; rfl) | (rw [hev_ _ (by decide) (by decide) (by decide) (by decide)]; rfl)) ?_
          with_reducible refine (stanzahand03_Config.calls a1_0 a1_1 a1_2 a1_3 a1_4 a1_5 t394 t395 t396 t397 t398 t399 _ A24.out).mono ?_
          rintro e w57 ⟨rfl, hb⟩
          refine ⟨_, rfl, ?_⟩
          exact h_ _ hb
        case pc4 => intro a_ W_; first | (go_simp; done) | (go_simp; rfl)
        case pc5 => intro a_ W_; first | (go_simp; done) | (go_simp; rfl)
        case pPhi => exact ⟨hHeld, HO_0.out, BK374.out, HB.out⟩
        case pcont => intro s_ gb400 gb401 w59 hP_ hF_ y4_ y5_ x4_ x5_ he_; obtain ⟨hS_, k0_, k1_, k2_⟩ := hP_; obtain ⟨v389, v392⟩ := s_; obtain ⟨f0_, f1_⟩ := hF_; exact hJ1_3_4_5 (v389, v392, gb400, gb401) _ ⟨hS_, f0_, f1_, k0_, k1_, y4_, y5_, x4_.1, x4_.1, x4_.2.1, x4_.2.2, (Ne.symm he_), he_, x5_.1, x5_.1, x5_.2.1, x5_.2.2, k2_⟩
      rintro ⟨v389, v392, gb400, gb401⟩ w59 ⟨hS_, h0_, h1_, h2_, h3_, h4_, h5_, h6_, h7_, h8_, h9_, h10_, h11_, h12_, h13_, h14_, h15_, h16_⟩
      have n0_ : zB (Kd.R k62 62 w59 w.heap.size (fun _ => True) v389 t388) := ⟨h0_⟩
      have n1_ : zB (Kd.R (Kd.int .u8) 46 w59 w.heap.size (fun _ => True) v392 t391) := ⟨h1_⟩
      have n2_ : zB (Kd.R k45 45 w59 w.heap.size (fun _ => True) (.slice Ao15 x0_1.length co15) x0_1) := ⟨h2_⟩
      have n3_ : zB (w59.heap[gb374]? = some (.cells #[.int .u8 a1_0, .int .u8 a1_1, .int .u8 a1_2, .int .u16 a1_3, .int .u16 a1_4, .float .f64 a1_5] 26 (0, 0))) := ⟨h3_⟩
      have n4_ : zB (w59.heap[gb400]? = some (.cells #[.slice none 0 0, .slice none 0 0] 31 (0, 0))) := ⟨h4_⟩
      have n5_ : zB (w59.heap[gb401]? = some (.cells #[.int .i64 0, .int .i64 0, .int .u8 0, .int .i64 0, .int .i64 0, .float .f64 0] 35 (0, 0))) := ⟨h5_⟩
      have n6_ : zB (w.heap.size ≤ gb400) := ⟨h6_⟩
      have n7_ : zB (w.heap.size ≤ gb400) := ⟨h7_⟩
      have n8_ : zB (gb374 ≠ gb400) := ⟨h8_⟩
      have n9_ : zB (gb400 ≠ gb374) := ⟨h9_⟩
      have n10_ : zB (gb401 ≠ gb400) := ⟨h10_⟩
      have n11_ : zB (gb400 ≠ gb401) := ⟨h11_⟩
      have n12_ : zB (w.heap.size ≤ gb401) := ⟨h12_⟩
      have n13_ : zB (w.heap.size ≤ gb401) := ⟨h13_⟩
      have n14_ : zB (gb374 ≠ gb401) := ⟨h14_⟩
      have n15_ : zB (gb401 ≠ gb374) := ⟨h15_⟩
      have n16_ : zB (Below w.heap.size w w59) := ⟨h16_⟩
      clear HO_0 BK374 HB h0_ h1_ h2_ h3_ h4_ h5_ h6_ h7_ h8_ h9_ h10_ h11_ h12_ h13_ h14_ h15_ h16_; have HO390 := n0_; have HO393 := n1_; have HO_0 := n2_; have BK374 := n3_; have BK400 := n4_; have BK401 := n5_; have GW400 := n6_; have GE400 := n7_; have NB374_400 := n8_; have NB400_374 := n9_; have NB401_400 := n10_; have NB400_401 := n11_; have GW401 := n12_; have GE401 := n13_; have NB374_401 := n14_; have NB401_374 := n15_; have HB := n16_; clear n0_ n1_ n2_ n3_ n4_ n5_ n6_ n7_ n8_ n9_ n10_ n11_ n12_ n13_ n14_ n15_ n16_; have hHeld : w59.cell? ⟨gb374, 0, none⟩ = some (.int .u8 a1_0) ∧ w59.cell? ⟨gb374, 1, none⟩ = some (.int .u8 a1_1) ∧ w59.cell? ⟨gb374, 2, none⟩ = some (.int .u8 a1_2) ∧ w59.cell? ⟨gb374, 3, none⟩ = some (.int .u16 a1_3) ∧ w59.cell? ⟨gb374, 4, none⟩ = some (.int .u16 a1_4) ∧ w59.cell? ⟨gb374, 5, none⟩ = some (.float .f64 a1_5) := hS_
      obtain ⟨Ao60, co60, eo60⟩ := Kd.R_slice HO390.out; (first | subst eo60 | (injection eo60 with f1_ f2_ f3_; have f4_ := f1_.symm; have f5_ := f3_.symm; clear f1_ f2_ f3_; subst f4_; subst f5_))
      obtain ⟨Ao62, co62, eo62⟩ := Kd.R_slice HO393.out; (first | subst eo62 | (injection eo62 with f1_ f2_ f3_; have f4_ := f1_.symm; have f5_ := f3_.symm; clear f1_ f2_ f3_; subst f4_; subst f5_))
      refine norm_ (a' := ?_) ?_ ?_
      rotate_left
      · simp only [putAll, Act.put, sA_, sB_, sC_]
        rfl
      refine one_ (i := 6) (N := none) #[true, true, true, true, true, true, true, false] rfl rfl (one_of HT_.out (by kernel_rfl)) (by decide) (fun K hK => ?_)
      have hs61 : w59.cell? ⟨gb400, 0, none⟩ = some (.slice none 0 0) := (zG BK400.out 0).trans rfl
      have hfs61 := zI BK400.out 0; have hns61_0 := NB374_400.out; have hns61_2 := NB401_400.out; have hms61_0 := NB400_374.out; have hms61_2 := NB400_401.out; have hs63 : w59.cell? ⟨gb400, 1, none⟩ = some (.slice none 0 0) := (zG BK400.out 1).trans rfl
      have hfs63 := zI BK400.out 1; have hns63_0 := NB374_400.out; have hns63_2 := NB401_400.out; have hms63_0 := NB400_374.out; have hms63_2 := NB400_401.out; refine skip_ (w1 := ?_) (by rfl) rfl ?_ ?_
      rotate_left
      · go_simp
        rfl
      refine hK.out _ _ ⟨((zL (p := ⟨gb400, _, none⟩) NB374_400.out _).trans (((zL (p := ⟨gb400, _, none⟩) NB374_400.out _).trans (hHeld.1)))), ((zL (p := ⟨gb400, _, none⟩) NB374_400.out _).trans (((zL (p := ⟨gb400, _, none⟩) NB374_400.out _).trans (hHeld.2.1)))), ((zL (p := ⟨gb400, _, none⟩) NB374_400.out _).trans (((zL (p := ⟨gb400, _, none⟩) NB374_400.out _).trans (hHeld.2.2.1)))), ((zL (p := ⟨gb400, _, none⟩) NB374_400.out _).trans (((zL (p := ⟨gb400, _, none⟩) NB374_400.out _).trans (hHeld.2.2.2.1)))), ((zL (p := ⟨gb400, _, none⟩) NB374_400.out _).trans (((zL (p := ⟨gb400, _, none⟩) NB374_400.out _).trans (hHeld.2.2.2.2.1)))), ((zL (p := ⟨gb400, _, none⟩) NB374_400.out _).trans (((zL (p := ⟨gb400, _, none⟩) NB374_400.out _).trans (hHeld.2.2.2.2.2))))⟩ (fun hHeld => ?_)
      clear hK K; refine one_ (i := 7) (N := none) #[true, true, true, true, true, true, true, true] rfl rfl (one_of HT_.out (by kernel_rfl)) (by decide) (fun K hK => ?_)
      have hs64 : w59.cell? ⟨gb401, 0, none⟩ = some (.int .i64 0) := (zG BK401.out 0).trans rfl
      have hfs64 := zI BK401.out 0; have hns64_0 := NB374_401.out; have hns64_1 := NB400_401.out; have hms64_0 := NB401_374.out; have hms64_1 := NB401_400.out; have hs65 : w59.cell? ⟨gb401, 1, none⟩ = some (.int .i64 0) := (zG BK401.out 1).trans rfl
      have hfs65 := zI BK401.out 1; have hns65_0 := NB374_401.out; have hns65_1 := NB400_401.out; have hms65_0 := NB401_374.out; have hms65_1 := NB401_400.out; have hs66 : w59.cell? ⟨gb401, 2, none⟩ = some (.int .u8 0) := (zG BK401.out 2).trans rfl
      have hfs66 := zI BK401.out 2; have hns66_0 := NB374_401.out; have hns66_1 := NB400_401.out; have hms66_0 := NB401_374.out; have hms66_1 := NB401_400.out; have hs67 : w59.cell? ⟨gb401, 3, none⟩ = some (.int .i64 0) := (zG BK401.out 3).trans rfl
      have hfs67 := zI BK401.out 3; have hns67_0 := NB374_401.out; have hns67_1 := NB400_401.out; have hms67_0 := NB401_374.out; have hms67_1 := NB401_400.out; have hs68 : w59.cell? ⟨gb401, 4, none⟩ = some (.int .i64 0) := (zG BK401.out 4).trans rfl
      have hfs68 := zI BK401.out 4; have hns68_0 := NB374_401.out; have hns68_1 := NB400_401.out; have hms68_0 := NB401_374.out; have hms68_1 := NB401_400.out; have hs69 : w59.cell? ⟨gb401, 5, none⟩ = some (.float .f64 0) := (zG BK401.out 5).trans rfl
      have hfs69 := zI BK401.out 5; have hns69_0 := NB374_401.out; have hns69_1 := NB400_401.out; have hms69_0 := NB401_374.out; have hms69_1 := NB401_400.out; refine skip_ (w1 := ?_) (by rfl) rfl ?_ ?_
      rotate_left
      · go_simp
        rfl
      refine hK.out _ _ ⟨((zL (p := ⟨gb401, _, none⟩) NB374_401.out _).trans (((zL (p := ⟨gb401, _, none⟩) NB374_401.out _).trans (((zL (p := ⟨gb401, _, none⟩) NB374_401.out _).trans (((zL (p := ⟨gb401, _, none⟩) NB374_401.out _).trans (((zL (p := ⟨gb401, _, none⟩) NB374_401.out _).trans (((zL (p := ⟨gb401, _, none⟩) NB374_401.out _).trans (hHeld.1)))))))))))), ((zL (p := ⟨gb401, _, none⟩) NB374_401.out _).trans (((zL (p := ⟨gb401, _, none⟩) NB374_401.out _).trans (((zL (p := ⟨gb401, _, none⟩) NB374_401.out _).trans (((zL (p := ⟨gb401, _, none⟩) NB374_401.out _).trans (((zL (p := ⟨gb401, _, none⟩) NB374_401.out _).trans (((zL (p := ⟨gb401, _, none⟩) NB374_401.out _).trans (hHeld.2.1)))))))))))), ((zL (p := ⟨gb401, _, none⟩) NB374_401.out _).trans (((zL (p := ⟨gb401, _, none⟩) NB374_401.out _).trans (((zL (p := ⟨gb401, _, none⟩) NB374_401.out _).trans (((zL (p := ⟨gb401, _, none⟩) NB374_401.out _).trans (((zL (p := ⟨gb401, _, none⟩) NB374_401.out _).trans (((zL (p := ⟨gb401, _, none⟩) NB374_401.out _).trans (hHeld.2.2.1)))))))))))), ((zL (p := ⟨gb401, _, none⟩) NB374_401.out _).trans (((zL (p := ⟨gb401, _, none⟩) NB374_401.out _).trans (((zL (p := ⟨gb401, _, none⟩) NB374_401.out _).trans (((zL (p := ⟨gb401, _, none⟩) NB374_401.out _).trans (((zL (p := ⟨gb401, _, none⟩) NB374_401.out _).trans (((zL (p := ⟨gb401, _, none⟩) NB374_401.out _).trans (hHeld.2.2.2.1)))))))))))), ((zL (p := ⟨gb401, _, none⟩) NB374_401.out _).trans (((zL (p := ⟨gb401, _, none⟩) NB374_401.out _).trans (((zL (p := ⟨gb401, _, none⟩) NB374_401.out _).trans (((zL (p := ⟨gb401, _, none⟩) NB374_401.out _).trans (((zL (p := ⟨gb401, _, none⟩) NB374_401.out _).trans (((zL (p := ⟨gb401, _, none⟩) NB374_401.out _).trans (hHeld.2.2.2.2.1)))))))))))), ((zL (p := ⟨gb401, _, none⟩) NB374_401.out _).trans (((zL (p := ⟨gb401, _, none⟩) NB374_401.out _).trans (((zL (p := ⟨gb401, _, none⟩) NB374_401.out _).trans (((zL (p := ⟨gb401, _, none⟩) NB374_401.out _).trans (((zL (p := ⟨gb401, _, none⟩) NB374_401.out _).trans (((zL (p := ⟨gb401, _, none⟩) NB374_401.out _).trans (hHeld.2.2.2.2.2))))))))))))⟩ (fun hHeld => ?_)
      clear hK K; refine done_ (done_of HT_.out (by kernel_rfl)) ?_
      have hnb70 := NB400_374.out; have hnc70 := NB374_400.out; have hnb71 := NB400_401.out; have hnc71 := NB401_400.out; have hcz72_0 : w59.cell? ⟨gb400, 0, none⟩ = some (.slice none 0 0) := (zG BK400.out 0).trans rfl
      have hcz72_1 : w59.cell? ⟨gb400, 1, none⟩ = some (.slice none 0 0) := (zG BK400.out 1).trans rfl
      have hfz72_0 := zI BK400.out 0; have hfz72_1 := zI BK400.out 1; have hnb73 := NB401_374.out; have hnc73 := NB374_401.out; have hcz74_0 : w59.cell? ⟨gb401, 0, none⟩ = some (.int .i64 0) := (zG BK401.out 0).trans rfl
      have hcz74_1 : w59.cell? ⟨gb401, 1, none⟩ = some (.int .i64 0) := (zG BK401.out 1).trans rfl
      have hcz74_2 : w59.cell? ⟨gb401, 2, none⟩ = some (.int .u8 0) := (zG BK401.out 2).trans rfl
      have hcz74_3 : w59.cell? ⟨gb401, 3, none⟩ = some (.int .i64 0) := (zG BK401.out 3).trans rfl
      have hcz74_4 : w59.cell? ⟨gb401, 4, none⟩ = some (.int .i64 0) := (zG BK401.out 4).trans rfl
      have hcz74_5 : w59.cell? ⟨gb401, 5, none⟩ = some (.float .f64 0) := (zG BK401.out 5).trans rfl
      have hfz74_0 := zI BK401.out 0; have hfz74_1 := zI BK401.out 1; have hfz74_2 := zI BK401.out 2; have hfz74_3 := zI BK401.out 3; have hfz74_4 := zI BK401.out 4; have hfz74_5 := zI BK401.out 5; try go_wp2_with (first | ((with_reducible refine gate_callee (f := 14) rfl ?_); refine goesL_ (some 48) rfl rfl Try.func14 (by kernel_rfl) rfl #[.agg #[.slice Ao60 t388.length co60, .slice Ao62 t391.length co62], .int .i64 0, .int .i64 (t388.length : Int), .agg #[.int .i64 t394, .int .i64 t395, .int .u8 t396, .int .i64 t397, .int .i64 t398, .float .f64 t399]] rfl (by (try simp only [List.map_toArray, List.map_cons, List.map_nil]); first | done | rfl | (simp only [List.length_drop, List.length_take]; rfl)) ?_; (with_reducible refine (best_Break.calls k1 _ _ t388 _ _ t391 0 (t388.length : Int) t394 t395 t396 t397 t398 t399 t402 true _ ?side1 ?side2 ?side3 ?side4 A25.out).mono ?_); (case side1 => refine (Kd.R_reads' (e := 62) (base := w.heap.size) (ok := fun k_ => True) (n := t388.length) (c := co60) ?_).2.2; exact (by (with_reducible repeat (first | apply Kd.R_alloc | apply Kd.R_drewN | apply Kd.R_drew)); exact (Kd.R_mono (Kd.R_mono (Kd.R_far (p := ⟨gb401, 5, none⟩) (Kd.R_far (p := ⟨gb401, 4, none⟩) (Kd.R_far (p := ⟨gb401, 3, none⟩) (Kd.R_far (p := ⟨gb401, 2, none⟩) (Kd.R_far (p := ⟨gb401, 1, none⟩) (Kd.R_far (p := ⟨gb401, 0, none⟩) (Kd.R_far (p := ⟨gb400, 1, none⟩) (Kd.R_far (p := ⟨gb400, 0, none⟩) (Kd.R_types (Kd.R_types HO390.out BK400.out (by decide)) BK401.out (by decide)) (fun _ hk => hk.1.2) (.slice Ao60 t388.length co60)) (fun _ hk => hk.1.2) (.slice Ao62 t391.length co62)) (fun _ hk => hk.2) (.int .i64 t394)) (fun _ hk => hk.2) (.int .i64 t395)) (fun _ hk => hk.2) (.int .u8 t396)) (fun _ hk => hk.2) (.int .i64 t397)) (fun _ hk => hk.2) (.int .i64 t398)) (fun _ hk => hk.2) (.float .f64 t399)) (fun _ h_ => h_.1)) (fun _ h_ => h_.1)))); (case side2 => exact (Kd.R_reads' HO390.out).2.1); (case side3 => refine (Kd.R_reads' (e := 46) (base := w.heap.size) (ok := fun k_ => True) (n := t391.length) (c := co62) ?_).2.2; exact (by (with_reducible repeat (first | apply Kd.R_alloc | apply Kd.R_drewN | apply Kd.R_drew)); exact (Kd.R_mono (Kd.R_mono (Kd.R_far (p := ⟨gb401, 5, none⟩) (Kd.R_far (p := ⟨gb401, 4, none⟩) (Kd.R_far (p := ⟨gb401, 3, none⟩) (Kd.R_far (p := ⟨gb401, 2, none⟩) (Kd.R_far (p := ⟨gb401, 1, none⟩) (Kd.R_far (p := ⟨gb401, 0, none⟩) (Kd.R_far (p := ⟨gb400, 1, none⟩) (Kd.R_far (p := ⟨gb400, 0, none⟩) (Kd.R_types (Kd.R_types HO393.out BK400.out (by decide)) BK401.out (by decide)) (fun _ hk => hk.1.2) (.slice Ao60 t388.length co60)) (fun _ hk => hk.1.2) (.slice Ao62 t391.length co62)) (fun _ hk => hk.2) (.int .i64 t394)) (fun _ hk => hk.2) (.int .i64 t395)) (fun _ hk => hk.2) (.int .u8 t396)) (fun _ hk => hk.2) (.int .i64 t397)) (fun _ hk => hk.2) (.int .i64 t398)) (fun _ hk => hk.2) (.float .f64 t399)) (fun _ h_ => h_.1)) (fun _ h_ => h_.1)))); (case side4 => exact (Kd.R_reads' HO393.out).2.1); rintro e w75 ⟨v403, rfl, ho0, hb⟩; refine ⟨_, rfl, ?_⟩; have n0_ := zB.mk (Kd.R_below (by (with_reducible repeat (first | apply Kd.R_alloc | apply Kd.R_drewN | apply Kd.R_drew)); exact (Kd.R_mono (Kd.R_mono (Kd.R_far (p := ⟨gb401, 5, none⟩) (Kd.R_far (p := ⟨gb401, 4, none⟩) (Kd.R_far (p := ⟨gb401, 3, none⟩) (Kd.R_far (p := ⟨gb401, 2, none⟩) (Kd.R_far (p := ⟨gb401, 1, none⟩) (Kd.R_far (p := ⟨gb401, 0, none⟩) (Kd.R_far (p := ⟨gb400, 1, none⟩) (Kd.R_far (p := ⟨gb400, 0, none⟩) (Kd.R_types (Kd.R_types HO_0.out BK400.out (by decide)) BK401.out (by decide)) (fun _ hk => hk.1.2) (.slice Ao60 t388.length co60)) (fun _ hk => hk.1.2) (.slice Ao62 t391.length co62)) (fun _ hk => hk.2) (.int .i64 t394)) (fun _ hk => hk.2) (.int .i64 t395)) (fun _ hk => hk.2) (.int .u8 t396)) (fun _ hk => hk.2) (.int .i64 t397)) (fun _ hk => hk.2) (.int .i64 t398)) (fun _ hk => hk.2) (.float .f64 t399)) (fun _ h_ => h_.1)) (fun _ h_ => h_.1))) hb); have n1_ := zB.mk (Kd.R_below (by (with_reducible repeat (first | apply Kd.R_alloc | apply Kd.R_drewN | apply Kd.R_drew)); exact (Kd.R_mono (Kd.R_mono (Kd.R_far (p := ⟨gb401, 5, none⟩) (Kd.R_far (p := ⟨gb401, 4, none⟩) (Kd.R_far (p := ⟨gb401, 3, none⟩) (Kd.R_far (p := ⟨gb401, 2, none⟩) (Kd.R_far (p := ⟨gb401, 1, none⟩) (Kd.R_far (p := ⟨gb401, 0, none⟩) (Kd.R_far (p := ⟨gb400, 1, none⟩) (Kd.R_far (p := ⟨gb400, 0, none⟩) (Kd.R_types (Kd.R_types HO390.out BK400.out (by decide)) BK401.out (by decide)) (fun _ hk => hk.1.2) (.slice Ao60 t388.length co60)) (fun _ hk => hk.1.2) (.slice Ao62 t391.length co62)) (fun _ hk => hk.2) (.int .i64 t394)) (fun _ hk => hk.2) (.int .i64 t395)) (fun _ hk => hk.2) (.int .u8 t396)) (fun _ hk => hk.2) (.int .i64 t397)) (fun _ hk => hk.2) (.int .i64 t398)) (fun _ hk => hk.2) (.float .f64 t399)) (fun _ h_ => h_.1)) (fun _ h_ => h_.1))) hb); have n2_ := zB.mk (Kd.R_below (by (with_reducible repeat (first | apply Kd.R_alloc | apply Kd.R_drewN | apply Kd.R_drew)); exact (Kd.R_mono (Kd.R_mono (Kd.R_far (p := ⟨gb401, 5, none⟩) (Kd.R_far (p := ⟨gb401, 4, none⟩) (Kd.R_far (p := ⟨gb401, 3, none⟩) (Kd.R_far (p := ⟨gb401, 2, none⟩) (Kd.R_far (p := ⟨gb401, 1, none⟩) (Kd.R_far (p := ⟨gb401, 0, none⟩) (Kd.R_far (p := ⟨gb400, 1, none⟩) (Kd.R_far (p := ⟨gb400, 0, none⟩) (Kd.R_types (Kd.R_types HO393.out BK400.out (by decide)) BK401.out (by decide)) (fun _ hk => hk.1.2) (.slice Ao60 t388.length co60)) (fun _ hk => hk.1.2) (.slice Ao62 t391.length co62)) (fun _ hk => hk.2) (.int .i64 t394)) (fun _ hk => hk.2) (.int .i64 t395)) (fun _ hk => hk.2) (.int .u8 t396)) (fun _ hk => hk.2) (.int .i64 t397)) (fun _ hk => hk.2) (.int .i64 t398)) (fun _ hk => hk.2) (.float .f64 t399)) (fun _ h_ => h_.1)) (fun _ h_ => h_.1))) hb); have n3_ := zB.mk (Kd.R_lower ho0 (zM (by repeat (first | (with_reducible first | exact HB.out | apply zJ | apply zF | apply zH | refine zE ?_ GE374.out | refine zE ?_ GE400.out | refine zE ?_ GE401.out) | exact HB.out)))); have n4_ := zB.mk (zK (g := gb374) (o := .cells #[.int .u8 a1_0, .int .u8 a1_1, .int .u8 a1_2, .int .u16 a1_3, .int .u16 a1_4, .float .f64 a1_5] 26 (0, 0)) (by (with_reducible repeat (first | refine zC ?_ _ | refine zD ?_ | refine zA ?_ _)); refine zN ?_ NB374_401.out _; (with_reducible repeat (first | refine zC ?_ _ | refine zD ?_ | refine zA ?_ _)); refine zN ?_ NB374_401.out _; (with_reducible repeat (first | refine zC ?_ _ | refine zD ?_ | refine zA ?_ _)); refine zN ?_ NB374_401.out _; (with_reducible repeat (first | refine zC ?_ _ | refine zD ?_ | refine zA ?_ _)); refine zN ?_ NB374_401.out _; (with_reducible repeat (first | refine zC ?_ _ | refine zD ?_ | refine zA ?_ _)); refine zN ?_ NB374_401.out _; (with_reducible repeat (first | refine zC ?_ _ | refine zD ?_ | refine zA ?_ _)); refine zN ?_ NB374_401.out _; (with_reducible repeat (first | refine zC ?_ _ | refine zD ?_ | refine zA ?_ _)); refine zN ?_ NB374_400.out _; (with_reducible repeat (first | refine zC ?_ _ | refine zD ?_ | refine zA ?_ _)); refine zN ?_ NB374_400.out _; (with_reducible repeat (first | refine zC ?_ _ | refine zD ?_ | refine zA ?_ _)); exact BK374.out) hb); have n5_ := zB.mk (zK (g := gb400) (o := .cells #[.slice Ao60 t388.length co60, .slice Ao62 t391.length co62] 31 (0, 0)) (by (with_reducible repeat (first | refine zC ?_ _ | refine zD ?_ | refine zA ?_ _)); refine zN ?_ NB400_401.out _; (with_reducible repeat (first | refine zC ?_ _ | refine zD ?_ | refine zA ?_ _)); refine zN ?_ NB400_401.out _; (with_reducible repeat (first | refine zC ?_ _ | refine zD ?_ | refine zA ?_ _)); refine zN ?_ NB400_401.out _; (with_reducible repeat (first | refine zC ?_ _ | refine zD ?_ | refine zA ?_ _)); refine zN ?_ NB400_401.out _; (with_reducible repeat (first | refine zC ?_ _ | refine zD ?_ | refine zA ?_ _)); refine zN ?_ NB400_401.out _; (with_reducible repeat (first | refine zC ?_ _ | refine zD ?_ | refine zA ?_ _)); refine zN ?_ NB400_401.out _; (with_reducible repeat (first | refine zC ?_ _ | refine zD ?_ | refine zA ?_ _)); refine blk_put (cs := #[.slice Ao60 t388.length co60, .slice none 0 0]) ?_ 1 _ rfl; (with_reducible repeat (first | refine zC ?_ _ | refine zD ?_ | refine zA ?_ _)); refine blk_put (cs := #[.slice none 0 0, .slice none 0 0]) ?_ 0 _ rfl; (with_reducible repeat (first | refine zC ?_ _ | refine zD ?_ | refine zA ?_ _)); exact BK400.out) hb); have n6_ := zB.mk (zK (g := gb401) (o := .cells #[.int .i64 t394, .int .i64 t395, .int .u8 t396, .int .i64 t397, .int .i64 t398, .float .f64 t399] 35 (0, 0)) (by (with_reducible repeat (first | refine zC ?_ _ | refine zD ?_ | refine zA ?_ _)); refine blk_put (cs := #[.int .i64 t394, .int .i64 t395, .int .u8 t396, .int .i64 t397, .int .i64 t398, .float .f64 0]) ?_ 5 _ rfl; (with_reducible repeat (first | refine zC ?_ _ | refine zD ?_ | refine zA ?_ _)); refine blk_put (cs := #[.int .i64 t394, .int .i64 t395, .int .u8 t396, .int .i64 t397, .int .i64 0, .float .f64 0]) ?_ 4 _ rfl; (with_reducible repeat (first | refine zC ?_ _ | refine zD ?_ | refine zA ?_ _)); refine blk_put (cs := #[.int .i64 t394, .int .i64 t395, .int .u8 t396, .int .i64 0, .int .i64 0, .float .f64 0]) ?_ 3 _ rfl; (with_reducible repeat (first | refine zC ?_ _ | refine zD ?_ | refine zA ?_ _)); refine blk_put (cs := #[.int .i64 t394, .int .i64 t395, .int .u8 0, .int .i64 0, .int .i64 0, .float .f64 0]) ?_ 2 _ rfl; (with_reducible repeat (first | refine zC ?_ _ | refine zD ?_ | refine zA ?_ _)); refine blk_put (cs := #[.int .i64 t394, .int .i64 0, .int .u8 0, .int .i64 0, .int .i64 0, .float .f64 0]) ?_ 1 _ rfl; (with_reducible repeat (first | refine zC ?_ _ | refine zD ?_ | refine zA ?_ _)); refine blk_put (cs := #[.int .i64 0, .int .i64 0, .int .u8 0, .int .i64 0, .int .i64 0, .float .f64 0]) ?_ 0 _ rfl; (with_reducible repeat (first | refine zC ?_ _ | refine zD ?_ | refine zA ?_ _)); refine zN ?_ NB401_400.out _; (with_reducible repeat (first | refine zC ?_ _ | refine zD ?_ | refine zA ?_ _)); refine zN ?_ NB401_400.out _; (with_reducible repeat (first | refine zC ?_ _ | refine zD ?_ | refine zA ?_ _)); exact BK401.out) hb); have n7_ := zB.mk (zO (by repeat (first | (with_reducible first | exact HB.out | apply zJ | apply zF | apply zH | refine zE ?_ GE374.out | refine zE ?_ GE400.out | refine zE ?_ GE401.out) | exact HB.out)) hb); clear HO_0; clear HO390; clear HO393; clear BK374; clear BK400; clear BK401; clear HB; have HO_0 := n0_; have HO390 := n1_; have HO393 := n2_; have HO404 := n3_; have BK374 := n4_; have BK400 := n5_; have BK401 := n6_; have HB := n7_; clear n0_ n1_ n2_ n3_ n4_ n5_ n6_ n7_; (try clear hb); (try clear hb2); (try clear hk); (try clear hi); (try clear ho0)))
      have n0_ := zB.mk (Kd.R_drew HO_0.out); have n1_ := zB.mk (Kd.R_drew HO390.out); have n2_ := zB.mk (Kd.R_drew HO393.out); have n3_ := zB.mk (Kd.R_drew HO404.out); have n4_ := zB.mk (zD BK374.out); have n5_ := zB.mk (zD BK400.out); have n6_ := zB.mk (zD BK401.out); have n7_ := zB.mk (zH HB.out); clear HO_0; clear HO390; clear HO393; clear HO404; clear BK374; clear BK400; clear BK401; clear HB; have HO_0 := n0_; have HO390 := n1_; have HO393 := n2_; have HO404 := n3_; have BK374 := n4_; have BK400 := n5_; have BK401 := n6_; have HB := n7_; clear n0_ n1_ n2_ n3_ n4_ n5_ n6_ n7_; refine start_ (n := 8) (S := fun w' => w'.cell? ⟨gb400, 0, none⟩ = some (.slice Ao60 t388.length co60) ∧ w'.cell? ⟨gb400, 1, none⟩ = some (.slice Ao62 t391.length co62) ∧ w'.cell? ⟨gb401, 0, none⟩ = some (.int .i64 t394) ∧ w'.cell? ⟨gb401, 1, none⟩ = some (.int .i64 t395) ∧ w'.cell? ⟨gb401, 2, none⟩ = some (.int .u8 t396) ∧ w'.cell? ⟨gb401, 3, none⟩ = some (.int .i64 t397) ∧ w'.cell? ⟨gb401, 4, none⟩ = some (.int .i64 t398) ∧ w'.cell? ⟨gb401, 5, none⟩ = some (.float .f64 t399)) (ds := []) #[false, false, false, false, false, false, false, false] (by kernel_rfl) rfl rfl ⟨(zG BK400.out 0).trans rfl, (zG BK400.out 1).trans rfl, (zG BK401.out 0).trans rfl, (zG BK401.out 1).trans rfl, (zG BK401.out 2).trans rfl, (zG BK401.out 3).trans rfl, (zG BK401.out 4).trans rfl, (zG BK401.out 5).trans rfl⟩ (fun hHeld => ?_); refine with_tabW stanzalaw15_BestOne.tab15 stanzalaw15_BestOne.bits15 (fun HT_ HW_ => ?_)
      generalize w75.drew = w76 at HO_0 HO390 HO393 HO404 BK374 BK400 BK401 HB hHeld ⊢
      refine pure_ (i := 1) (N := some 60) (v := ?_) (a' := ?_) #[false, true, false, false, false, false, false, false] rfl rfl (any_of HT_.out (by kernel_rfl)) (fun _ _ _ h => h) (Or.inl ⟨by rfl, ?_⟩) ?_ ?_
      rotate_left
      · intro w'
        go_simp
        with_reducible rfl
      rotate_left
      · simp only [Act.put, sA_, sB_, sC_, i64_w, i32_w]
        rfl
      refine pure_ (i := 2) (N := some 61) (v := ?_) (a' := ?_) #[false, true, true, false, false, false, false, false] rfl rfl (any_of HT_.out (by kernel_rfl)) (fun _ _ _ h => h) (Or.inl ⟨by rfl, ?_⟩) ?_ ?_
      rotate_left
      · intro w'
        go_simp
        with_reducible rfl
      rotate_left
      · simp only [Act.put, sA_, sB_, sC_, i64_w, i32_w]
        rfl
      refine pure_ (i := 5) (N := some 64) (v := ?_) (a' := ?_) #[false, true, true, false, false, true, false, false] rfl rfl (any_of HT_.out (by kernel_rfl)) (fun _ _ _ h => h) (Or.inl ⟨by rfl, ?_⟩) ?_ ?_
      rotate_left
      · intro w'
        go_simp
        with_reducible rfl
      rotate_left
      · simp only [Act.put, sA_, sB_, sC_, i64_w, i32_w]
        rfl
      refine take_ (i := 0) (N := some 59) (v := ?_) (a' := ?_) #[true, true, true, false, false, true, false, false] rfl rfl (take_ofW HT_.out HW_.out (by kernel_rfl)) (fun _ _ _ h => h) (Or.inl ⟨by rfl, ?_⟩) hHeld ?_ ?_
      rotate_left
      · rintro w' ⟨s0, s1, s2, s3, s4, s5, s6, s7⟩
        go_simp
        with_reducible rfl
      rotate_left
      · simp only [Act.put, sA_, sB_, sC_, i64_w, i32_w]
        rfl
      refine take_ (i := 3) (N := some 62) (v := ?_) (a' := ?_) #[true, true, true, true, false, true, false, false] rfl rfl (take_ofW HT_.out HW_.out (by kernel_rfl)) (fun _ _ _ h => h) (Or.inl ⟨by rfl, ?_⟩) hHeld ?_ ?_
      rotate_left
      · rintro w' ⟨s0, s1, s2, s3, s4, s5, s6, s7⟩
        go_simp
        with_reducible rfl
      rotate_left
      · simp only [Act.put, sA_, sB_, sC_, i64_w, i32_w]
        rfl
      refine take_ (i := 6) (N := some 65) (v := ?_) (a' := ?_) #[true, true, true, true, false, true, true, false] rfl rfl (take_ofW HT_.out HW_.out (by kernel_rfl)) (fun _ _ _ h => h) (Or.inl ⟨by rfl, ?_⟩) hHeld ?_ ?_
      rotate_left
      · rintro w' ⟨s0, s1, s2, s3, s4, s5, s6, s7⟩
        go_simp
        with_reducible rfl
      rotate_left
      · simp only [Act.put, sA_, sB_, sC_, i64_w, i32_w]
        rfl
      refine one_ (i := 4) (N := some 63) #[true, true, true, true, true, true, true, false] rfl rfl (one_of HT_.out (by kernel_rfl)) (by decide) (fun K hK => ?_)
      refine goes_ Try.func18 (by kernel_rfl) rfl #[.agg #[.slice Ao60 t388.length co60, .slice Ao62 t391.length co62], .int .i64 0, .int .i64 (t388.length : Int), .int .u8 2, .int .i64 t395] (by rfl) rfl rfl (by (try simp only [List.map_toArray, List.map_cons, List.map_nil]); first | done | rfl | (simp only [List.length_drop, List.length_take]; rfl)) ?_
      with_reducible refine (stanzaref13_Cells.calls k1 _ _ t388 _ _ t391 0 (t388.length : Int) 2 t395 t406 _ ?side1 ?side2 ?side3 ?side4 A51.out).mono ?_
      (case side1 => repeat (first | exact (Kd.R_reads' HO390.out).2.2 | (with_reducible refine Kd.C_alloc ?_ _) | (with_reducible refine Kd.C_drewN ?_ _) | (with_reducible refine Kd.C_drew ?_)))
      (case side2 => exact (Kd.R_reads' HO390.out).2.1)
      (case side3 => repeat (first | exact (Kd.R_reads' HO393.out).2.2 | (with_reducible refine Kd.C_alloc ?_ _) | (with_reducible refine Kd.C_drewN ?_ _) | (with_reducible refine Kd.C_drew ?_)))
      (case side4 => exact (Kd.R_reads' HO393.out).2.1)
      rintro e w77 ⟨rfl, hb⟩
      refine ⟨_, rfl, ?_⟩
      have n0_ := zB.mk (Kd.R_below (by (with_reducible repeat (first | apply Kd.R_alloc | apply Kd.R_drewN | apply Kd.R_drew)); exact HO_0.out) hb)
      have n1_ := zB.mk (Kd.R_below (by (with_reducible repeat (first | apply Kd.R_alloc | apply Kd.R_drewN | apply Kd.R_drew)); exact HO390.out) hb)
      have n2_ := zB.mk (Kd.R_below (by (with_reducible repeat (first | apply Kd.R_alloc | apply Kd.R_drewN | apply Kd.R_drew)); exact HO393.out) hb)
      have n3_ := zB.mk (Kd.R_below (by (with_reducible repeat (first | apply Kd.R_alloc | apply Kd.R_drewN | apply Kd.R_drew)); exact HO404.out) hb)
      have n4_ := zB.mk (zK (g := gb374) (o := .cells #[.int .u8 a1_0, .int .u8 a1_1, .int .u8 a1_2, .int .u16 a1_3, .int .u16 a1_4, .float .f64 a1_5] 26 (0, 0)) (by (with_reducible repeat (first | refine zC ?_ _ | refine zD ?_ | refine zA ?_ _)); exact BK374.out) hb)
      have n5_ := zB.mk (zK (g := gb400) (o := .cells #[.slice Ao60 t388.length co60, .slice Ao62 t391.length co62] 31 (0, 0)) (by (with_reducible repeat (first | refine zC ?_ _ | refine zD ?_ | refine zA ?_ _)); exact BK400.out) hb)
      have n6_ := zB.mk (zK (g := gb401) (o := .cells #[.int .i64 t394, .int .i64 t395, .int .u8 t396, .int .i64 t397, .int .i64 t398, .float .f64 t399] 35 (0, 0)) (by (with_reducible repeat (first | refine zC ?_ _ | refine zD ?_ | refine zA ?_ _)); exact BK401.out) hb)
      have n7_ := zB.mk (zO (by repeat (first | (with_reducible first | exact HB.out | apply zJ | apply zF | apply zH | refine zE ?_ GE374.out | refine zE ?_ GE400.out | refine zE ?_ GE401.out) | exact HB.out)) hb)
      clear HO_0 HO390 HO393 HO404 BK374 BK400 BK401 HB; have HO_0 := n0_; have HO390 := n1_; have HO393 := n2_; have HO404 := n3_; have BK374 := n4_; have BK400 := n5_; have BK401 := n6_; have HB := n7_; clear n0_ n1_ n2_ n3_ n4_ n5_ n6_ n7_; (try clear hb)
      (try clear hb2)
      (try clear hk)
      (try clear hi)
      refine hK.out _ _ ⟨(zG BK400.out 0).trans rfl, (zG BK400.out 1).trans rfl, (zG BK401.out 0).trans rfl, (zG BK401.out 1).trans rfl, (zG BK401.out 2).trans rfl, (zG BK401.out 3).trans rfl, (zG BK401.out 4).trans rfl, (zG BK401.out 5).trans rfl⟩ (fun hHeld => ?_)
      clear hK K; refine norm_ (a' := ?_) ?_ ?_
      rotate_left
      · show Act.put _ (some 63) _ = _
        simp only [Act.put, sA_, sB_, sC_, i64_w, i32_w]; rfl
      refine pure_ (i := 7) (N := some 66) (v := ?_) (a' := ?_) #[true, true, true, true, true, true, true, true] rfl rfl (any_of HT_.out (by kernel_rfl)) (fun _ _ _ h => h) (Or.inl ⟨by rfl, ?_⟩) ?_ ?_
      rotate_left
      · intro w'
        go_simp
        with_reducible rfl
      rotate_left
      · simp only [Act.put, sA_, sB_, sC_, i64_w, i32_w]
        rfl
      refine done_ (done_of HT_.out (by kernel_rfl)) ?_
      obtain ⟨Ao78, co78, eo78⟩ := Kd.R_slice HO404.out; subst eo78; try go_wp2
      go_ret
      exact ⟨by first | rfl | (simp [errW_none, errW_some] <;> rfl) | (simp only [← hji5]; first | rfl | (simp [errW_none, errW_some] <;> rfl)) | (simp [*, errW_none, errW_some] <;> rfl), by repeat (first | (with_reducible first | exact HB.out | apply zJ | apply zF | apply zH | refine zE ?_ GE374.out | refine zE ?_ GE400.out | refine zE ?_ GE401.out) | exact HB.out)⟩
    replace c53 := Bool.eq_false_iff.mpr c53; subst c53; have H1 : (some true) = some r := by rw [if_neg (show ¬ (false = true) by decide)] at H; exact H
    clear H; have H := H1; clear H1; obtain rfl := Option.some.inj H
    try go_wp2
    have n0_ := zB.mk (Kd.R_drew HO_0.out); have n1_ := zB.mk (zD BK374.out); have n2_ := zB.mk (zH HB.out); clear HO_0; clear BK374; clear HB; have HO_0 := n0_; have BK374 := n1_; have HB := n2_; clear n0_ n1_ n2_; refine start_ (n := 8) (S := fun w' => w'.cell? ⟨gb374, 0, none⟩ = some (.int .u8 a1_0) ∧ w'.cell? ⟨gb374, 1, none⟩ = some (.int .u8 a1_1) ∧ w'.cell? ⟨gb374, 2, none⟩ = some (.int .u8 a1_2) ∧ w'.cell? ⟨gb374, 3, none⟩ = some (.int .u16 a1_3) ∧ w'.cell? ⟨gb374, 4, none⟩ = some (.int .u16 a1_4) ∧ w'.cell? ⟨gb374, 5, none⟩ = some (.float .f64 a1_5)) (ds := []) #[false, false, false, false, false, false, false, false] (by kernel_rfl) rfl rfl ⟨(zG BK374.out 0).trans rfl, (zG BK374.out 1).trans rfl, (zG BK374.out 2).trans rfl, (zG BK374.out 3).trans rfl, (zG BK374.out 4).trans rfl, (zG BK374.out 5).trans rfl⟩ (fun hHeld => ?_); refine with_tabW stanzalaw15_BestOne.tab10 stanzalaw15_BestOne.bits10 (fun HT_ HW_ => ?_)
    generalize wr.drew = w79 at HO_0 BK374 HB hHeld ⊢
    refine pure_ (i := 0) (N := some 37) (v := ?_) (a' := ?_) (tf_ 1 8) rfl rfl (any_of HT_.out (by kernel_rfl)) (fun _ _ _ h => h) (Or.inl ⟨by rfl, ?_⟩) ?_ ?_
    rotate_left
    · intro w'
      go_simp
      with_reducible rfl
    rotate_left
    · simp only [Act.put, sA_, sB_, sC_, i64_w, i32_w]
      rfl
    refine take_ (i := 2) (N := some 39) (v := ?_) (a' := ?_) #[true, false, true, false, false, false, false, false] rfl rfl (take_ofW HT_.out HW_.out (by kernel_rfl)) (fun _ _ _ h => h) (Or.inl ⟨by rfl, ?_⟩) hHeld ?_ ?_
    rotate_left
    · rintro w' ⟨s0, s1, s2, s3, s4, s5⟩
      go_simp
      with_reducible rfl
    rotate_left
    · simp only [Act.put, sA_, sB_, sC_, i64_w, i32_w]
      rfl
    refine join_ (σ := Value × Value × Nat × Nat) 2 #[true, true, true, true, true, true, false, false] (fun s_ => [(38, .agg #[s_.1, s_.2.1]), (40, .agg #[.int .i64 t394, .int .i64 t395, .int .u8 t396, .int .i64 t397, .int .i64 t398, .float .f64 t399]), (6, .pointer (some ⟨s_.2.2.1, 0, none⟩)), (7, .pointer (some ⟨s_.2.2.2, 0, none⟩))]) (fun s_ w' => (w'.cell? ⟨gb374, 0, none⟩ = some (.int .u8 a1_0) ∧ w'.cell? ⟨gb374, 1, none⟩ = some (.int .u8 a1_1) ∧ w'.cell? ⟨gb374, 2, none⟩ = some (.int .u8 a1_2) ∧ w'.cell? ⟨gb374, 3, none⟩ = some (.int .u16 a1_3) ∧ w'.cell? ⟨gb374, 4, none⟩ = some (.int .u16 a1_4) ∧ w'.cell? ⟨gb374, 5, none⟩ = some (.float .f64 a1_5)) ∧ (Kd.R k62 62 w' w.heap.size (fun _ => True) s_.1 t388) ∧ (Kd.R (Kd.int .u8) 46 w' w.heap.size (fun _ => True) s_.2.1 t391) ∧ (Kd.R k45 45 w' w.heap.size (fun _ => True) (.slice Ao15 x0_1.length co15) x0_1) ∧ (w'.heap[gb374]? = some (.cells #[.int .u8 a1_0, .int .u8 a1_1, .int .u8 a1_2, .int .u16 a1_3, .int .u16 a1_4, .float .f64 a1_5] 26 (0, 0))) ∧ (w'.heap[s_.2.2.1]? = some (.cells #[.slice none 0 0, .slice none 0 0] 31 (0, 0))) ∧ (w'.heap[s_.2.2.2]? = some (.cells #[.int .i64 0, .int .i64 0, .int .u8 0, .int .i64 0, .int .i64 0, .float .f64 0] 35 (0, 0))) ∧ (w.heap.size ≤ s_.2.2.1) ∧ (w.heap.size ≤ s_.2.2.1) ∧ (gb374 ≠ s_.2.2.1) ∧ (s_.2.2.1 ≠ gb374) ∧ (s_.2.2.2 ≠ s_.2.2.1) ∧ (s_.2.2.1 ≠ s_.2.2.2) ∧ (w.heap.size ≤ s_.2.2.2) ∧ (w.heap.size ≤ s_.2.2.2) ∧ (gb374 ≠ s_.2.2.2) ∧ (s_.2.2.2 ≠ gb374) ∧ (Below w.heap.size w w')) ?_ ?_
    rotate_left
    · intro hJ1_3_4_5
      refine par4_ (fuel := 2) (l' := #[true, true, true, true, true, true, false, false]) (i1 := 1) (i3 := 3) (i4 := 4) (i5 := 5) (σ := Value × Value) (cs4 := #[.slice none 0 0, .slice none 0 0]) (t4 := 31) (cs5 := #[.int .i64 0, .int .i64 0, .int .u8 0, .int .i64 0, .int .i64 0, .float .f64 0]) (t5 := 35) (fun s_ => .agg #[s_.1, s_.2]) (.agg #[.int .i64 t394, .int .i64 t395, .int .u8 t396, .int .i64 t397, .int .i64 t398, .float .f64 t399]) (par4_of HT_.out (by kernel_rfl)) rfl rfl rfl rfl rfl rfl rfl rfl rfl rfl (by decide) rfl (fun w_ => (w_.cell? ⟨gb374, 0, none⟩ = some (.int .u8 a1_0) ∧ w_.cell? ⟨gb374, 1, none⟩ = some (.int .u8 a1_1) ∧ w_.cell? ⟨gb374, 2, none⟩ = some (.int .u8 a1_2) ∧ w_.cell? ⟨gb374, 3, none⟩ = some (.int .u16 a1_3) ∧ w_.cell? ⟨gb374, 4, none⟩ = some (.int .u16 a1_4) ∧ w_.cell? ⟨gb374, 5, none⟩ = some (.float .f64 a1_5)) ∧ (Kd.R k45 45 w_ w.heap.size (fun _ => True) (.slice Ao15 x0_1.length co15) x0_1) ∧ (w_.heap[gb374]? = some (.cells #[.int .u8 a1_0, .int .u8 a1_1, .int .u8 a1_2, .int .u16 a1_3, .int .u16 a1_4, .float .f64 a1_5] 26 (0, 0))) ∧ (Below w.heap.size w w_)) ?pgrow (fun _ hP_ => hP_.1) (fun s_ w_ => (Kd.R k62 62 w_ w.heap.size (fun _ => True) s_.1 t388) ∧ (Kd.R (Kd.int .u8) 46 w_ w.heap.size (fun _ => True) s_.2 t391)) ?pF (fun g_ => (w.heap.size ≤ g_) ∧ (gb374 ≠ g_) ∧ (g_ ≠ gb374)) ?pNew ?pc1 ?pc3 ?pc4 ?pc5 ?pPhi ?pcont
      case pgrow =>
        intro w0_ w1_ hP_ hb_; obtain ⟨hS_, k0_, k1_, k2_⟩ := hP_; have HO_0 := zB.mk (by first | exact Kd.R_below k0_ hb_ | exact zK k0_ hb_ | exact zO k0_ hb_); have BK374 := zB.mk (by first | exact Kd.R_below k1_ hb_ | exact zK k1_ hb_ | exact zO k1_ hb_); have HB := zB.mk (by first | exact Kd.R_below k2_ hb_ | exact zK k2_ hb_ | exact zO k2_ hb_)
        exact ⟨⟨(zG BK374.out 0).trans rfl, (zG BK374.out 1).trans rfl, (zG BK374.out 2).trans rfl, (zG BK374.out 3).trans rfl, (zG BK374.out 4).trans rfl, (zG BK374.out 5).trans rfl⟩, HO_0.out, BK374.out, HB.out⟩
      case pF => intro s_ w0_ w1_ hP_ hb_; obtain ⟨f0_, f1_⟩ := hP_; exact ⟨(by first | exact Kd.R_below f0_ hb_ | exact zK f0_ hb_ | exact zO f0_ hb_), (by first | exact Kd.R_below f1_ hb_ | exact zK f1_ hb_ | exact zO f1_ hb_)⟩
      case pNew => intro w0_ hP_; obtain ⟨hS_, k0_, k1_, k2_⟩ := hP_; (try have l0_ := blk_lt k0_); (try have m0_ := zM k0_); (try have l1_ := blk_lt k1_); (try have m1_ := zM k1_); (try have l2_ := blk_lt k2_); (try have m2_ := zM k2_); refine ⟨?_, ?_, ?_⟩ <;> omega
      case pc1 =>
        intro a_ W_ K_ hev_ hP_ h_; obtain ⟨hS_, k0_, k1_, k2_⟩ := hP_; have HO_0 := zB.mk k0_; have BK374 := zB.mk k1_; have HB := zB.mk k2_
        refine goes_ Try.func11 (by kernel_rfl) rfl #[.slice Ao15 x0_1.length co15] (by rfl) rfl rfl (by simp only [List.map_toArray, List.map_cons, List.map_nil]; first | rfl | (simp (disch := decide) only [hev_]; rfl) | (rw [hev_ _ (by decide) (by decide) (by decide) (by decide)]; rfl)) ?_
        with_reducible refine (stanzahand03_Para.calls k1 _ _ x0_1 t388 t391 _ ?side1 ?side2 A23.out).mono ?_
        (case side1 => repeat (first | exact (Kd.R_reads' HO_0.out).2.2 | (with_reducible refine Kd.C_alloc ?_ _) | (with_reducible refine Kd.C_drewN ?_ _) | (with_reducible refine Kd.C_drew ?_)))
        (case side2 => exact (Kd.R_reads' HO_0.out).2.1)
        rintro e w80 ⟨v389, v392, rfl, ho0, ho1, hb⟩
        refine ⟨_, rfl, ?_⟩
        exact h_ (v389, v392) _ hb ⟨(Kd.R_lower ho0 (zM (by repeat (first | (with_reducible first | exact HB.out | apply zJ | apply zF | apply zH | refine zE ?_ GE374.out) | exact HB.out)))), (Kd.R_lower ho1 (zM (by repeat (first | (with_reducible first | exact HB.out | apply zJ | apply zF | apply zH | refine zE ?_ GE374.out) | exact HB.out))))⟩
      case pc3 =>
        intro a_ W_ K_ hev_ hP_ h_; obtain ⟨hS_, k0_, k1_, k2_⟩ := hP_; have HO_0 := zB.mk k0_; have BK374 := zB.mk k1_; have HB := zB.mk k2_
        refine goes_ Try.func12 (by kernel_rfl) rfl #[.agg #[.int .u8 a1_0, .int .u8 a1_1, .int .u8 a1_2, .int .u16 a1_3, .int .u16 a1_4, .float .f64 a1_5]] (by rfl) rfl rfl (by simp only [List.map_toArray, List.map_cons, List.map_nil]; first | rfl | (simp (disch := decide) only [hev_]; rfl) | (rw [hev_ _ (by decide) (by decide) (by decide) (by decide)]; rfl)) ?_
        with_reducible refine (stanzahand03_Config.calls a1_0 a1_1 a1_2 a1_3 a1_4 a1_5 t394 t395 t396 t397 t398 t399 _ A24.out).mono ?_
        rintro e w82 ⟨rfl, hb⟩
        refine ⟨_, rfl, ?_⟩
        exact h_ _ hb
      case pc4 => intro a_ W_; first | (go_simp; done) | (go_simp; rfl)
      case pc5 => intro a_ W_; first | (go_simp; done) | (go_simp; rfl)
      case pPhi => exact ⟨hHeld, HO_0.out, BK374.out, HB.out⟩
      case pcont => intro s_ gb400 gb401 w84 hP_ hF_ y4_ y5_ x4_ x5_ he_; obtain ⟨hS_, k0_, k1_, k2_⟩ := hP_; obtain ⟨v389, v392⟩ := s_; obtain ⟨f0_, f1_⟩ := hF_; exact hJ1_3_4_5 (v389, v392, gb400, gb401) _ ⟨hS_, f0_, f1_, k0_, k1_, y4_, y5_, x4_.1, x4_.1, x4_.2.1, x4_.2.2, (Ne.symm he_), he_, x5_.1, x5_.1, x5_.2.1, x5_.2.2, k2_⟩
    rintro ⟨v389, v392, gb400, gb401⟩ w84 ⟨hS_, h0_, h1_, h2_, h3_, h4_, h5_, h6_, h7_, h8_, h9_, h10_, h11_, h12_, h13_, h14_, h15_, h16_⟩
    have n0_ : zB (Kd.R k62 62 w84 w.heap.size (fun _ => True) v389 t388) := ⟨h0_⟩
    have n1_ : zB (Kd.R (Kd.int .u8) 46 w84 w.heap.size (fun _ => True) v392 t391) := ⟨h1_⟩
    have n2_ : zB (Kd.R k45 45 w84 w.heap.size (fun _ => True) (.slice Ao15 x0_1.length co15) x0_1) := ⟨h2_⟩
    have n3_ : zB (w84.heap[gb374]? = some (.cells #[.int .u8 a1_0, .int .u8 a1_1, .int .u8 a1_2, .int .u16 a1_3, .int .u16 a1_4, .float .f64 a1_5] 26 (0, 0))) := ⟨h3_⟩
    have n4_ : zB (w84.heap[gb400]? = some (.cells #[.slice none 0 0, .slice none 0 0] 31 (0, 0))) := ⟨h4_⟩
    have n5_ : zB (w84.heap[gb401]? = some (.cells #[.int .i64 0, .int .i64 0, .int .u8 0, .int .i64 0, .int .i64 0, .float .f64 0] 35 (0, 0))) := ⟨h5_⟩
    have n6_ : zB (w.heap.size ≤ gb400) := ⟨h6_⟩
    have n7_ : zB (w.heap.size ≤ gb400) := ⟨h7_⟩
    have n8_ : zB (gb374 ≠ gb400) := ⟨h8_⟩
    have n9_ : zB (gb400 ≠ gb374) := ⟨h9_⟩
    have n10_ : zB (gb401 ≠ gb400) := ⟨h10_⟩
    have n11_ : zB (gb400 ≠ gb401) := ⟨h11_⟩
    have n12_ : zB (w.heap.size ≤ gb401) := ⟨h12_⟩
    have n13_ : zB (w.heap.size ≤ gb401) := ⟨h13_⟩
    have n14_ : zB (gb374 ≠ gb401) := ⟨h14_⟩
    have n15_ : zB (gb401 ≠ gb374) := ⟨h15_⟩
    have n16_ : zB (Below w.heap.size w w84) := ⟨h16_⟩
    clear HO_0 BK374 HB h0_ h1_ h2_ h3_ h4_ h5_ h6_ h7_ h8_ h9_ h10_ h11_ h12_ h13_ h14_ h15_ h16_; have HO390 := n0_; have HO393 := n1_; have HO_0 := n2_; have BK374 := n3_; have BK400 := n4_; have BK401 := n5_; have GW400 := n6_; have GE400 := n7_; have NB374_400 := n8_; have NB400_374 := n9_; have NB401_400 := n10_; have NB400_401 := n11_; have GW401 := n12_; have GE401 := n13_; have NB374_401 := n14_; have NB401_374 := n15_; have HB := n16_; clear n0_ n1_ n2_ n3_ n4_ n5_ n6_ n7_ n8_ n9_ n10_ n11_ n12_ n13_ n14_ n15_ n16_; have hHeld : w84.cell? ⟨gb374, 0, none⟩ = some (.int .u8 a1_0) ∧ w84.cell? ⟨gb374, 1, none⟩ = some (.int .u8 a1_1) ∧ w84.cell? ⟨gb374, 2, none⟩ = some (.int .u8 a1_2) ∧ w84.cell? ⟨gb374, 3, none⟩ = some (.int .u16 a1_3) ∧ w84.cell? ⟨gb374, 4, none⟩ = some (.int .u16 a1_4) ∧ w84.cell? ⟨gb374, 5, none⟩ = some (.float .f64 a1_5) := hS_
    obtain ⟨Ao85, co85, eo85⟩ := Kd.R_slice HO390.out; (first | subst eo85 | (injection eo85 with f1_ f2_ f3_; have f4_ := f1_.symm; have f5_ := f3_.symm; clear f1_ f2_ f3_; subst f4_; subst f5_))
    obtain ⟨Ao87, co87, eo87⟩ := Kd.R_slice HO393.out; (first | subst eo87 | (injection eo87 with f1_ f2_ f3_; have f4_ := f1_.symm; have f5_ := f3_.symm; clear f1_ f2_ f3_; subst f4_; subst f5_))
    refine norm_ (a' := ?_) ?_ ?_
    rotate_left
    · simp only [putAll, Act.put, sA_, sB_, sC_]
      rfl
    refine one_ (i := 6) (N := none) #[true, true, true, true, true, true, true, false] rfl rfl (one_of HT_.out (by kernel_rfl)) (by decide) (fun K hK => ?_)
    have hs86 : w84.cell? ⟨gb400, 0, none⟩ = some (.slice none 0 0) := (zG BK400.out 0).trans rfl
    have hfs86 := zI BK400.out 0; have hns86_0 := NB374_400.out; have hns86_2 := NB401_400.out; have hms86_0 := NB400_374.out; have hms86_2 := NB400_401.out; have hs88 : w84.cell? ⟨gb400, 1, none⟩ = some (.slice none 0 0) := (zG BK400.out 1).trans rfl
    have hfs88 := zI BK400.out 1; have hns88_0 := NB374_400.out; have hns88_2 := NB401_400.out; have hms88_0 := NB400_374.out; have hms88_2 := NB400_401.out; refine skip_ (w1 := ?_) (by rfl) rfl ?_ ?_
    rotate_left
    · go_simp
      rfl
    refine hK.out _ _ ⟨((zL (p := ⟨gb400, _, none⟩) NB374_400.out _).trans (((zL (p := ⟨gb400, _, none⟩) NB374_400.out _).trans (hHeld.1)))), ((zL (p := ⟨gb400, _, none⟩) NB374_400.out _).trans (((zL (p := ⟨gb400, _, none⟩) NB374_400.out _).trans (hHeld.2.1)))), ((zL (p := ⟨gb400, _, none⟩) NB374_400.out _).trans (((zL (p := ⟨gb400, _, none⟩) NB374_400.out _).trans (hHeld.2.2.1)))), ((zL (p := ⟨gb400, _, none⟩) NB374_400.out _).trans (((zL (p := ⟨gb400, _, none⟩) NB374_400.out _).trans (hHeld.2.2.2.1)))), ((zL (p := ⟨gb400, _, none⟩) NB374_400.out _).trans (((zL (p := ⟨gb400, _, none⟩) NB374_400.out _).trans (hHeld.2.2.2.2.1)))), ((zL (p := ⟨gb400, _, none⟩) NB374_400.out _).trans (((zL (p := ⟨gb400, _, none⟩) NB374_400.out _).trans (hHeld.2.2.2.2.2))))⟩ (fun hHeld => ?_)
    clear hK K; refine one_ (i := 7) (N := none) #[true, true, true, true, true, true, true, true] rfl rfl (one_of HT_.out (by kernel_rfl)) (by decide) (fun K hK => ?_)
    have hs89 : w84.cell? ⟨gb401, 0, none⟩ = some (.int .i64 0) := (zG BK401.out 0).trans rfl
    have hfs89 := zI BK401.out 0; have hns89_0 := NB374_401.out; have hns89_1 := NB400_401.out; have hms89_0 := NB401_374.out; have hms89_1 := NB401_400.out; have hs90 : w84.cell? ⟨gb401, 1, none⟩ = some (.int .i64 0) := (zG BK401.out 1).trans rfl
    have hfs90 := zI BK401.out 1; have hns90_0 := NB374_401.out; have hns90_1 := NB400_401.out; have hms90_0 := NB401_374.out; have hms90_1 := NB401_400.out; have hs91 : w84.cell? ⟨gb401, 2, none⟩ = some (.int .u8 0) := (zG BK401.out 2).trans rfl
    have hfs91 := zI BK401.out 2; have hns91_0 := NB374_401.out; have hns91_1 := NB400_401.out; have hms91_0 := NB401_374.out; have hms91_1 := NB401_400.out; have hs92 : w84.cell? ⟨gb401, 3, none⟩ = some (.int .i64 0) := (zG BK401.out 3).trans rfl
    have hfs92 := zI BK401.out 3; have hns92_0 := NB374_401.out; have hns92_1 := NB400_401.out; have hms92_0 := NB401_374.out; have hms92_1 := NB401_400.out; have hs93 : w84.cell? ⟨gb401, 4, none⟩ = some (.int .i64 0) := (zG BK401.out 4).trans rfl
    have hfs93 := zI BK401.out 4; have hns93_0 := NB374_401.out; have hns93_1 := NB400_401.out; have hms93_0 := NB401_374.out; have hms93_1 := NB401_400.out; have hs94 : w84.cell? ⟨gb401, 5, none⟩ = some (.float .f64 0) := (zG BK401.out 5).trans rfl
    have hfs94 := zI BK401.out 5; have hns94_0 := NB374_401.out; have hns94_1 := NB400_401.out; have hms94_0 := NB401_374.out; have hms94_1 := NB401_400.out; refine skip_ (w1 := ?_) (by rfl) rfl ?_ ?_
    rotate_left
    · go_simp
      rfl
    refine hK.out _ _ ⟨((zL (p := ⟨gb401, _, none⟩) NB374_401.out _).trans (((zL (p := ⟨gb401, _, none⟩) NB374_401.out _).trans (((zL (p := ⟨gb401, _, none⟩) NB374_401.out _).trans (((zL (p := ⟨gb401, _, none⟩) NB374_401.out _).trans (((zL (p := ⟨gb401, _, none⟩) NB374_401.out _).trans (((zL (p := ⟨gb401, _, none⟩) NB374_401.out _).trans (hHeld.1)))))))))))), ((zL (p := ⟨gb401, _, none⟩) NB374_401.out _).trans (((zL (p := ⟨gb401, _, none⟩) NB374_401.out _).trans (((zL (p := ⟨gb401, _, none⟩) NB374_401.out _).trans (((zL (p := ⟨gb401, _, none⟩) NB374_401.out _).trans (((zL (p := ⟨gb401, _, none⟩) NB374_401.out _).trans (((zL (p := ⟨gb401, _, none⟩) NB374_401.out _).trans (hHeld.2.1)))))))))))), ((zL (p := ⟨gb401, _, none⟩) NB374_401.out _).trans (((zL (p := ⟨gb401, _, none⟩) NB374_401.out _).trans (((zL (p := ⟨gb401, _, none⟩) NB374_401.out _).trans (((zL (p := ⟨gb401, _, none⟩) NB374_401.out _).trans (((zL (p := ⟨gb401, _, none⟩) NB374_401.out _).trans (((zL (p := ⟨gb401, _, none⟩) NB374_401.out _).trans (hHeld.2.2.1)))))))))))), ((zL (p := ⟨gb401, _, none⟩) NB374_401.out _).trans (((zL (p := ⟨gb401, _, none⟩) NB374_401.out _).trans (((zL (p := ⟨gb401, _, none⟩) NB374_401.out _).trans (((zL (p := ⟨gb401, _, none⟩) NB374_401.out _).trans (((zL (p := ⟨gb401, _, none⟩) NB374_401.out _).trans (((zL (p := ⟨gb401, _, none⟩) NB374_401.out _).trans (hHeld.2.2.2.1)))))))))))), ((zL (p := ⟨gb401, _, none⟩) NB374_401.out _).trans (((zL (p := ⟨gb401, _, none⟩) NB374_401.out _).trans (((zL (p := ⟨gb401, _, none⟩) NB374_401.out _).trans (((zL (p := ⟨gb401, _, none⟩) NB374_401.out _).trans (((zL (p := ⟨gb401, _, none⟩) NB374_401.out _).trans (((zL (p := ⟨gb401, _, none⟩) NB374_401.out _).trans (hHeld.2.2.2.2.1)))))))))))), ((zL (p := ⟨gb401, _, none⟩) NB374_401.out _).trans (((zL (p := ⟨gb401, _, none⟩) NB374_401.out _).trans (((zL (p := ⟨gb401, _, none⟩) NB374_401.out _).trans (((zL (p := ⟨gb401, _, none⟩) NB374_401.out _).trans (((zL (p := ⟨gb401, _, none⟩) NB374_401.out _).trans (((zL (p := ⟨gb401, _, none⟩) NB374_401.out _).trans (hHeld.2.2.2.2.2))))))))))))⟩ (fun hHeld => ?_)
    clear hK K; refine done_ (done_of HT_.out (by kernel_rfl)) ?_
    have hnb95 := NB400_374.out; have hnc95 := NB374_400.out; have hnb96 := NB400_401.out; have hnc96 := NB401_400.out; have hcz97_0 : w84.cell? ⟨gb400, 0, none⟩ = some (.slice none 0 0) := (zG BK400.out 0).trans rfl
    have hcz97_1 : w84.cell? ⟨gb400, 1, none⟩ = some (.slice none 0 0) := (zG BK400.out 1).trans rfl
    have hfz97_0 := zI BK400.out 0; have hfz97_1 := zI BK400.out 1; have hnb98 := NB401_374.out; have hnc98 := NB374_401.out; have hcz99_0 : w84.cell? ⟨gb401, 0, none⟩ = some (.int .i64 0) := (zG BK401.out 0).trans rfl
    have hcz99_1 : w84.cell? ⟨gb401, 1, none⟩ = some (.int .i64 0) := (zG BK401.out 1).trans rfl
    have hcz99_2 : w84.cell? ⟨gb401, 2, none⟩ = some (.int .u8 0) := (zG BK401.out 2).trans rfl
    have hcz99_3 : w84.cell? ⟨gb401, 3, none⟩ = some (.int .i64 0) := (zG BK401.out 3).trans rfl
    have hcz99_4 : w84.cell? ⟨gb401, 4, none⟩ = some (.int .i64 0) := (zG BK401.out 4).trans rfl
    have hcz99_5 : w84.cell? ⟨gb401, 5, none⟩ = some (.float .f64 0) := (zG BK401.out 5).trans rfl
    have hfz99_0 := zI BK401.out 0; have hfz99_1 := zI BK401.out 1; have hfz99_2 := zI BK401.out 2; have hfz99_3 := zI BK401.out 3; have hfz99_4 := zI BK401.out 4; have hfz99_5 := zI BK401.out 5; try go_wp2_with (first | ((with_reducible refine gate_callee (f := 14) rfl ?_); refine goesL_ (some 48) rfl rfl Try.func14 (by kernel_rfl) rfl #[.agg #[.slice Ao85 t388.length co85, .slice Ao87 t391.length co87], .int .i64 0, .int .i64 (t388.length : Int), .agg #[.int .i64 t394, .int .i64 t395, .int .u8 t396, .int .i64 t397, .int .i64 t398, .float .f64 t399]] rfl (by (try simp only [List.map_toArray, List.map_cons, List.map_nil]); first | done | rfl | (simp only [List.length_drop, List.length_take]; rfl)) ?_; (with_reducible refine (best_Break.calls k1 _ _ t388 _ _ t391 0 (t388.length : Int) t394 t395 t396 t397 t398 t399 t402 false _ ?side1 ?side2 ?side3 ?side4 A25.out).mono ?_); (case side1 => refine (Kd.R_reads' (e := 62) (base := w.heap.size) (ok := fun k_ => True) (n := t388.length) (c := co85) ?_).2.2; exact (by (with_reducible repeat (first | apply Kd.R_alloc | apply Kd.R_drewN | apply Kd.R_drew)); exact (Kd.R_mono (Kd.R_mono (Kd.R_far (p := ⟨gb401, 5, none⟩) (Kd.R_far (p := ⟨gb401, 4, none⟩) (Kd.R_far (p := ⟨gb401, 3, none⟩) (Kd.R_far (p := ⟨gb401, 2, none⟩) (Kd.R_far (p := ⟨gb401, 1, none⟩) (Kd.R_far (p := ⟨gb401, 0, none⟩) (Kd.R_far (p := ⟨gb400, 1, none⟩) (Kd.R_far (p := ⟨gb400, 0, none⟩) (Kd.R_types (Kd.R_types HO390.out BK400.out (by decide)) BK401.out (by decide)) (fun _ hk => hk.1.2) (.slice Ao85 t388.length co85)) (fun _ hk => hk.1.2) (.slice Ao87 t391.length co87)) (fun _ hk => hk.2) (.int .i64 t394)) (fun _ hk => hk.2) (.int .i64 t395)) (fun _ hk => hk.2) (.int .u8 t396)) (fun _ hk => hk.2) (.int .i64 t397)) (fun _ hk => hk.2) (.int .i64 t398)) (fun _ hk => hk.2) (.float .f64 t399)) (fun _ h_ => h_.1)) (fun _ h_ => h_.1)))); (case side2 => exact (Kd.R_reads' HO390.out).2.1); (case side3 => refine (Kd.R_reads' (e := 46) (base := w.heap.size) (ok := fun k_ => True) (n := t391.length) (c := co87) ?_).2.2; exact (by (with_reducible repeat (first | apply Kd.R_alloc | apply Kd.R_drewN | apply Kd.R_drew)); exact (Kd.R_mono (Kd.R_mono (Kd.R_far (p := ⟨gb401, 5, none⟩) (Kd.R_far (p := ⟨gb401, 4, none⟩) (Kd.R_far (p := ⟨gb401, 3, none⟩) (Kd.R_far (p := ⟨gb401, 2, none⟩) (Kd.R_far (p := ⟨gb401, 1, none⟩) (Kd.R_far (p := ⟨gb401, 0, none⟩) (Kd.R_far (p := ⟨gb400, 1, none⟩) (Kd.R_far (p := ⟨gb400, 0, none⟩) (Kd.R_types (Kd.R_types HO393.out BK400.out (by decide)) BK401.out (by decide)) (fun _ hk => hk.1.2) (.slice Ao85 t388.length co85)) (fun _ hk => hk.1.2) (.slice Ao87 t391.length co87)) (fun _ hk => hk.2) (.int .i64 t394)) (fun _ hk => hk.2) (.int .i64 t395)) (fun _ hk => hk.2) (.int .u8 t396)) (fun _ hk => hk.2) (.int .i64 t397)) (fun _ hk => hk.2) (.int .i64 t398)) (fun _ hk => hk.2) (.float .f64 t399)) (fun _ h_ => h_.1)) (fun _ h_ => h_.1)))); (case side4 => exact (Kd.R_reads' HO393.out).2.1); rintro e w100 ⟨v403, rfl, ho0, hb⟩; refine ⟨_, rfl, ?_⟩; have n0_ := zB.mk (Kd.R_below (by (with_reducible repeat (first | apply Kd.R_alloc | apply Kd.R_drewN | apply Kd.R_drew)); exact (Kd.R_mono (Kd.R_mono (Kd.R_far (p := ⟨gb401, 5, none⟩) (Kd.R_far (p := ⟨gb401, 4, none⟩) (Kd.R_far (p := ⟨gb401, 3, none⟩) (Kd.R_far (p := ⟨gb401, 2, none⟩) (Kd.R_far (p := ⟨gb401, 1, none⟩) (Kd.R_far (p := ⟨gb401, 0, none⟩) (Kd.R_far (p := ⟨gb400, 1, none⟩) (Kd.R_far (p := ⟨gb400, 0, none⟩) (Kd.R_types (Kd.R_types HO_0.out BK400.out (by decide)) BK401.out (by decide)) (fun _ hk => hk.1.2) (.slice Ao85 t388.length co85)) (fun _ hk => hk.1.2) (.slice Ao87 t391.length co87)) (fun _ hk => hk.2) (.int .i64 t394)) (fun _ hk => hk.2) (.int .i64 t395)) (fun _ hk => hk.2) (.int .u8 t396)) (fun _ hk => hk.2) (.int .i64 t397)) (fun _ hk => hk.2) (.int .i64 t398)) (fun _ hk => hk.2) (.float .f64 t399)) (fun _ h_ => h_.1)) (fun _ h_ => h_.1))) hb); have n1_ := zB.mk (Kd.R_below (by (with_reducible repeat (first | apply Kd.R_alloc | apply Kd.R_drewN | apply Kd.R_drew)); exact (Kd.R_mono (Kd.R_mono (Kd.R_far (p := ⟨gb401, 5, none⟩) (Kd.R_far (p := ⟨gb401, 4, none⟩) (Kd.R_far (p := ⟨gb401, 3, none⟩) (Kd.R_far (p := ⟨gb401, 2, none⟩) (Kd.R_far (p := ⟨gb401, 1, none⟩) (Kd.R_far (p := ⟨gb401, 0, none⟩) (Kd.R_far (p := ⟨gb400, 1, none⟩) (Kd.R_far (p := ⟨gb400, 0, none⟩) (Kd.R_types (Kd.R_types HO390.out BK400.out (by decide)) BK401.out (by decide)) (fun _ hk => hk.1.2) (.slice Ao85 t388.length co85)) (fun _ hk => hk.1.2) (.slice Ao87 t391.length co87)) (fun _ hk => hk.2) (.int .i64 t394)) (fun _ hk => hk.2) (.int .i64 t395)) (fun _ hk => hk.2) (.int .u8 t396)) (fun _ hk => hk.2) (.int .i64 t397)) (fun _ hk => hk.2) (.int .i64 t398)) (fun _ hk => hk.2) (.float .f64 t399)) (fun _ h_ => h_.1)) (fun _ h_ => h_.1))) hb); have n2_ := zB.mk (Kd.R_below (by (with_reducible repeat (first | apply Kd.R_alloc | apply Kd.R_drewN | apply Kd.R_drew)); exact (Kd.R_mono (Kd.R_mono (Kd.R_far (p := ⟨gb401, 5, none⟩) (Kd.R_far (p := ⟨gb401, 4, none⟩) (Kd.R_far (p := ⟨gb401, 3, none⟩) (Kd.R_far (p := ⟨gb401, 2, none⟩) (Kd.R_far (p := ⟨gb401, 1, none⟩) (Kd.R_far (p := ⟨gb401, 0, none⟩) (Kd.R_far (p := ⟨gb400, 1, none⟩) (Kd.R_far (p := ⟨gb400, 0, none⟩) (Kd.R_types (Kd.R_types HO393.out BK400.out (by decide)) BK401.out (by decide)) (fun _ hk => hk.1.2) (.slice Ao85 t388.length co85)) (fun _ hk => hk.1.2) (.slice Ao87 t391.length co87)) (fun _ hk => hk.2) (.int .i64 t394)) (fun _ hk => hk.2) (.int .i64 t395)) (fun _ hk => hk.2) (.int .u8 t396)) (fun _ hk => hk.2) (.int .i64 t397)) (fun _ hk => hk.2) (.int .i64 t398)) (fun _ hk => hk.2) (.float .f64 t399)) (fun _ h_ => h_.1)) (fun _ h_ => h_.1))) hb); have n3_ := zB.mk (Kd.R_lower ho0 (zM (by repeat (first | (with_reducible first | exact HB.out | apply zJ | apply zF | apply zH | refine zE ?_ GE374.out | refine zE ?_ GE400.out | refine zE ?_ GE401.out) | exact HB.out)))); have n4_ := zB.mk (zK (g := gb374) (o := .cells #[.int .u8 a1_0, .int .u8 a1_1, .int .u8 a1_2, .int .u16 a1_3, .int .u16 a1_4, .float .f64 a1_5] 26 (0, 0)) (by (with_reducible repeat (first | refine zC ?_ _ | refine zD ?_ | refine zA ?_ _)); refine zN ?_ NB374_401.out _; (with_reducible repeat (first | refine zC ?_ _ | refine zD ?_ | refine zA ?_ _)); refine zN ?_ NB374_401.out _; (with_reducible repeat (first | refine zC ?_ _ | refine zD ?_ | refine zA ?_ _)); refine zN ?_ NB374_401.out _; (with_reducible repeat (first | refine zC ?_ _ | refine zD ?_ | refine zA ?_ _)); refine zN ?_ NB374_401.out _; (with_reducible repeat (first | refine zC ?_ _ | refine zD ?_ | refine zA ?_ _)); refine zN ?_ NB374_401.out _; (with_reducible repeat (first | refine zC ?_ _ | refine zD ?_ | refine zA ?_ _)); refine zN ?_ NB374_401.out _; (with_reducible repeat (first | refine zC ?_ _ | refine zD ?_ | refine zA ?_ _)); refine zN ?_ NB374_400.out _; (with_reducible repeat (first | refine zC ?_ _ | refine zD ?_ | refine zA ?_ _)); refine zN ?_ NB374_400.out _; (with_reducible repeat (first | refine zC ?_ _ | refine zD ?_ | refine zA ?_ _)); exact BK374.out) hb); have n5_ := zB.mk (zK (g := gb400) (o := .cells #[.slice Ao85 t388.length co85, .slice Ao87 t391.length co87] 31 (0, 0)) (by (with_reducible repeat (first | refine zC ?_ _ | refine zD ?_ | refine zA ?_ _)); refine zN ?_ NB400_401.out _; (with_reducible repeat (first | refine zC ?_ _ | refine zD ?_ | refine zA ?_ _)); refine zN ?_ NB400_401.out _; (with_reducible repeat (first | refine zC ?_ _ | refine zD ?_ | refine zA ?_ _)); refine zN ?_ NB400_401.out _; (with_reducible repeat (first | refine zC ?_ _ | refine zD ?_ | refine zA ?_ _)); refine zN ?_ NB400_401.out _; (with_reducible repeat (first | refine zC ?_ _ | refine zD ?_ | refine zA ?_ _)); refine zN ?_ NB400_401.out _; (with_reducible repeat (first | refine zC ?_ _ | refine zD ?_ | refine zA ?_ _)); refine zN ?_ NB400_401.out _; (with_reducible repeat (first | refine zC ?_ _ | refine zD ?_ | refine zA ?_ _)); refine blk_put (cs := #[.slice Ao85 t388.length co85, .slice none 0 0]) ?_ 1 _ rfl; (with_reducible repeat (first | refine zC ?_ _ | refine zD ?_ | refine zA ?_ _)); refine blk_put (cs := #[.slice none 0 0, .slice none 0 0]) ?_ 0 _ rfl; (with_reducible repeat (first | refine zC ?_ _ | refine zD ?_ | refine zA ?_ _)); exact BK400.out) hb); have n6_ := zB.mk (zK (g := gb401) (o := .cells #[.int .i64 t394, .int .i64 t395, .int .u8 t396, .int .i64 t397, .int .i64 t398, .float .f64 t399] 35 (0, 0)) (by (with_reducible repeat (first | refine zC ?_ _ | refine zD ?_ | refine zA ?_ _)); refine blk_put (cs := #[.int .i64 t394, .int .i64 t395, .int .u8 t396, .int .i64 t397, .int .i64 t398, .float .f64 0]) ?_ 5 _ rfl; (with_reducible repeat (first | refine zC ?_ _ | refine zD ?_ | refine zA ?_ _)); refine blk_put (cs := #[.int .i64 t394, .int .i64 t395, .int .u8 t396, .int .i64 t397, .int .i64 0, .float .f64 0]) ?_ 4 _ rfl; (with_reducible repeat (first | refine zC ?_ _ | refine zD ?_ | refine zA ?_ _)); refine blk_put (cs := #[.int .i64 t394, .int .i64 t395, .int .u8 t396, .int .i64 0, .int .i64 0, .float .f64 0]) ?_ 3 _ rfl; (with_reducible repeat (first | refine zC ?_ _ | refine zD ?_ | refine zA ?_ _)); refine blk_put (cs := #[.int .i64 t394, .int .i64 t395, .int .u8 0, .int .i64 0, .int .i64 0, .float .f64 0]) ?_ 2 _ rfl; (with_reducible repeat (first | refine zC ?_ _ | refine zD ?_ | refine zA ?_ _)); refine blk_put (cs := #[.int .i64 t394, .int .i64 0, .int .u8 0, .int .i64 0, .int .i64 0, .float .f64 0]) ?_ 1 _ rfl; (with_reducible repeat (first | refine zC ?_ _ | refine zD ?_ | refine zA ?_ _)); refine blk_put (cs := #[.int .i64 0, .int .i64 0, .int .u8 0, .int .i64 0, .int .i64 0, .float .f64 0]) ?_ 0 _ rfl; (with_reducible repeat (first | refine zC ?_ _ | refine zD ?_ | refine zA ?_ _)); refine zN ?_ NB401_400.out _; (with_reducible repeat (first | refine zC ?_ _ | refine zD ?_ | refine zA ?_ _)); refine zN ?_ NB401_400.out _; (with_reducible repeat (first | refine zC ?_ _ | refine zD ?_ | refine zA ?_ _)); exact BK401.out) hb); have n7_ := zB.mk (zO (by repeat (first | (with_reducible first | exact HB.out | apply zJ | apply zF | apply zH | refine zE ?_ GE374.out | refine zE ?_ GE400.out | refine zE ?_ GE401.out) | exact HB.out)) hb); clear HO_0; clear HO390; clear HO393; clear BK374; clear BK400; clear BK401; clear HB; have HO_0 := n0_; have HO390 := n1_; have HO393 := n2_; have HO404 := n3_; have BK374 := n4_; have BK400 := n5_; have BK401 := n6_; have HB := n7_; clear n0_ n1_ n2_ n3_ n4_ n5_ n6_ n7_; (try clear hb); (try clear hb2); (try clear hk); (try clear hi); (try clear ho0)))
    have n0_ := zB.mk (Kd.R_drew HO_0.out); have n1_ := zB.mk (Kd.R_drew HO390.out); have n2_ := zB.mk (Kd.R_drew HO393.out); have n3_ := zB.mk (Kd.R_drew HO404.out); have n4_ := zB.mk (zD BK374.out); have n5_ := zB.mk (zD BK400.out); have n6_ := zB.mk (zD BK401.out); have n7_ := zB.mk (zH HB.out); clear HO_0; clear HO390; clear HO393; clear HO404; clear BK374; clear BK400; clear BK401; clear HB; have HO_0 := n0_; have HO390 := n1_; have HO393 := n2_; have HO404 := n3_; have BK374 := n4_; have BK400 := n5_; have BK401 := n6_; have HB := n7_; clear n0_ n1_ n2_ n3_ n4_ n5_ n6_ n7_; refine start_ (n := 8) (S := fun w' => w'.cell? ⟨gb400, 0, none⟩ = some (.slice Ao85 t388.length co85) ∧ w'.cell? ⟨gb400, 1, none⟩ = some (.slice Ao87 t391.length co87) ∧ w'.cell? ⟨gb401, 0, none⟩ = some (.int .i64 t394) ∧ w'.cell? ⟨gb401, 1, none⟩ = some (.int .i64 t395) ∧ w'.cell? ⟨gb401, 2, none⟩ = some (.int .u8 t396) ∧ w'.cell? ⟨gb401, 3, none⟩ = some (.int .i64 t397) ∧ w'.cell? ⟨gb401, 4, none⟩ = some (.int .i64 t398) ∧ w'.cell? ⟨gb401, 5, none⟩ = some (.float .f64 t399)) (ds := []) #[false, false, false, false, false, false, false, false] (by kernel_rfl) rfl rfl ⟨(zG BK400.out 0).trans rfl, (zG BK400.out 1).trans rfl, (zG BK401.out 0).trans rfl, (zG BK401.out 1).trans rfl, (zG BK401.out 2).trans rfl, (zG BK401.out 3).trans rfl, (zG BK401.out 4).trans rfl, (zG BK401.out 5).trans rfl⟩ (fun hHeld => ?_); refine with_tabW stanzalaw15_BestOne.tab15 stanzalaw15_BestOne.bits15 (fun HT_ HW_ => ?_)
    generalize w100.drew = w101 at HO_0 HO390 HO393 HO404 BK374 BK400 BK401 HB hHeld ⊢
    refine pure_ (i := 1) (N := some 60) (v := ?_) (a' := ?_) #[false, true, false, false, false, false, false, false] rfl rfl (any_of HT_.out (by kernel_rfl)) (fun _ _ _ h => h) (Or.inl ⟨by rfl, ?_⟩) ?_ ?_
    rotate_left
    · intro w'
      go_simp
      with_reducible rfl
    rotate_left
    · simp only [Act.put, sA_, sB_, sC_, i64_w, i32_w]
      rfl
    refine pure_ (i := 2) (N := some 61) (v := ?_) (a' := ?_) #[false, true, true, false, false, false, false, false] rfl rfl (any_of HT_.out (by kernel_rfl)) (fun _ _ _ h => h) (Or.inl ⟨by rfl, ?_⟩) ?_ ?_
    rotate_left
    · intro w'
      go_simp
      with_reducible rfl
    rotate_left
    · simp only [Act.put, sA_, sB_, sC_, i64_w, i32_w]
      rfl
    refine pure_ (i := 5) (N := some 64) (v := ?_) (a' := ?_) #[false, true, true, false, false, true, false, false] rfl rfl (any_of HT_.out (by kernel_rfl)) (fun _ _ _ h => h) (Or.inl ⟨by rfl, ?_⟩) ?_ ?_
    rotate_left
    · intro w'
      go_simp
      with_reducible rfl
    rotate_left
    · simp only [Act.put, sA_, sB_, sC_, i64_w, i32_w]
      rfl
    refine take_ (i := 0) (N := some 59) (v := ?_) (a' := ?_) #[true, true, true, false, false, true, false, false] rfl rfl (take_ofW HT_.out HW_.out (by kernel_rfl)) (fun _ _ _ h => h) (Or.inl ⟨by rfl, ?_⟩) hHeld ?_ ?_
    rotate_left
    · rintro w' ⟨s0, s1, s2, s3, s4, s5, s6, s7⟩
      go_simp
      with_reducible rfl
    rotate_left
    · simp only [Act.put, sA_, sB_, sC_, i64_w, i32_w]
      rfl
    refine take_ (i := 3) (N := some 62) (v := ?_) (a' := ?_) #[true, true, true, true, false, true, false, false] rfl rfl (take_ofW HT_.out HW_.out (by kernel_rfl)) (fun _ _ _ h => h) (Or.inl ⟨by rfl, ?_⟩) hHeld ?_ ?_
    rotate_left
    · rintro w' ⟨s0, s1, s2, s3, s4, s5, s6, s7⟩
      go_simp
      with_reducible rfl
    rotate_left
    · simp only [Act.put, sA_, sB_, sC_, i64_w, i32_w]
      rfl
    refine take_ (i := 6) (N := some 65) (v := ?_) (a' := ?_) #[true, true, true, true, false, true, true, false] rfl rfl (take_ofW HT_.out HW_.out (by kernel_rfl)) (fun _ _ _ h => h) (Or.inl ⟨by rfl, ?_⟩) hHeld ?_ ?_
    rotate_left
    · rintro w' ⟨s0, s1, s2, s3, s4, s5, s6, s7⟩
      go_simp
      with_reducible rfl
    rotate_left
    · simp only [Act.put, sA_, sB_, sC_, i64_w, i32_w]
      rfl
    refine one_ (i := 4) (N := some 63) #[true, true, true, true, true, true, true, false] rfl rfl (one_of HT_.out (by kernel_rfl)) (by decide) (fun K hK => ?_)
    refine goes_ Try.func18 (by kernel_rfl) rfl #[.agg #[.slice Ao85 t388.length co85, .slice Ao87 t391.length co87], .int .i64 0, .int .i64 (t388.length : Int), .int .u8 2, .int .i64 t395] (by rfl) rfl rfl (by (try simp only [List.map_toArray, List.map_cons, List.map_nil]); first | done | rfl | (simp only [List.length_drop, List.length_take]; rfl)) ?_
    with_reducible refine (stanzaref13_Cells.calls k1 _ _ t388 _ _ t391 0 (t388.length : Int) 2 t395 t406 _ ?side1 ?side2 ?side3 ?side4 A51.out).mono ?_
    (case side1 => repeat (first | exact (Kd.R_reads' HO390.out).2.2 | (with_reducible refine Kd.C_alloc ?_ _) | (with_reducible refine Kd.C_drewN ?_ _) | (with_reducible refine Kd.C_drew ?_)))
    (case side2 => exact (Kd.R_reads' HO390.out).2.1)
    (case side3 => repeat (first | exact (Kd.R_reads' HO393.out).2.2 | (with_reducible refine Kd.C_alloc ?_ _) | (with_reducible refine Kd.C_drewN ?_ _) | (with_reducible refine Kd.C_drew ?_)))
    (case side4 => exact (Kd.R_reads' HO393.out).2.1)
    rintro e w102 ⟨rfl, hb⟩
    refine ⟨_, rfl, ?_⟩
    have n0_ := zB.mk (Kd.R_below (by (with_reducible repeat (first | apply Kd.R_alloc | apply Kd.R_drewN | apply Kd.R_drew)); exact HO_0.out) hb)
    have n1_ := zB.mk (Kd.R_below (by (with_reducible repeat (first | apply Kd.R_alloc | apply Kd.R_drewN | apply Kd.R_drew)); exact HO390.out) hb)
    have n2_ := zB.mk (Kd.R_below (by (with_reducible repeat (first | apply Kd.R_alloc | apply Kd.R_drewN | apply Kd.R_drew)); exact HO393.out) hb)
    have n3_ := zB.mk (Kd.R_below (by (with_reducible repeat (first | apply Kd.R_alloc | apply Kd.R_drewN | apply Kd.R_drew)); exact HO404.out) hb)
    have n4_ := zB.mk (zK (g := gb374) (o := .cells #[.int .u8 a1_0, .int .u8 a1_1, .int .u8 a1_2, .int .u16 a1_3, .int .u16 a1_4, .float .f64 a1_5] 26 (0, 0)) (by (with_reducible repeat (first | refine zC ?_ _ | refine zD ?_ | refine zA ?_ _)); exact BK374.out) hb)
    have n5_ := zB.mk (zK (g := gb400) (o := .cells #[.slice Ao85 t388.length co85, .slice Ao87 t391.length co87] 31 (0, 0)) (by (with_reducible repeat (first | refine zC ?_ _ | refine zD ?_ | refine zA ?_ _)); exact BK400.out) hb)
    have n6_ := zB.mk (zK (g := gb401) (o := .cells #[.int .i64 t394, .int .i64 t395, .int .u8 t396, .int .i64 t397, .int .i64 t398, .float .f64 t399] 35 (0, 0)) (by (with_reducible repeat (first | refine zC ?_ _ | refine zD ?_ | refine zA ?_ _)); exact BK401.out) hb)
    have n7_ := zB.mk (zO (by repeat (first | (with_reducible first | exact HB.out | apply zJ | apply zF | apply zH | refine zE ?_ GE374.out | refine zE ?_ GE400.out | refine zE ?_ GE401.out) | exact HB.out)) hb)
    clear HO_0 HO390 HO393 HO404 BK374 BK400 BK401 HB; have HO_0 := n0_; have HO390 := n1_; have HO393 := n2_; have HO404 := n3_; have BK374 := n4_; have BK400 := n5_; have BK401 := n6_; have HB := n7_; clear n0_ n1_ n2_ n3_ n4_ n5_ n6_ n7_; (try clear hb)
    (try clear hb2)
    (try clear hk)
    (try clear hi)
    refine hK.out _ _ ⟨(zG BK400.out 0).trans rfl, (zG BK400.out 1).trans rfl, (zG BK401.out 0).trans rfl, (zG BK401.out 1).trans rfl, (zG BK401.out 2).trans rfl, (zG BK401.out 3).trans rfl, (zG BK401.out 4).trans rfl, (zG BK401.out 5).trans rfl⟩ (fun hHeld => ?_)
    clear hK K; refine norm_ (a' := ?_) ?_ ?_
    rotate_left
    · show Act.put _ (some 63) _ = _
      simp only [Act.put, sA_, sB_, sC_, i64_w, i32_w]; rfl
    refine pure_ (i := 7) (N := some 66) (v := ?_) (a' := ?_) #[true, true, true, true, true, true, true, true] rfl rfl (any_of HT_.out (by kernel_rfl)) (fun _ _ _ h => h) (Or.inl ⟨by rfl, ?_⟩) ?_ ?_
    rotate_left
    · intro w'
      go_simp
      with_reducible rfl
    rotate_left
    · simp only [Act.put, sA_, sB_, sC_, i64_w, i32_w]
      rfl
    refine done_ (done_of HT_.out (by kernel_rfl)) ?_
    try go_wp2
    go_ret
    exact ⟨by first | rfl | (simp [errW_none, errW_some] <;> rfl) | (simp only [← hji5]; first | rfl | (simp [errW_none, errW_some] <;> rfl)) | (simp [*, errW_none, errW_some] <;> rfl), by repeat (first | (with_reducible first | exact HB.out | apply zJ | apply zF | apply zH | refine zE ?_ GE374.out | refine zE ?_ GE400.out | refine zE ?_ GE401.out) | exact HB.out)⟩
def stanzalaw15_BestOne.Pure : Prop := ∀ (l0 : List (S45)) (a1_0 : Int) (a1_1 : Int) (a1_2 : Int) (a1_3 : Int) (a1_4 : Int) (a1_5 : Nat), (l0.length * 4 ≤ 140737488351232 ∧ ∀ y0 ∈ l0, ((Lit.int .u8 y0.f0).wf = true ∧ ((Lit.int .u8 y0.f1).wf = true ∧ ((Lit.int .u8 y0.f2).wf = true ∧ (Lit.int .u8 y0.f3).wf = true)))) → ((Lit.int .u8 a1_0).wf = true ∧ ((Lit.int .u8 a1_1).wf = true ∧ ((Lit.int .u8 a1_2).wf = true ∧ ((Lit.int .u16 a1_3).wf = true ∧ ((Lit.int .u16 a1_4).wf = true ∧ (Lit.float .f64 a1_5).wf = true))))) → ∃ k, stanzalaw15_BestOne.f k l0 a1_0 a1_1 a1_2 a1_3 a1_4 a1_5 = some true
end Go.Proofs.Ytlgclhhkgohanaa.F
end
