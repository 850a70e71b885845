/- Printed by a program: Lean functions that answer as the Go functions do, and the proofs of it. -/
import Derived.Test.YtigajcipjklknaaXItemsParts0
import Derived.Test.YtigajcipjklknaaVItemsParts0
import Derived.Test.YtigajcipjklknaaVItemsParts1
section
namespace Go.Proofs.Ytigajcipjklknaa.F
open Go.RowKit Go.Proofs.YtigajcipjklknaaW.PrintWords Go.Proofs.YtigajcipjklknaaW.PrintLast Go.Proofs.YtigajcipjklknaaW.PrintMore
attribute [local go_sem] max2_int min2_int max_two min_two max_three min_three max_four min_four   -- for this text's walks alone
set_option linter.unusedVariables false
set_option linter.unusedSimpArgs false
mutual
def stanzaref01_One.j0 : Nat → List Int → Int → Bool → Option (Int × Int × Int)
 | 0, _, _, _ => none
 | k + 1, x0, x1, x16 => if x16 = true then (some (0, 0, 0)) else (stanzaref01_One.l0 k x0 x1 0)
def stanzaref01_One.j2 : Nat → List Int → Int → Int → Option (Int × Int × Int)
 | 0, _, _, _ => none
 | k + 1, x0, x1, x5 => if x5 = 0 then (some (65533, x1, 1)) else (if 0 ≤ x1 then (if x1 < (x0.length : Int) then ((stanzaref01_length.f k (rd x0 x1)).bind fun t187 => (if x5 < t187 then (some (65533, x1, x5)) else ((some (([0, 127, 31, 15, 7] : List Int) : List Int)).bind fun y189 => (if 0 ≤ x5 then (if x5 < (y189.length : Int) then (stanzaref01_One.l1 k x0 x1 x5 (Go.bits .and .i32 (wrap32 (rd x0 x1)) (rd y189 x5)) 1) else (none)) else (none))))) else (none)) else (none))
def stanzaref01_One.l1 : Nat → List Int → Int → Int → Int → Int → Option (Int × Int × Int)
 | 0, _, _, _, _, _ => none
 | k + 1, x0, x1, x5, x6, x8 => if x8 < x5 then (if 0 ≤ (wrap64 (x1 + x8)) then (if (wrap64 (x1 + x8)) < (x0.length : Int) then (stanzaref01_One.l1 k x0 x1 x5 (wrap32 ((wrap32 ((wrap32 (x6 * 64)) + (wrap32 (rd x0 (wrap64 (x1 + x8)))))) - 128)) (wrap64 (x8 + 1))) else (none)) else (none)) else (some (x6, x1, x5))
def stanzaref01_One.l0 : Nat → List Int → Int → Int → Option (Int × Int × Int)
 | 0, _, _, _ => none
 | k + 1, x0, x1, x5 => if x5 < 4 then (if x5 < (wrap64 ((x0.length : Int) - x1)) then (if 0 ≤ x1 then (if x1 ≤ (wrap64 ((wrap64 (x1 + x5)) + 1)) then (if (wrap64 ((wrap64 (x1 + x5)) + 1)) ≤ (x0.length : Int) then ((stanzaref01_Begins.f k ((x0.take ((wrap64 ((wrap64 (x1 + x5)) + 1)) : Int).toNat).drop (x1 : Int).toNat)).bind fun t185 => (if t185 = true then (stanzaref01_One.l0 k x0 x1 (wrap64 (x5 + 1))) else (stanzaref01_One.j2 k x0 x1 x5))) else (none)) else (none)) else (none)) else (stanzaref01_One.j2 k x0 x1 x5)) else (stanzaref01_One.j2 k x0 x1 x5)
end
def stanzaref01_One.f (k : Nat) (l0 : List Int) (a1 : Int) : Option (Int × Int × Int) := if a1 < 0 then (stanzaref01_One.j0 k l0 a1 true) else (stanzaref01_One.j0 k l0 a1 (decide (a1 ≥ (l0.length : Int))))
theorem stanzaref01_One.mono_l : ∀ k, (∀ y0 y1 y2, LeO (stanzaref01_One.j0 k y0 y1 y2) (stanzaref01_One.j0 (k + 1) y0 y1 y2)) ∧ (∀ y0 y1 y2, LeO (stanzaref01_One.j2 k y0 y1 y2) (stanzaref01_One.j2 (k + 1) y0 y1 y2)) ∧ (∀ y0 y1 y2 y3 y4, LeO (stanzaref01_One.l1 k y0 y1 y2 y3 y4) (stanzaref01_One.l1 (k + 1) y0 y1 y2 y3 y4)) ∧ (∀ y0 y1 y2, LeO (stanzaref01_One.l0 k y0 y1 y2) (stanzaref01_One.l0 (k + 1) y0 y1 y2))
 | 0 => ⟨fun _ _ _ r h => by simp [stanzaref01_One.j0] at h, fun _ _ _ r h => by simp [stanzaref01_One.j2] at h, fun _ _ _ _ _ r h => by simp [stanzaref01_One.l1] at h, fun _ _ _ r h => by simp [stanzaref01_One.l0] at h⟩
 | k + 1 => by
  obtain ⟨ih0, ih1, ih2, ih3⟩ := stanzaref01_One.mono_l k; refine ⟨?_, ?_, ?_, ?_⟩
  ·intro y0 y1 y2
   unfold stanzaref01_One.j0
   repeat' (with_reducible first | exact ih0 _ _ _ | exact ih1 _ _ _ | exact ih2 _ _ _ _ _ | exact ih3 _ _ _ | exact stanzaref01_Begins.mono _ _ | exact stanzaref01_length.mono _ _ | exact LeO.refl _ | exact LeO.none _ | refine LeO.ite ?_ ?_ | refine LeO.bind ?_ (fun _ => ?_))
  ·intro y0 y1 y2
   unfold stanzaref01_One.j2
   repeat' (with_reducible first | exact ih0 _ _ _ | exact ih1 _ _ _ | exact ih2 _ _ _ _ _ | exact ih3 _ _ _ | exact stanzaref01_Begins.mono _ _ | exact stanzaref01_length.mono _ _ | exact LeO.refl _ | exact LeO.none _ | refine LeO.ite ?_ ?_ | refine LeO.bind ?_ (fun _ => ?_))
  ·intro y0 y1 y2 y3 y4
   unfold stanzaref01_One.l1
   repeat' (with_reducible first | exact ih0 _ _ _ | exact ih1 _ _ _ | exact ih2 _ _ _ _ _ | exact ih3 _ _ _ | exact stanzaref01_Begins.mono _ _ | exact stanzaref01_length.mono _ _ | exact LeO.refl _ | exact LeO.none _ | refine LeO.ite ?_ ?_ | refine LeO.bind ?_ (fun _ => ?_))
  ·intro y0 y1 y2
   unfold stanzaref01_One.l0
   repeat' (with_reducible first | exact ih0 _ _ _ | exact ih1 _ _ _ | exact ih2 _ _ _ _ _ | exact ih3 _ _ _ | exact stanzaref01_Begins.mono _ _ | exact stanzaref01_length.mono _ _ | exact LeO.refl _ | exact LeO.none _ | refine LeO.ite ?_ ?_ | refine LeO.bind ?_ (fun _ => ?_))
theorem stanzaref01_One.mono : ∀ a0 a1 k, LeO (stanzaref01_One.f k a0 a1) (stanzaref01_One.f (k + 1) a0 a1) := by
 intro a0 a1 k
 obtain ⟨ih0, ih1, ih2, ih3⟩ := stanzaref01_One.mono_l k; unfold stanzaref01_One.f
 repeat' (with_reducible first | exact ih0 _ _ _ | exact ih1 _ _ _ | exact ih2 _ _ _ _ _ | exact ih3 _ _ _ | exact stanzaref01_Begins.mono _ _ | exact stanzaref01_length.mono _ _ | exact LeO.refl _ | exact LeO.none _ | refine LeO.ite ?_ ?_ | refine LeO.bind ?_ (fun _ => ?_))
set_option maxHeartbeats 8000000 in
set_option maxRecDepth 100000 in
theorem stanzaref01_One.calls (k : Nat) (A0 : Option Addr) (c0 : Nat) (l0 : List Int) (a1 : Int) (r1 : Int) (r2 : Int) (r3 : Int) (w : World) (hr0 : Kd.C (Kd.int .u8) w A0 l0.length l0) (hc0 : l0.length ≤ c0) (h : stanzaref01_One.f k l0 a1 = some (r1, r2, r3)) :
  Calls Try.prog 35 #[.slice A0 l0.length c0, .int .i64 a1] w fun e w' => e = .returned (.agg #[.int .i32 r1, .int .i64 r2, .int .i64 r3]) ∧ Below w.heap.size w w' := by
 have hu50 := Try.underlying50; have HR0 := zA.mk hr0; have HC0 := zA.mk hc0; clear hr0 hc0; have HB := zA.mk (Below.refl w.heap.size w); have H : (if a1 < 0 then (stanzaref01_One.j0 k l0 a1 true) else (stanzaref01_One.j0 k l0 a1 (decide (a1 ≥ (l0.length : Int))))) = some (r1, r2, r3) := h
 clear h; have HC3 := zA.mk H; clear H; go_enter Try.func35, Try.ntmps35
 go_upto_region 1 with (first | ((with_reducible refine gate_dst (N := 4) rfl ?_); (try (refine gate_guard (by rfl) ?_; dsimp only)); refine box_event ?hg (N := 4) ?hd (cs := #[.int .i32 0, .int .i64 0, .int .i64 0]) (t := 50) ?hr ?_; (case hd => rfl); (case hg => rfl); (case hr => first | (go_simp; done) | (go_simp; rfl)); intro gb183 hg w4 hbox hb; have BK183 := zA.mk (hbox); have GW183 := zA.mk ((by rw [hg]; exact (below_size (aL HB)) : w.heap.size ≤ gb183)); replace HB := zA.mk (below_step (aL HB) hb); have GE183 := GW183; clear hb hbox hg))
 (try simp only [Act.put, sA_, sB_, sC_])
 go_cut [16] (fun v16 wc => ∃ (kq : Nat) (x16_2 : Bool), v16 = .bool x16_2 ∧ zA (stanzaref01_One.j0 kq l0 a1 x16_2 = some (r1, r2, r3)) ∧ zA (kq ≤ k) ∧ zA (wc.heap[gb183]? = some (.cells #[.int .i32 0, .int .i64 0, .int .i64 0] 50 (0, 0))) ∧ zA (Below w.heap.size w wc))
 case first =>
  have H := HC3.out; clear HC3; by_cases c5 : a1 < 0
  ·rw [if_pos c5] at H
   have c5b0 : decide (a1 < 0) = true := decide_eq_true c5
   clear c5; (first | rw [c5b0] | (simp only [i64_w, i32_w]; rw [c5b0]) | skip)
   have H' := zA.mk H
   clear H; go_wp2
   go_meet
   case rel => exact ⟨_, (true), aZ, H', ⟨by first | omega | exact Nat.le_refl _⟩, ⟨aB BK183⟩, ⟨aL HB⟩⟩
  rw [if_neg c5] at H; have c5b0 : decide (a1 < 0) = false := decide_eq_false c5
  clear c5; (first | rw [c5b0] | (simp only [i64_w, i32_w]; rw [c5b0]) | skip)
  have H' := zA.mk H
  clear H; go_wp2
  go_meet
  case rel => exact ⟨_, (decide (a1 ≥ (l0.length : Int))), aZ, H', ⟨by first | omega | exact Nat.le_refl _⟩, ⟨aB BK183⟩, ⟨aL HB⟩⟩
 clear HC3; obtain ⟨kq, x16_2, rfl, HA, HJ2, BK183, HB⟩ := hcut; cases kq with
 | zero => exact absurd HA.out (by simp [stanzaref01_One.j0])
 | succ kj2 =>
  have H := HA.out; clear HA; simp only [stanzaref01_One.j0] at H; by_cases c6 : x16_2 = true
  ·subst c6
   have H1 : (some (0, 0, 0)) = some (r1, r2, r3) := by rw [if_pos rfl] at H; exact H
   clear H; have H := H1; clear H1; simp only [Option.some.injEq, Prod.mk.injEq] at H; obtain ⟨rfl, rfl, rfl⟩ := H; obtain ⟨hcz7_0, hcz7_1, hcz7_2, hfz7_0, hfz7_1, hfz7_2⟩ := aC3 BK183; go_wp2_with (first | ((with_reducible refine gate_store (t := 50) (p := 4) rfl ?_); refine store_event (t := 50) (p := 4) (v := ?vo_w8) (w1 := (((wc.setCell ⟨gb183, 0, none⟩ (.int .i32 0)).setCell ⟨gb183, 1, none⟩ (.int .i64 0)).setCell ⟨gb183, 2, none⟩ (.int .i64 0))) ?hg ?ho ?hn ?hr ?_; (case ho => rfl); (case hg => rfl); (case hn => rfl); (case hr => first | (go_simp; done) | (go_simp; rfl)); intro w8 hw; have n0_ : zA (w8.heap[gb183]? = some (.cells #[.int .i32 0, .int .i64 0, .int .i64 0] 50 (0, 0))) := ⟨(by rw [hw]; exact (by (with_reducible repeat (first | refine zC ?_ _ | refine zD ?_ | refine zB ?_ _)); refine blk_put (cs := #[.int .i32 0, .int .i64 0, .int .i64 0]) ?_ 2 _ rfl; (with_reducible repeat (first | refine zC ?_ _ | refine zD ?_ | refine zB ?_ _)); refine blk_put (cs := #[.int .i32 0, .int .i64 0, .int .i64 0]) ?_ 1 _ rfl; (with_reducible repeat (first | refine zC ?_ _ | refine zD ?_ | refine zB ?_ _)); refine blk_put (cs := #[.int .i32 0, .int .i64 0, .int .i64 0]) ?_ 0 _ rfl; (with_reducible repeat (first | refine zC ?_ _ | refine zD ?_ | refine zB ?_ _)); exact BK183.out))⟩; have n1_ : zA (Below w.heap.size w w8) := ⟨(by rw [hw]; exact (aL HB))⟩; clear hw; clear BK183; clear HB; have BK183 := n0_; have HB := n1_; clear n0_ n1_))
   refine bodyPost_ret (results_cell_row rfl _ _ gb183 50 #[.int .i32 0, .int .i64 0, .int .i64 0] (0, 0) _ rfl (aB BK183) Try.underlying50 rfl (by kernel_rfl)) rfl ?_
   exact ⟨aX, aL HB⟩
  replace c6 := Bool.eq_false_iff.mpr c6; subst c6; have H1 : (stanzaref01_One.l0 kj2 l0 a1 0) = some (r1, r2, r3) := by rw [if_neg (show ¬ (false = true) by decide)] at H; exact H
  clear H; have H := H1; clear H1; have HC9 := zA.mk H; clear H; go_upto_block 0 with (fail)
  go_cut [5] (fun v5 wc => ∃ (kq : Nat) (x5_8 : Int), v5 = .int .i64 x5_8 ∧ zA (stanzaref01_One.j2 kq l0 a1 x5_8 = some (r1, r2, r3)) ∧ zA (kq ≤ kj2) ∧ zA (wc.heap[gb183]? = some (.cells #[.int .i32 0, .int .i64 0, .int .i64 0] 50 (0, 0))) ∧ zA (Below w.heap.size w wc))
  case first =>
   have H := HC9.out; clear HC9; have H' := zA.mk H
   clear H; go_wp2
   go_loopg [5] kj2 (fun kq v5 w' => ∃ (x5_2 : Int), v5 = .int .i64 x5_2 ∧ zA (stanzaref01_One.l0 kq l0 a1 x5_2 = some (r1, r2, r3)) ∧ zA (kq ≤ kj2) ∧ zA (w'.heap[gb183]? = some (.cells #[.int .i32 0, .int .i64 0, .int .i64 0] 50 (0, 0))) ∧ zA (Below w.heap.size w w'))
   case atStart => exact ⟨(0), aZ, H', ⟨Nat.le_refl _⟩, ⟨aB BK183⟩, ⟨aL HB⟩⟩
   clear H'; obtain ⟨x5_2, rfl, HA, HK2, BK183, HB⟩ := hrel; cases gk with
   | zero => exact absurd HA.out (by simp [stanzaref01_One.l0])
   | succ k2 =>
    have H := HA.out; clear HA; simp only [stanzaref01_One.l0] at H; by_cases c10 : x5_2 < 4
    rotate_left
    ·rw [if_neg c10] at H
     have c10b0 : decide (x5_2 < 4) = false := decide_eq_false c10
     clear c10; (first | rw [c10b0] | (simp only [i64_w, i32_w]; rw [c10b0]) | skip)
     have H' := zA.mk H
     clear H; go_wp2
     go_meet
     case rel => exact ⟨_, (x5_2), aZ, H', ⟨by have := HJ2.out; have := HK2.out; first | omega | exact Nat.le_refl _⟩, ⟨aB BK183⟩, ⟨aL HB⟩⟩
    rw [if_pos c10] at H; have c10b0 : decide (x5_2 < 4) = true := decide_eq_true c10
    clear c10; (first | rw [c10b0] | (simp only [i64_w, i32_w]; rw [c10b0]) | skip)
    by_cases c11 : x5_2 < (wrap64 ((l0.length : Int) - a1))
    rotate_left
    ·rw [if_neg c11] at H
     have c11b0 : decide (x5_2 < (wrap64 ((l0.length : Int) - a1))) = false := decide_eq_false c11
     clear c11; have H' := zA.mk H
     clear H; go_wp2
     go_meet
     case rel => exact ⟨_, (x5_2), aZ, H', ⟨by have := HJ2.out; have := HK2.out; first | omega | exact Nat.le_refl _⟩, ⟨aB BK183⟩, ⟨aL HB⟩⟩
    rw [if_pos c11] at H; have c11b0 : decide (x5_2 < (wrap64 ((l0.length : Int) - a1))) = true := decide_eq_true c11
    clear c11; by_cases c12 : 0 ≤ a1
    rotate_left
    ·rw [if_neg c12] at H
     exact absurd H (by simp)
    rw [if_pos c12] at H; have c12b0 := eq_true c12; have c12b1 : decide (0 ≤ a1) = true := decide_eq_true c12
    clear c12; by_cases c13 : a1 ≤ (wrap64 ((wrap64 (a1 + x5_2)) + 1))
    rotate_left
    ·rw [if_neg c13] at H
     exact absurd H (by simp)
    rw [if_pos c13] at H; have c13b0 := eq_true c13; have c13b1 : decide (a1 ≤ (wrap64 ((wrap64 (a1 + x5_2)) + 1))) = true := decide_eq_true c13
    by_cases c14 : (wrap64 ((wrap64 (a1 + x5_2)) + 1)) ≤ (l0.length : Int)
    rotate_left
    ·rw [if_neg c14] at H
     exact absurd H (by simp)
    rw [if_pos c14] at H; have c14b0 := eq_true c14; have c14b1 : decide ((wrap64 ((wrap64 (a1 + x5_2)) + 1)) ≤ (l0.length : Int)) = true := decide_eq_true c14
    replace H := Option.bind_eq_some_iff.mp H; obtain ⟨t185, A150, H⟩ := H; replace H : (if t185 = true then (stanzaref01_One.l0 k2 l0 a1 (wrap64 (x5_2 + 1))) else (stanzaref01_One.j2 k2 l0 a1 x5_2)) = some (r1, r2, r3) := H; have A15 := zA.mk A150; clear A150; by_cases c16 : t185 = true
    ·subst c16
     have H1 : (stanzaref01_One.l0 k2 l0 a1 (wrap64 (x5_2 + 1))) = some (r1, r2, r3) := by rw [if_pos rfl] at H; exact H
     clear H; have H := H1; clear H1; have H' := zA.mk H
     clear H; obtain ⟨i017, hi017, _, hsz17, _⟩ := info_parts info5; obtain ⟨A17, hcut17, hA17, hC17⟩ := print_mid_of (P := Try.prog) (Value.int .u8) 0 22 5 .i64 .i64 Try.underlying22 hi017 hsz17 A0 c0 l0 a1 (wrap64 ((wrap64 (a1 + x5_2)) + 1)) (aD) (by first | omega | exact aD) (aD) HC0.out
     have HR184 := zA.mk (Kd.C_of_reads (h1 := fun _ => rfl) (hA17 _ (Kd.reads_of_C HR0.out)))
     have HC184 := zA.mk hC17; clear hA17 hC17 hi017 hsz17; go_wp2_with (first | (go_at_call 38; refine calls_of_args (args' := #[.slice A17 ((l0.take ((wrap64 ((wrap64 (a1 + x5_2)) + 1)) : Int).toNat).drop (a1 : Int).toNat).length (c0 - a1.toNat)]) (by first | (rw [show ((l0.take ((wrap64 ((wrap64 (a1 + x5_2)) + 1)) : Int).toNat).drop (a1 : Int).toNat).length = ((wrap64 ((wrap64 (a1 + x5_2)) + 1)).toNat - a1.toNat) from (by rw [List.length_drop, List.length_take]; have h_ : ((wrap64 ((wrap64 (a1 + x5_2)) + 1)) : Int) ≤ (l0.length : Int) := aD; omega)] <;> rfl) | rfl) ?_; (with_reducible refine (stanzaref01_Begins.calls k2 _ _ ((l0.take ((wrap64 ((wrap64 (a1 + x5_2)) + 1)) : Int).toNat).drop (a1 : Int).toNat) true _ ?side1 ?side2 A15.out).mono ?_); (case side1 => exact aA HR184 HB); (case side2 => exact HC184.out); rintro e w' ⟨rfl, ⟨nd, rfl⟩⟩))
     go_roundg k2
     case measure => have := HJ2.out; have := HK2.out; omega
     case rel => exact ⟨(wrap64 (x5_2 + 1)), aZ, H', ⟨by have := HJ2.out; have := HK2.out; omega⟩, ⟨aB BK183⟩, ⟨aL HB⟩⟩
    replace c16 := Bool.eq_false_iff.mpr c16; subst c16; have H1 : (stanzaref01_One.j2 k2 l0 a1 x5_2) = some (r1, r2, r3) := by rw [if_neg (show ¬ (false = true) by decide)] at H; exact H
    clear H; have H := H1; clear H1; have H' := zA.mk H
    clear H; obtain ⟨i018, hi018, _, hsz18, _⟩ := info_parts info5; obtain ⟨A18, hcut18, hA18, hC18⟩ := print_mid_of (P := Try.prog) (Value.int .u8) 0 22 5 .i64 .i64 Try.underlying22 hi018 hsz18 A0 c0 l0 a1 (wrap64 ((wrap64 (a1 + x5_2)) + 1)) (aD) (by first | omega | exact aD) (aD) HC0.out
    have HR184 := zA.mk (Kd.C_of_reads (h1 := fun _ => rfl) (hA18 _ (Kd.reads_of_C HR0.out)))
    have HC184 := zA.mk hC18; clear hA18 hC18 hi018 hsz18; go_wp2_with (first | (go_at_call 38; refine calls_of_args (args' := #[.slice A18 ((l0.take ((wrap64 ((wrap64 (a1 + x5_2)) + 1)) : Int).toNat).drop (a1 : Int).toNat).length (c0 - a1.toNat)]) (by first | (rw [show ((l0.take ((wrap64 ((wrap64 (a1 + x5_2)) + 1)) : Int).toNat).drop (a1 : Int).toNat).length = ((wrap64 ((wrap64 (a1 + x5_2)) + 1)).toNat - a1.toNat) from (by rw [List.length_drop, List.length_take]; have h_ : ((wrap64 ((wrap64 (a1 + x5_2)) + 1)) : Int) ≤ (l0.length : Int) := aD; omega)] <;> rfl) | rfl) ?_; (with_reducible refine (stanzaref01_Begins.calls k2 _ _ ((l0.take ((wrap64 ((wrap64 (a1 + x5_2)) + 1)) : Int).toNat).drop (a1 : Int).toNat) false _ ?side1 ?side2 A15.out).mono ?_); (case side1 => exact aA HR184 HB); (case side2 => exact HC184.out); rintro e w' ⟨rfl, ⟨nd, rfl⟩⟩))
    go_meet
    case rel => exact ⟨_, (x5_2), aZ, H', ⟨by have := HJ2.out; have := HK2.out; first | omega | exact Nat.le_refl _⟩, ⟨aB BK183⟩, ⟨aL HB⟩⟩
  clear HC9; obtain ⟨kq, x5_8, rfl, HA, HJ8, BK183, HB⟩ := hcut; cases kq with
  | zero => exact absurd HA.out (by simp [stanzaref01_One.j2])
  | succ kj8 =>
   have H := HA.out; clear HA; simp only [stanzaref01_One.j2] at H; by_cases c19 : x5_8 = 0
   ·rw [if_pos c19] at H
    have c19b0 : (x5_8 == 0) = true := beq_iff_eq.mpr c19
    have c19b1 : (x5_8 != 0) = false := bne_eq_false_iff_eq.mpr c19
    clear c19; simp only [Option.some.injEq, Prod.mk.injEq] at H; obtain ⟨rfl, rfl, rfl⟩ := H; obtain ⟨hcz20_0, hcz20_1, hcz20_2, hfz20_0, hfz20_1, hfz20_2⟩ := aC3 BK183; go_wp2_with (first | ((with_reducible refine gate_store (t := 50) (p := 4) rfl ?_); refine store_event (t := 50) (p := 4) (v := ?vo_w21) (w1 := (((wc.setCell ⟨gb183, 0, none⟩ (.int .i32 65533)).setCell ⟨gb183, 1, none⟩ (.int .i64 a1)).setCell ⟨gb183, 2, none⟩ (.int .i64 1))) ?hg ?ho ?hn ?hr ?_; (case ho => rfl); (case hg => rfl); (case hn => rfl); (case hr => first | (go_simp; done) | (go_simp; rfl)); intro w21 hw; have n0_ : zA (w21.heap[gb183]? = some (.cells #[.int .i32 65533, .int .i64 a1, .int .i64 1] 50 (0, 0))) := ⟨(by rw [hw]; exact (by (with_reducible repeat (first | refine zC ?_ _ | refine zD ?_ | refine zB ?_ _)); refine blk_put (cs := #[.int .i32 65533, .int .i64 a1, .int .i64 0]) ?_ 2 _ rfl; (with_reducible repeat (first | refine zC ?_ _ | refine zD ?_ | refine zB ?_ _)); refine blk_put (cs := #[.int .i32 65533, .int .i64 0, .int .i64 0]) ?_ 1 _ rfl; (with_reducible repeat (first | refine zC ?_ _ | refine zD ?_ | refine zB ?_ _)); refine blk_put (cs := #[.int .i32 0, .int .i64 0, .int .i64 0]) ?_ 0 _ rfl; (with_reducible repeat (first | refine zC ?_ _ | refine zD ?_ | refine zB ?_ _)); exact BK183.out))⟩; have n1_ : zA (Below w.heap.size w w21) := ⟨(by rw [hw]; exact (aL HB))⟩; clear hw; clear BK183; clear HB; have BK183 := n0_; have HB := n1_; clear n0_ n1_))
    refine bodyPost_ret (results_cell_row rfl _ _ gb183 50 #[.int .i32 65533, .int .i64 a1, .int .i64 1] (0, 0) _ rfl (aB BK183) Try.underlying50 rfl (by kernel_rfl)) rfl ?_
    exact ⟨aX, aL HB⟩
   rw [if_neg c19] at H; have c19b0 : (x5_8 == 0) = false := beq_eq_false_iff_ne.mpr c19
   have c19b1 : (x5_8 != 0) = true := bne_iff_ne.mpr c19
   by_cases c22 : 0 ≤ a1
   rotate_left
   ·rw [if_neg c22] at H
    exact absurd H (by simp)
   rw [if_pos c22] at H; have c22b0 : decide (0 ≤ a1) = true := decide_eq_true c22
   clear c22; by_cases c23 : a1 < (l0.length : Int)
   rotate_left
   ·rw [if_neg c23] at H
    exact absurd H (by simp)
   rw [if_pos c23] at H; have c23b0 : decide (a1 < (l0.length : Int)) = true := decide_eq_true c23
   clear c23; replace H := Option.bind_eq_some_iff.mp H; obtain ⟨t187, A240, H⟩ := H; replace H : (if x5_8 < t187 then (some (65533, a1, x5_8)) else ((some (([0, 127, 31, 15, 7] : List Int) : List Int)).bind fun y189 => (if 0 ≤ x5_8 then (if x5_8 < (y189.length : Int) then (stanzaref01_One.l1 kj8 l0 a1 x5_8 (Go.bits .and .i32 (wrap32 (rd l0 a1)) (rd y189 x5_8)) 1) else (none)) else (none)))) = some (r1, r2, r3) := H
   have A24 := zA.mk A240; clear A240; by_cases c25 : x5_8 < t187
   ·rw [if_pos c25] at H
    have c25b0 : decide (x5_8 < t187) = true := decide_eq_true c25
    clear c25; simp only [Option.some.injEq, Prod.mk.injEq] at H; obtain ⟨rfl, rfl, rfl⟩ := H; have p186 : 0 ≤ (a1 : Int) := aD
    have q186 : a1 < (l0.length : Int) := aD
    obtain ⟨ad186, e186, hx186_0⟩ := Kd.at_int HR0.out a1 p186 q186; cases e186
    replace hx186_0 := (HB.out.cell (World.block_lt_of_cell? w _ hx186_0)).trans hx186_0; replace p186 := eq_true p186; replace q186 := eq_true q186; go_wp2_with (first | ((with_reducible refine gate_callee (f := 39) rfl ?_); refine goesL_ (some 49) rfl rfl Try.func39 (by kernel_rfl) rfl #[.int .u8 (rd l0 a1)] rfl aT ?_; (with_reducible refine (stanzaref01_length.calls kj8 (rd l0 a1) t187 _ A24.out).mono ?_); rintro e w' ⟨rfl, ⟨nd, rfl⟩⟩; refine ⟨_, rfl, ?_⟩; (try (rw [drewN_self wc]; generalize hq_ : World.drewN wc _ = wc; have n0_ : zA (wc.heap[gb183]? = some (.cells #[.int .i32 0, .int .i64 0, .int .i64 0] 50 (0, 0))) := ⟨by rw [← hq_]; exact (aB BK183)⟩; have n1_ : zA (Below w.heap.size w wc) := ⟨by rw [← hq_]; exact (aL HB)⟩; clear BK183 HB hq_; have BK183 := n0_; have HB := n1_; clear n0_ n1_)); obtain ⟨hcz26_0, hcz26_1, hcz26_2, hfz26_0, hfz26_1, hfz26_2⟩ := aC3 BK183) | ((with_reducible refine gate_store (t := 50) (p := 4) rfl ?_); refine store_event (t := 50) (p := 4) (v := ?vo_w27) (w1 := (((wc.setCell ⟨gb183, 0, none⟩ (.int .i32 65533)).setCell ⟨gb183, 1, none⟩ (.int .i64 a1)).setCell ⟨gb183, 2, none⟩ (.int .i64 x5_8))) ?hg ?ho ?hn ?hr ?_; (case ho => rfl); (case hg => rfl); (case hn => rfl); (case hr => first | (go_simp; done) | (go_simp; rfl)); intro w27 hw; have n0_ : zA (w27.heap[gb183]? = some (.cells #[.int .i32 65533, .int .i64 a1, .int .i64 x5_8] 50 (0, 0))) := ⟨(by rw [hw]; exact (by (with_reducible repeat (first | refine zC ?_ _ | refine zD ?_ | refine zB ?_ _)); refine blk_put (cs := #[.int .i32 65533, .int .i64 a1, .int .i64 0]) ?_ 2 _ rfl; (with_reducible repeat (first | refine zC ?_ _ | refine zD ?_ | refine zB ?_ _)); refine blk_put (cs := #[.int .i32 65533, .int .i64 0, .int .i64 0]) ?_ 1 _ rfl; (with_reducible repeat (first | refine zC ?_ _ | refine zD ?_ | refine zB ?_ _)); refine blk_put (cs := #[.int .i32 0, .int .i64 0, .int .i64 0]) ?_ 0 _ rfl; (with_reducible repeat (first | refine zC ?_ _ | refine zD ?_ | refine zB ?_ _)); exact BK183.out))⟩; have n1_ : zA (Below w.heap.size w w27) := ⟨(by rw [hw]; exact (aL HB))⟩; clear hw; clear BK183; clear HB; have BK183 := n0_; have HB := n1_; clear n0_ n1_))
    refine bodyPost_ret (results_cell_row rfl _ _ gb183 50 #[.int .i32 65533, .int .i64 a1, .int .i64 x5_8] (0, 0) _ rfl (aB BK183) Try.underlying50 rfl (by kernel_rfl)) rfl ?_
    exact ⟨aX, aL HB⟩
   rw [if_neg c25] at H; have c25b0 : decide (x5_8 < t187) = false := decide_eq_false c25
   clear c25; obtain ⟨y189, hy189⟩ : ∃ y_ : List Int, y_ = (([0, 127, 31, 15, 7] : List Int)) := ⟨_, rfl⟩; replace H : (if 0 ≤ x5_8 then (if x5_8 < (y189.length : Int) then (stanzaref01_One.l1 kj8 l0 a1 x5_8 (Go.bits .and .i32 (wrap32 (rd l0 a1)) (rd y189 x5_8)) 1) else (none)) else (none)) = some (r1, r2, r3) := by first | (rw [hy189]; with_reducible exact H) | (have H2_ := (Option.bind_some _ _).symm.trans H; rw [hy189]; with_reducible exact H2_) | (have H2_ := (Option.bind_some _ _).symm.trans H; with_reducible exact H2_) | with_reducible exact H | (rw [hy189]; exact H) | exact H
   have Ny189 := zA.mk hy189; clear hy189; by_cases c28 : 0 ≤ x5_8
   rotate_left
   ·rw [if_neg c28] at H
    exact absurd H (by simp)
   rw [if_pos c28] at H; have c28b0 : decide (0 ≤ x5_8) = true := decide_eq_true c28
   clear c28; by_cases c29 : x5_8 < (y189.length : Int)
   rotate_left
   ·rw [if_neg c29] at H
    exact absurd H (by simp)
   rw [if_pos c29] at H; have c29b0 : decide (x5_8 < (y189.length : Int)) = true := decide_eq_true c29
   clear c29; have H' := zA.mk H
   clear H; have p186 : 0 ≤ (a1 : Int) := aD
   have q186 : a1 < (l0.length : Int) := aD
   obtain ⟨ad186, e186, hx186_0⟩ := Kd.at_int HR0.out a1 p186 q186; cases e186
   replace hx186_0 := (HB.out.cell (World.block_lt_of_cell? w _ hx186_0)).trans hx186_0; replace p186 := eq_true p186; replace q186 := eq_true q186; go_wp2_with (first | ((with_reducible refine gate_callee (f := 39) rfl ?_); refine goesL_ (some 49) rfl rfl Try.func39 (by kernel_rfl) rfl #[.int .u8 (rd l0 a1)] rfl aT ?_; (with_reducible refine (stanzaref01_length.calls kj8 (rd l0 a1) t187 _ A24.out).mono ?_); rintro e w' ⟨rfl, ⟨nd, rfl⟩⟩; refine ⟨_, rfl, ?_⟩; have p188 : 0 ≤ (a1 : Int) := aD; have q188 : a1 < (l0.length : Int) := aD; obtain ⟨ad188, e188, hx188_0⟩ := Kd.at_int HR0.out a1 p188 q188; obtain rfl : ad186 = ad188 := (by injection e188); replace hx188_0 := (HB.out.cell (World.block_lt_of_cell? w _ hx188_0)).trans hx188_0; replace p188 := eq_true p188; replace q188 := eq_true q188) | ((with_reducible refine gate_dst (N := 59) rfl ?_); (try (refine gate_guard (by rfl) ?_; dsimp only)); refine Kd.R_lit (Kd.int .i32) _ 21 ?hg (N := 59) ?hd (xs := ([0, 127, 31, 15, 7] : List Int)) (inner := [.int .i32 0, .int .i32 127, .int .i32 31, .int .i32 15, .int .i32 7]) (ok := fun _ => True) (okp := fun _ => True) ?hr ?hp (fun _ hk => hk) trivial (Below.refl _ _) (Nat.le_refl _) (by simp) ?_; (case hd => rfl); (case hg => rfl); (case hr => first | (go_simp; done) | (go_simp; rfl)); (case hp => exact (Reps.one (show Kd.M (Kd.int .i32) _ _ _ 0 [.int .i32 0] from rfl) (Reps.one (show Kd.M (Kd.int .i32) _ _ _ 127 [.int .i32 127] from rfl) (Reps.one (show Kd.M (Kd.int .i32) _ _ _ 31 [.int .i32 31] from rfl) (Reps.one (show Kd.M (Kd.int .i32) _ _ _ 15 [.int .i32 15] from rfl) (Reps.one (show Kd.M (Kd.int .i32) _ _ _ 7 [.int .i32 7] from rfl) (Reps.none _ _))))))); intro v190 w30 ho31 hb hg_ hnew_; clear hg_ hnew_; (first | rw [← Ny189.out] at ho31 | (simp only [Int.reduceToNat] at ho31; rw [← Ny189.out] at ho31)); have HO191 := zA.mk (Kd.zP ho31 (below_size (aL HB))); replace BK183 := zA.mk (blk_below (aB BK183) hb); replace HB := zA.mk (below_step (aL HB) hb); clear hb ho31; obtain ⟨Ao32, co32, eo32⟩ := Kd.zO HO191.out; subst eo32; have p192 : 0 ≤ (x5_8 : Int) := aD; have q192 : x5_8 < (y189.length : Int) := aD; obtain ⟨ad192, e192, hx192_0⟩ := Kd.at_int (Kd.zL HO191.out).2.2 x5_8 p192 q192; cases e192; replace p192 := eq_true p192; replace q192 := eq_true q192))
   go_loopg [6, 8] kj8 (fun kq v6 v8 w' => ∃ (x6_3 : Int) (x8_3 : Int), v6 = .int .i32 x6_3 ∧ v8 = .int .i64 x8_3 ∧ zA (stanzaref01_One.l1 kq l0 a1 x5_8 x6_3 x8_3 = some (r1, r2, r3)) ∧ zA (kq ≤ kj8) ∧ zA (w'.heap[gb183]? = some (.cells #[.int .i32 0, .int .i64 0, .int .i64 0] 50 (0, 0))) ∧ zA (Below w.heap.size w w'))
   case atStart => exact ⟨(Go.bits .and .i32 (wrap32 (rd l0 a1)) (rd y189 x5_8)), (1), aZ, aZ, H', ⟨Nat.le_refl _⟩, ⟨aB BK183⟩, ⟨aL HB⟩⟩
   clear H'; obtain ⟨x6_3, x8_3, rfl, rfl, HA, HK3, BK183, HB⟩ := hrel; cases gk with
   | zero => exact absurd HA.out (by simp [stanzaref01_One.l1])
   | succ k3 =>
    have H := HA.out; clear HA; simp only [stanzaref01_One.l1] at H; by_cases c33 : x8_3 < x5_8
    ·rw [if_pos c33] at H
     have c33b0 : decide (x8_3 < x5_8) = true := decide_eq_true c33
     clear c33; obtain ⟨ji34, hji34⟩ : ∃ j_ : Int, (wrap64 (a1 + x8_3)) = j_ := ⟨_, rfl⟩; replace H : (if 0 ≤ (ji34) then (if (ji34) < (l0.length : Int) then (stanzaref01_One.l1 k3 l0 a1 x5_8 (wrap32 ((wrap32 ((wrap32 (x6_3 * 64)) + (wrap32 (rd l0 (ji34))))) - 128)) (wrap64 (x8_3 + 1))) else (none)) else (none)) = some (r1, r2, r3) := by first | (rw [hji34] at H; exact H) | (simp only [hji34] at H ⊢; exact H)
     have hji34w : (IntKind.i64.wrap (a1 + x8_3)) = ji34 := (i64_w _).trans hji34
     by_cases c35 : 0 ≤ (ji34)
     rotate_left
     ·rw [if_neg c35] at H
      exact absurd H (by simp)
     rw [if_pos c35] at H; have c35b0 : decide (0 ≤ (ji34)) = true := decide_eq_true c35
     clear c35; by_cases c36 : (ji34) < (l0.length : Int)
     rotate_left
     ·rw [if_neg c36] at H
      exact absurd H (by simp)
     rw [if_pos c36] at H; have c36b0 : decide ((ji34) < (l0.length : Int)) = true := decide_eq_true c36
     clear c36; have H' := zA.mk H
     clear H; have p193 : 0 ≤ ((ji34) : Int) := aD
     have q193 : (ji34) < (l0.length : Int) := aD
     obtain ⟨ad193, e193, hx193_0⟩ := Kd.at_int HR0.out (ji34) p193 q193; obtain rfl : ad186 = ad193 := (by injection e193)
     replace hx193_0 := (HB.out.cell (World.block_lt_of_cell? w _ hx193_0)).trans hx193_0; replace p193 := eq_true p193; replace q193 := eq_true q193; go_wp2
     go_roundg k3
     case measure => have := HJ2.out; have := HJ8.out; have := HK3.out; omega
     case rel => exact ⟨(wrap32 ((wrap32 ((wrap32 (x6_3 * 64)) + (wrap32 (rd l0 (ji34))))) - 128)), (wrap64 (x8_3 + 1)), (by first | rfl | (simp; done) | (simp only [← hji34] <;> (first | rfl | simp)) | (simp [*]; done)), aZ, H', ⟨by have := HJ2.out; have := HJ8.out; have := HK3.out; omega⟩, ⟨aB BK183⟩, ⟨aL HB⟩⟩
    rw [if_neg c33] at H; have c33b0 : decide (x8_3 < x5_8) = false := decide_eq_false c33
    clear c33; simp only [Option.some.injEq, Prod.mk.injEq] at H; obtain ⟨rfl, rfl, rfl⟩ := H; obtain ⟨hcz37_0, hcz37_1, hcz37_2, hfz37_0, hfz37_1, hfz37_2⟩ := aC3 BK183; go_wp2_with (first | ((with_reducible refine gate_store (t := 50) (p := 4) rfl ?_); refine store_event (t := 50) (p := 4) (v := ?vo_w38) (w1 := (((wr.setCell ⟨gb183, 0, none⟩ (.int .i32 x6_3)).setCell ⟨gb183, 1, none⟩ (.int .i64 a1)).setCell ⟨gb183, 2, none⟩ (.int .i64 x5_8))) ?hg ?ho ?hn ?hr ?_; (case ho => rfl); (case hg => rfl); (case hn => rfl); (case hr => first | (go_simp; done) | (go_simp; rfl)); intro w38 hw; have n0_ : zA (w38.heap[gb183]? = some (.cells #[.int .i32 x6_3, .int .i64 a1, .int .i64 x5_8] 50 (0, 0))) := ⟨(by rw [hw]; exact (by (with_reducible repeat (first | refine zC ?_ _ | refine zD ?_ | refine zB ?_ _)); refine blk_put (cs := #[.int .i32 x6_3, .int .i64 a1, .int .i64 0]) ?_ 2 _ rfl; (with_reducible repeat (first | refine zC ?_ _ | refine zD ?_ | refine zB ?_ _)); refine blk_put (cs := #[.int .i32 x6_3, .int .i64 0, .int .i64 0]) ?_ 1 _ rfl; (with_reducible repeat (first | refine zC ?_ _ | refine zD ?_ | refine zB ?_ _)); refine blk_put (cs := #[.int .i32 0, .int .i64 0, .int .i64 0]) ?_ 0 _ rfl; (with_reducible repeat (first | refine zC ?_ _ | refine zD ?_ | refine zB ?_ _)); exact BK183.out))⟩; have n1_ : zA (Below w.heap.size w w38) := ⟨(by rw [hw]; exact (aL HB))⟩; clear hw; clear BK183; clear HB; have BK183 := n0_; have HB := n1_; clear n0_ n1_))
    refine bodyPost_ret (results_cell_row rfl _ _ gb183 50 #[.int .i32 x6_3, .int .i64 a1, .int .i64 x5_8] (0, 0) _ rfl (aB BK183) Try.underlying50 rfl (by kernel_rfl)) rfl ?_
    exact ⟨aX, aL HB⟩
def stanzaref01_All.l0 : Nat → List Int → List (S50) → Int → Option ((List (S50)))
 | 0, _, _, _ => none
 | k + 1, x0, x3, x4 => if x4 < (x0.length : Int) then ((stanzaref01_One.f k x0 x4).bind fun bt194 => (if x3.length < 5864062014805 then (stanzaref01_All.l0 k x0 (x3 ++ [(⟨bt194.1, bt194.2.1, bt194.2.2⟩ : S50)]) (wrap64 (x4 + bt194.2.2))) else (none))) else (some x3)
def stanzaref01_All.f (k : Nat) (l0 : List Int) : Option ((List (S50))) := stanzaref01_All.l0 k l0 ([] : List (S50)) 0
theorem stanzaref01_All.mono_l : ∀ k, (∀ y0 y1 y2, LeO (stanzaref01_All.l0 k y0 y1 y2) (stanzaref01_All.l0 (k + 1) y0 y1 y2))
 | 0 => fun _ _ _ r h => by simp [stanzaref01_All.l0] at h
 | k + 1 => by
  have ih0 := stanzaref01_All.mono_l k
  ·intro y0 y1 y2
   unfold stanzaref01_All.l0
   repeat' (with_reducible first | exact ih0 _ _ _ | exact stanzaref01_One.mono _ _ _ | exact LeO.refl _ | exact LeO.none _ | refine LeO.ite ?_ ?_ | refine LeO.bind ?_ (fun _ => ?_))
theorem stanzaref01_All.mono : ∀ a0 k, LeO (stanzaref01_All.f k a0) (stanzaref01_All.f (k + 1) a0) := by
 intro a0 k
 have ih0 := stanzaref01_All.mono_l k; unfold stanzaref01_All.f
 repeat' (with_reducible first | exact ih0 _ _ _ | exact stanzaref01_One.mono _ _ _ | exact LeO.refl _ | exact LeO.none _ | refine LeO.ite ?_ ?_ | refine LeO.bind ?_ (fun _ => ?_))
set_option maxHeartbeats 8000000 in
set_option maxRecDepth 100000 in
theorem stanzaref01_All.calls (k : Nat) (A0 : Option Addr) (c0 : Nat) (l0 : List Int) (r : List (S50)) (w : World) (hr0 : Kd.C (Kd.int .u8) w A0 l0.length l0) (hc0 : l0.length ≤ c0) (h : stanzaref01_All.f k l0 = some r) :
  Calls Try.prog 16 #[.slice A0 l0.length c0] w fun e w' => ∃ v0_ : Value, e = .returned (v0_) ∧ Kd.R k50 50 w' w.heap.size (fun _ => True) v0_ r ∧ Below w.heap.size w w' := by
 have hu50 := Try.underlying50; have HR0 := zA.mk hr0; have HC0 := zA.mk hc0; clear hr0 hc0; have HB := zA.mk (Below.refl w.heap.size w); have H : (stanzaref01_All.l0 k l0 ([] : List (S50)) 0) = some r := h
 clear h; have H' := zA.mk H
 clear H; go_enter Try.func16, Try.ntmps16
 go_wp2
 go_loopg [3, 4] k (fun kq v3 v4 w' => ∃ (x3_1 : List (S50)) (x4_1 : Int), v4 = .int .i64 x4_1 ∧ zA (stanzaref01_All.l0 kq l0 x3_1 x4_1 = some r) ∧ zA (kq ≤ k) ∧ zA (Kd.R k50 50 w' w.heap.size (fun _ => True) v3 x3_1) ∧ zA (Below w.heap.size w w'))
 case atStart => exact ⟨(([] : List (S50))), (0), aZ, H', ⟨Nat.le_refl _⟩, ⟨by first | exact Kd.R_nil _ _ _ _ _ | exact Kd.N_nil _ _ _ _ _ | exact Kd.V_nil _ _ _ _ _ | exact Kd.Q_nil _ _ _ _ _ | exact Kd.S_nil _ _ _ _ _⟩, ⟨aL HB⟩⟩
 clear H'; obtain ⟨x3_1, x4_1, rfl, HA, HK1, HO_3, HB⟩ := hrel; cases gk with
 | zero => exact absurd HA.out (by simp [stanzaref01_All.l0])
 | succ k1 =>
  have H := HA.out; clear HA; simp only [stanzaref01_All.l0] at H; by_cases c2 : x4_1 < (l0.length : Int)
  rotate_left
  ·rw [if_neg c2] at H
   have c2b0 : decide (x4_1 < (l0.length : Int)) = false := decide_eq_false c2
   clear c2; obtain rfl := Option.some.inj H
   go_wp2
   go_ret
   exact ⟨_, aX, aR HO_3, aL HB⟩
  rw [if_pos c2] at H; have c2b0 : decide (x4_1 < (l0.length : Int)) = true := decide_eq_true c2
  clear c2; replace H := Option.bind_eq_some_iff.mp H; obtain ⟨⟨t194, t195, t196⟩, A30, H⟩ := H; replace H : (if x3_1.length < 5864062014805 then (stanzaref01_All.l0 k1 l0 (x3_1 ++ [(⟨t194, t195, t196⟩ : S50)]) (wrap64 (x4_1 + t196))) else (none)) = some r := H; have A3 := zA.mk A30; clear A30; by_cases c4 : x3_1.length < 5864062014805
  rotate_left
  ·rw [if_neg c4] at H
   exact absurd H (by simp)
  rw [if_pos c4] at H; have LMc4 := zA.mk c4; clear c4; obtain ⟨y198, hy198⟩ : ∃ y_ : List (S50), y_ = (x3_1 ++ [(⟨t194, t195, t196⟩ : S50)]) := ⟨_, rfl⟩; replace H : (stanzaref01_All.l0 k1 l0 y198 (wrap64 (x4_1 + t196))) = some r := by first | (rw [hy198]; with_reducible exact H) | (have H2_ := (Option.bind_some _ _).symm.trans H; rw [hy198]; with_reducible exact H2_) | (have H2_ := (Option.bind_some _ _).symm.trans H; with_reducible exact H2_) | with_reducible exact H | (rw [hy198]; exact H) | exact H
  have Ny198 := zA.mk hy198; clear hy198; have H' := zA.mk H
  clear H; go_wp2_with (first | ((with_reducible refine gate_callee (f := 35) rfl ?_); refine goesL_ (some 12) rfl rfl Try.func35 (by kernel_rfl) rfl #[.slice A0 l0.length c0, .int .i64 x4_1] rfl aT ?_; (with_reducible refine (stanzaref01_One.calls k1 _ _ l0 x4_1 t194 t195 t196 _ ?side1 ?side2 A3.out).mono ?_); (case side1 => exact aA HR0 HB); (case side2 => exact HC0.out); rintro e w5 ⟨rfl, hb⟩; refine ⟨_, rfl, ?_⟩; replace HO_3 := zA.mk (Kd.zM (aR HO_3) hb); replace HB := zA.mk (below_step (aL HB) hb); (try clear hb); (try clear hb2); (try clear hk); (try clear hi)) | ((with_reducible refine gate_dst (N := 5) rfl ?_); refine box_event ?hg (N := 5) ?hd (cs := #[.int .i32 0, .int .i64 0, .int .i64 0]) (t := 50) ?hr ?_; (case hd => rfl); (case hg => rfl); (case hr => first | (go_simp; done) | (go_simp; rfl)); intro gb197 hg w6 hbox hb; replace HO_3 := zA.mk (Kd.zM (Kd.R_elderB (aR HO_3) gb197 (Nat.le_of_eq hg.symm)) hb); have BK197 := zA.mk (hbox); have GW197 := zA.mk ((by rw [hg]; exact (below_size (aL HB)) : w.heap.size ≤ gb197)); replace HB := zA.mk (below_step (aL HB) hb); have GE197 := GW197; clear hb hbox hg; obtain ⟨hcz7_0, hcz7_1, hcz7_2, hfz7_0, hfz7_1, hfz7_2⟩ := aC3 BK197) | ((with_reducible refine gate_store (t := 50) (p := 5) rfl ?_); refine store_event (t := 50) (p := 5) (v := ?vo_w8) (w1 := (((w6.setCell ⟨gb197, 0, none⟩ (.int .i32 t194)).setCell ⟨gb197, 1, none⟩ (.int .i64 t195)).setCell ⟨gb197, 2, none⟩ (.int .i64 t196))) ?hg ?ho ?hn ?hr ?_; (case ho => rfl); (case hg => rfl); (case hn => rfl); (case hr => first | (go_simp; done) | (go_simp; rfl)); intro w8 hw; have n0_ : zA (Kd.R k50 50 w8 w.heap.size (fun k_ => k_ ≠ gb197) u3 x3_1) := ⟨(by rw [hw]; exact (by (with_reducible repeat (first | apply Kd.zE | apply Kd.zF | apply Kd.zG)); exact Kd.zQ (Kd.zN (p := ⟨gb197, 2, none⟩) (Kd.zN (p := ⟨gb197, 1, none⟩) (Kd.zN (p := ⟨gb197, 0, none⟩) (Kd.zQ HO_3.out (fun k_ hk => (⟨hk, hk.2⟩ : _ ∧ k_ ≠ gb197))) (fun _ hk => hk.2) (.int .i32 t194)) (fun _ hk => hk.2) (.int .i64 t195)) (fun _ hk => hk.2) (.int .i64 t196)) (fun _ hk => hk.1.2)))⟩; have n1_ : zA (w8.heap[gb197]? = some (.cells #[.int .i32 t194, .int .i64 t195, .int .i64 t196] 50 (0, 0))) := ⟨(by rw [hw]; exact (by (with_reducible repeat (first | refine zC ?_ _ | refine zD ?_ | refine zB ?_ _)); refine blk_put (cs := #[.int .i32 t194, .int .i64 t195, .int .i64 0]) ?_ 2 _ rfl; (with_reducible repeat (first | refine zC ?_ _ | refine zD ?_ | refine zB ?_ _)); refine blk_put (cs := #[.int .i32 t194, .int .i64 0, .int .i64 0]) ?_ 1 _ rfl; (with_reducible repeat (first | refine zC ?_ _ | refine zD ?_ | refine zB ?_ _)); refine blk_put (cs := #[.int .i32 0, .int .i64 0, .int .i64 0]) ?_ 0 _ rfl; (with_reducible repeat (first | refine zC ?_ _ | refine zD ?_ | refine zB ?_ _)); exact BK197.out))⟩; have n2_ : zA (Below w.heap.size w w8) := ⟨(by rw [hw]; exact (aL HB))⟩; clear hw; clear HO_3; clear BK197; clear HB; have HO_3 := n0_; have BK197 := n1_; have HB := n2_; clear n0_ n1_ n2_; obtain ⟨hcz9_0, hcz9_1, hcz9_2, hfz9_0, hfz9_1, hfz9_2⟩ := aC3 BK197) | ((with_reducible refine gate_builtin (b := .append) (xs := #[.tmp 13, .tmp 15]) rfl ?_); at_builtin; refine Kd.R_append k50 (w0 := w) w.heap.size rfl (.tmp 13) (.tmp 15) 32 50 (.agg #[(.int .i32 0), (.int .i64 0), (.int .i64 0)]) 24 rfl Try.underlying32 info50 rfl (by decide) (by omega) u3 x3_1 (⟨t194, t195, t196⟩ : S50) [.int .i32 t194, .int .i64 t195, .int .i64 t196] (fun k_ => k_ ≠ gb197) (fun _ => False) rfl rfl ?aP (fun _ hk => hk.elim) ?aF ?aO ?aB ?aS ?aL ?_; (case aP => exact k50_mkM _ _ _ (⟨t194, t195, t196⟩ : S50)); (case aB => exact (aL HB)); (case aF => exact (fun k_ hk => Kd.freshB (g := gb197) (o := .cells #[.int .i32 t194, .int .i64 t195, .int .i64 t196] 50 (0, 0)) (aB BK197) k_ hk)); (case aO => exact (aR HO_3)); (case aS => exact (below_size (aL HB))); (case aL => have := LMc4.out; omega); intro v199 w10 ho hb hg hat; rw [← Ny198.out] at ho; replace BK197 := zA.mk (blk_grown (g := gb197) (o := .cells #[.int .i32 t194, .int .i64 t195, .int .i64 t196] 50 (0, 0)) (aB BK197) hg (Kd.R_away HO_3.out (fun _ hk => hk))); replace HB := zA.mk (hb); have HO200 := zA.mk (ho); clear HO_3; clear ho hb hg hat; obtain ⟨hcz11_0, hcz11_1, hcz11_2, hfz11_0, hfz11_1, hfz11_2⟩ := aC3 BK197))
  go_roundg k1
  case measure => have := HK1.out; omega
  case rel => exact ⟨(y198), (wrap64 (x4_1 + t196)), aZ, H', ⟨by have := HK1.out; omega⟩, ⟨by (with_reducible repeat (first | apply Kd.zE | apply Kd.zF | apply Kd.zG)); exact Kd.zQ HO200.out (fun _ hk => trivial)⟩, ⟨aL HB⟩⟩
end Go.Proofs.Ytigajcipjklknaa.F
end
