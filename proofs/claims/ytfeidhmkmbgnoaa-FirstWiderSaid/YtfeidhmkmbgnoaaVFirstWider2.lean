/- Printed by a program: Lean functions that answer as the Go functions do, and the proofs of it. -/
import Derived.Test.YtfeidhmkmbgnoaaVFirstWider0
import Derived.Test.YtfeidhmkmbgnoaaVFirstWider1
section
namespace Go.Proofs.Ytfeidhmkmbgnoaa.F
open Go.RowKit Go.Proofs.YtfeidhmkmbgnoaaW.PrintWords Go.Proofs.YtfeidhmkmbgnoaaW.PrintLast Go.Proofs.YtfeidhmkmbgnoaaW.PrintMore
attribute [local go_sem] max2_int min2_int max_two min_two max_three min_three max_four min_four   -- for this text's walks alone
set_option linter.unusedVariables false
set_option linter.unusedSimpArgs false
def stanzalaw14_FirstWider.l0 : Nat → Int → List Int → Int → Int → List (S61) → List Int → Int → Int → Int → Int → Int → Nat → Option (Bool)
  | 0, _, _, _, _, _, _, _, _, _, _, _, _ => none
  | k + 1, x7, x22, x23, x24, x408000, x408001, x409000, x409001, x409002, x409003, x409004, x409005 => if x24 < x23 then (if 0 ≤ x24 then (if x24 < (x22.length : Int) then ((first_Break.f k x408000 x408001 x7 (rd x22 x24) x409000 x409001 x409002 x409003 x409004 x409005).bind fun t413 => (if x7 = (rd x22 x24) then (if (t413.length : Int) = 0 then (if x7 < (rd x22 x24) then (if (t413.length : Int) = 1 then (if 0 < (t413.length : Int) then (if ((rd_T45 t413 0).f0) = x7 then (if ((rd_T45 t413 0).f1) = (rd x22 x24) then (if ((rd_T45 t413 0).f3) = 2 then (stanzalaw14_FirstWider.l0 k (rd x22 x24) x22 x23 (wrap64 (x24 + 1)) x408000 x408001 x409000 x409001 x409002 x409003 x409004 x409005) else (some false)) else (some false)) else (some false)) else (none)) else (some false)) else (stanzalaw14_FirstWider.l0 k (rd x22 x24) x22 x23 (wrap64 (x24 + 1)) x408000 x408001 x409000 x409001 x409002 x409003 x409004 x409005)) else (some false)) else (if x7 < (rd x22 x24) then (if (t413.length : Int) = 1 then (if 0 < (t413.length : Int) then (if ((rd_T45 t413 0).f0) = x7 then (if ((rd_T45 t413 0).f1) = (rd x22 x24) then (if ((rd_T45 t413 0).f3) = 2 then (stanzalaw14_FirstWider.l0 k (rd x22 x24) x22 x23 (wrap64 (x24 + 1)) x408000 x408001 x409000 x409001 x409002 x409003 x409004 x409005) else (some false)) else (some false)) else (some false)) else (none)) else (some false)) else (stanzalaw14_FirstWider.l0 k (rd x22 x24) x22 x23 (wrap64 (x24 + 1)) x408000 x408001 x409000 x409001 x409002 x409003 x409004 x409005)))) else (none)) else (none)) else (some true)
def stanzalaw14_FirstWider.f (k : Nat) (l0 : List (S49)) (a1_0 : Int) (a1_1 : Int) (a1_2 : Int) (a1_3 : Int) (a1_4 : Int) (a1_5 : Nat) : Option (Bool) := (stanzalaw14_Awake.f k).bind fun t394 => (if t394 = true then (if (l0.length : Int) > 300 then (some true) else ((stanzahand03_Para.f k l0).bind fun bt395 => ((stanzahand03_Config.f a1_0 a1_1 a1_2 a1_3 a1_4 a1_5).bind fun bt401 => ((stanzaref10_Parts.f k bt395.1 bt395.2).bind fun t409 => (stanzalaw14_FirstWider.l0 k 0 t409 (t409.length : Int) 0 bt395.1 bt395.2 1048576 bt401.2.1 bt401.2.2.1 bt401.2.2.2.1 bt401.2.2.2.2.1 bt401.2.2.2.2.2))))) else (some false))
theorem stanzalaw14_FirstWider.mono_l : ∀ k, (∀ y0 y1 y2 y3 y4 y5 y6 y7 y8 y9 y10 y11, LeO (stanzalaw14_FirstWider.l0 k y0 y1 y2 y3 y4 y5 y6 y7 y8 y9 y10 y11) (stanzalaw14_FirstWider.l0 (k + 1) y0 y1 y2 y3 y4 y5 y6 y7 y8 y9 y10 y11))
  | 0 => fun _ _ _ _ _ _ _ _ _ _ _ _ r h => by simp [stanzalaw14_FirstWider.l0] at h
  | k + 1 => by
    have ih0 := stanzalaw14_FirstWider.mono_l k
    · intro y0 y1 y2 y3 y4 y5 y6 y7 y8 y9 y10 y11
      unfold stanzalaw14_FirstWider.l0
      repeat' first
      | (with_reducible exact ih0 _ _ _ _ _ _ _ _ _ _ _ _)
      | (with_reducible exact first_Break.mono _ _ _ _ _ _ _ _ _ _ _)
      | (with_reducible exact stanzahand03_Para.mono _ _)
      | (with_reducible exact stanzalaw14_Awake.mono _)
      | (with_reducible exact stanzaref10_Parts.mono _ _ _)
      | (with_reducible exact LeO.refl _)
      | (with_reducible exact LeO.none _)
      | (with_reducible refine LeO.ite ?_ ?_)
      | (with_reducible refine LeO.bind ?_ (fun _ => ?_))
      | exact ih0 _ _ _ _ _ _ _ _ _ _ _ _
      | exact first_Break.mono _ _ _ _ _ _ _ _ _ _ _
      | exact stanzahand03_Para.mono _ _
      | exact stanzalaw14_Awake.mono _
      | exact stanzaref10_Parts.mono _ _ _
      | exact LeO.none _
      | refine LeO.ite ?_ ?_
      | refine LeO.bind ?_ (fun _ => ?_)
theorem stanzalaw14_FirstWider.mono : ∀ a0 a1 a2 a3 a4 a5 a6 k, LeO (stanzalaw14_FirstWider.f k a0 a1 a2 a3 a4 a5 a6) (stanzalaw14_FirstWider.f (k + 1) a0 a1 a2 a3 a4 a5 a6) := by
  intro a0 a1 a2 a3 a4 a5 a6 k
  have ih0 := stanzalaw14_FirstWider.mono_l k; unfold stanzalaw14_FirstWider.f
  repeat' first
      | (with_reducible exact ih0 _ _ _ _ _ _ _ _ _ _ _ _)
      | (with_reducible exact first_Break.mono _ _ _ _ _ _ _ _ _ _ _)
      | (with_reducible exact stanzahand03_Para.mono _ _)
      | (with_reducible exact stanzalaw14_Awake.mono _)
      | (with_reducible exact stanzaref10_Parts.mono _ _ _)
      | (with_reducible exact LeO.refl _)
      | (with_reducible exact LeO.none _)
      | (with_reducible refine LeO.ite ?_ ?_)
      | (with_reducible refine LeO.bind ?_ (fun _ => ?_))
      | exact ih0 _ _ _ _ _ _ _ _ _ _ _ _
      | exact first_Break.mono _ _ _ _ _ _ _ _ _ _ _
      | exact stanzahand03_Para.mono _ _
      | exact stanzalaw14_Awake.mono _
      | exact stanzaref10_Parts.mono _ _ _
      | exact LeO.none _
      | refine LeO.ite ?_ ?_
      | refine LeO.bind ?_ (fun _ => ?_)
def stanzalaw14_FirstWider.T5 : Bool × List (List Nat × List Nat) := (true, [([], []), ([0], [0]), ([], []), ([2, 1], [2]), ([], []), ([], []), ([4, 1, 3, 0, 1, 4, 5], [1, 4]), ([5, 3, 6, 0, 1, 2, 3, 4, 5, 6], [3, 5])])
def stanzalaw14_FirstWider.B5 : List Nat := [0, 1, 0, 7, 0, 0, 63, 127]
theorem stanzalaw14_FirstWider.tab5 : rtab .any (opsOf Try.f5 5) = stanzalaw14_FirstWider.T5 := by kernel_rfl
theorem stanzalaw14_FirstWider.bits5 : waitsOk stanzalaw14_FirstWider.T5.2 stanzalaw14_FirstWider.B5 = true := by kernel_rfl
set_option maxHeartbeats 8000000 in
set_option maxRecDepth 100000 in
theorem stanzalaw14_FirstWider.calls (k : Nat) (A0 : Option Addr) (c0 : Nat) (l0 : List (S49)) (a1_0 : Int) (a1_1 : Int) (a1_2 : Int) (a1_3 : Int) (a1_4 : Int) (a1_5 : Nat) (r : Bool) (w : World) (hr0 : Kd.C k49 w A0 l0.length l0) (hc0 : l0.length ≤ c0) (h : stanzalaw14_FirstWider.f k l0 a1_0 a1_1 a1_2 a1_3 a1_4 a1_5 = some r) (hrt_ : zC (r = true)) :
    Calls Try.prog 5 #[.slice A0 l0.length c0, .agg #[.int .u8 a1_0, .int .u8 a1_1, .int .u8 a1_2, .int .u16 a1_3, .int .u16 a1_4, .float .f64 a1_5]] w fun e w' => e = .returned (.bool r) ∧ Below w.heap.size w w' := by
  have hu26 := Try.underlying26; have hu31 := Try.underlying31; have hu35 := Try.underlying35; have HR0 := zC.mk hr0; have HC0 := zC.mk hc0; clear hr0 hc0; have HB := zC.mk (Below.refl w.heap.size w); have H : ((stanzalaw14_Awake.f k).bind fun t394 => (if t394 = true then (if (l0.length : Int) > 300 then (some true) else ((stanzahand03_Para.f k l0).bind fun bt395 => ((stanzahand03_Config.f a1_0 a1_1 a1_2 a1_3 a1_4 a1_5).bind fun bt401 => ((stanzaref10_Parts.f k bt395.1 bt395.2).bind fun t409 => (stanzalaw14_FirstWider.l0 k 0 t409 (t409.length : Int) 0 bt395.1 bt395.2 1048576 bt401.2.1 bt401.2.2.1 bt401.2.2.2.1 bt401.2.2.2.2.1 bt401.2.2.2.2.2))))) else (some false))) = some r := h
  clear h; replace H := Option.bind_eq_some_iff.mp H; obtain ⟨t394, A30, H⟩ := H; replace H : (if t394 = true then (if (l0.length : Int) > 300 then (some true) else ((stanzahand03_Para.f k l0).bind fun bt395 => ((stanzahand03_Config.f a1_0 a1_1 a1_2 a1_3 a1_4 a1_5).bind fun bt401 => ((stanzaref10_Parts.f k bt395.1 bt395.2).bind fun t409 => (stanzalaw14_FirstWider.l0 k 0 t409 (t409.length : Int) 0 bt395.1 bt395.2 1048576 bt401.2.1 bt401.2.2.1 bt401.2.2.2.1 bt401.2.2.2.2.1 bt401.2.2.2.2.2))))) else (some false)) = some r := H
  have A3 := zC.mk A30; clear A30; by_cases c4 : t394 = true
  rotate_left
  · replace c4 := Bool.eq_false_iff.mpr c4
    subst c4; have H1 : (some false) = some r := by rw [if_neg (show ¬ (false = true) by decide)] at H; exact H
    clear H; have H := H1; clear H1; exact absurd ((Option.some.inj H).trans hrt_.out) (by decide)
  subst c4; have H1 : (if (l0.length : Int) > 300 then (some true) else ((stanzahand03_Para.f k l0).bind fun bt395 => ((stanzahand03_Config.f a1_0 a1_1 a1_2 a1_3 a1_4 a1_5).bind fun bt401 => ((stanzaref10_Parts.f k bt395.1 bt395.2).bind fun t409 => (stanzalaw14_FirstWider.l0 k 0 t409 (t409.length : Int) 0 bt395.1 bt395.2 1048576 bt401.2.1 bt401.2.2.1 bt401.2.2.2.1 bt401.2.2.2.2.1 bt401.2.2.2.2.2))))) = some r := by rw [if_pos rfl] at H; exact H
  clear H; have H := H1; clear H1; by_cases c5 : (l0.length : Int) > 300
  · rw [if_pos c5] at H
    have c5b0 : decide (300 < (l0.length : Int)) = true := decide_eq_true c5
    have c5b1 : decide (300 < l0.length) = true := decide_eq_true (by omega)
    clear c5; obtain rfl := Option.some.inj H
    go_enter Try.func5, Try.ntmps5
    go_wp2_with (first | ((with_reducible refine gate_dst (N := 3) rfl ?_); (try (refine gate_guard (by rfl) ?_; dsimp only)); refine box_event ?hg (N := 3) ?hd (cs := #[.int .u8 a1_0, .int .u8 a1_1, .int .u8 a1_2, .int .u16 a1_3, .int .u16 a1_4, .float .f64 a1_5]) (t := 26) ?hr ?_; (case hd => rfl); (case hg => rfl); (case hr => first | (go_simp; done) | (go_simp; rfl)); intro gb393 hg w6 hbox hb; have n0_ := zC.mk (below_step (by repeat (first | (with_reducible first | exact HB.out | apply zH | apply zF | apply zI) | exact HB.out)) hb); have n1_ := zC.mk (hbox); have n2_ := zC.mk ((by rw [hg]; exact (zK (by repeat (first | (with_reducible first | exact HB.out | apply zH | apply zF | apply zI) | exact HB.out))) : w.heap.size ≤ gb393)); have n3_ := zC.mk ((by rw [hg]; exact (zK (by repeat (first | (with_reducible first | exact HB.out | apply zH | apply zF | apply zI) | exact HB.out))) : w.heap.size ≤ gb393)); clear HB; have HB := n0_; have BK393 := n1_; have GW393 := n2_; have GE393 := n3_; clear n0_ n1_ n2_ n3_; clear hb hbox hg) | ((with_reducible refine gate_callee (f := 12) rfl ?_); refine goesL_ (some 11) rfl rfl Try.func12 (by kernel_rfl) rfl #[] rfl (by (try simp only [List.map_toArray, List.map_cons, List.map_nil]); first | done | rfl | (simp only [List.length_drop, List.length_take]; rfl)) ?_; (with_reducible refine (stanzalaw14_Awake.calls k  true _ A3.out (by first | exact ⟨rfl⟩ | exact hrt_)).mono ?_); rintro e w7 ⟨rfl, hb⟩; refine ⟨_, rfl, ?_⟩; have n0_ := zC.mk (zL (g := gb393) (o := .cells #[.int .u8 a1_0, .int .u8 a1_1, .int .u8 a1_2, .int .u16 a1_3, .int .u16 a1_4, .float .f64 a1_5] 26 (0, 0)) (by (with_reducible repeat (first | refine zA ?_ _ | refine zD ?_ | refine zB ?_ _)); exact BK393.out) hb); have n1_ := zC.mk (below_step (by repeat (first | (with_reducible first | exact HB.out | apply zH | apply zF | apply zI | refine zE ?_ GE393.out) | exact HB.out)) hb); clear BK393; clear HB; have BK393 := n0_; have HB := n1_; clear n0_ n1_; (try clear hb); (try clear hb2); (try clear hk); (try clear hi)))
    go_ret
    exact ⟨by first | rfl | (simp [errW_none, errW_some] <;> rfl) | (simp [*, errW_none, errW_some] <;> rfl), by repeat (first | (with_reducible first | exact HB.out | apply zH | apply zF | apply zI | refine zE ?_ GE393.out) | exact HB.out)⟩
  rw [if_neg c5] at H; have c5b0 : decide (300 < (l0.length : Int)) = false := decide_eq_false c5
  have c5b1 : decide (300 < l0.length) = false := decide_eq_false (by omega)
  clear c5; replace H := Option.bind_eq_some_iff.mp H; obtain ⟨⟨t395, t398⟩, A80, H⟩ := H; replace H : ((stanzahand03_Config.f a1_0 a1_1 a1_2 a1_3 a1_4 a1_5).bind fun bt401 => ((stanzaref10_Parts.f k t395 t398).bind fun t409 => (stanzalaw14_FirstWider.l0 k 0 t409 (t409.length : Int) 0 t395 t398 1048576 bt401.2.1 bt401.2.2.1 bt401.2.2.2.1 bt401.2.2.2.2.1 bt401.2.2.2.2.2))) = some r := H
  have A8 := zC.mk A80; clear A80; replace H := Option.bind_eq_some_iff.mp H; obtain ⟨⟨t401, t402, t403, t404, t405, t406⟩, A90, H⟩ := H; replace H : ((stanzaref10_Parts.f k t395 t398).bind fun t409 => (stanzalaw14_FirstWider.l0 k 0 t409 (t409.length : Int) 0 t395 t398 1048576 t402 t403 t404 t405 t406)) = some r := H
  have A9 := zC.mk A90; clear A90; replace H := Option.bind_eq_some_iff.mp H; obtain ⟨t409, A100, H⟩ := H; replace H : (stanzalaw14_FirstWider.l0 k 0 t409 (t409.length : Int) 0 t395 t398 1048576 t402 t403 t404 t405 t406) = some r := H; have A10 := zC.mk A100; clear A100; have H' := zC.mk H
  clear H; go_enter Try.func5, Try.ntmps5
  try go_wp2_with (first | ((with_reducible refine gate_dst (N := 3) rfl ?_); (try (refine gate_guard (by rfl) ?_; dsimp only)); refine box_event ?hg (N := 3) ?hd (cs := #[.int .u8 a1_0, .int .u8 a1_1, .int .u8 a1_2, .int .u16 a1_3, .int .u16 a1_4, .float .f64 a1_5]) (t := 26) ?hr ?_; (case hd => rfl); (case hg => rfl); (case hr => first | (go_simp; done) | (go_simp; rfl)); intro gb393 hg w11 hbox hb; have n0_ := zC.mk (below_step (by repeat (first | (with_reducible first | exact HB.out | apply zH | apply zF | apply zI) | exact HB.out)) hb); have n1_ := zC.mk (hbox); have n2_ := zC.mk ((by rw [hg]; exact (zK (by repeat (first | (with_reducible first | exact HB.out | apply zH | apply zF | apply zI) | exact HB.out))) : w.heap.size ≤ gb393)); have n3_ := zC.mk ((by rw [hg]; exact (zK (by repeat (first | (with_reducible first | exact HB.out | apply zH | apply zF | apply zI) | exact HB.out))) : w.heap.size ≤ gb393)); clear HB; have HB := n0_; have BK393 := n1_; have GW393 := n2_; have GE393 := n3_; clear n0_ n1_ n2_ n3_; clear hb hbox hg) | ((with_reducible refine gate_callee (f := 12) rfl ?_); refine goesL_ (some 11) rfl rfl Try.func12 (by kernel_rfl) rfl #[] rfl (by (try simp only [List.map_toArray, List.map_cons, List.map_nil]); first | done | rfl | (simp only [List.length_drop, List.length_take]; rfl)) ?_; (with_reducible refine (stanzalaw14_Awake.calls k  true _ A3.out (by first | exact ⟨rfl⟩ | exact hrt_)).mono ?_); rintro e w12 ⟨rfl, hb⟩; refine ⟨_, rfl, ?_⟩; have n0_ := zC.mk (zL (g := gb393) (o := .cells #[.int .u8 a1_0, .int .u8 a1_1, .int .u8 a1_2, .int .u16 a1_3, .int .u16 a1_4, .float .f64 a1_5] 26 (0, 0)) (by (with_reducible repeat (first | refine zA ?_ _ | refine zD ?_ | refine zB ?_ _)); exact BK393.out) hb); have n1_ := zC.mk (below_step (by repeat (first | (with_reducible first | exact HB.out | apply zH | apply zF | apply zI | refine zE ?_ GE393.out) | exact HB.out)) hb); clear BK393; clear HB; have BK393 := n0_; have HB := n1_; clear n0_ n1_; (try clear hb); (try clear hb2); (try clear hk); (try clear hi)))
  have n0_ := zC.mk (zD BK393.out); have n1_ := zC.mk (zI HB.out); clear BK393; clear HB; have BK393 := n0_; have HB := n1_; clear n0_ n1_; refine start_ (n := 8) (S := fun w' => w'.cell? ⟨gb393, 0, none⟩ = some (.int .u8 a1_0) ∧ w'.cell? ⟨gb393, 1, none⟩ = some (.int .u8 a1_1) ∧ w'.cell? ⟨gb393, 2, none⟩ = some (.int .u8 a1_2) ∧ w'.cell? ⟨gb393, 3, none⟩ = some (.int .u16 a1_3) ∧ w'.cell? ⟨gb393, 4, none⟩ = some (.int .u16 a1_4) ∧ w'.cell? ⟨gb393, 5, none⟩ = some (.float .f64 a1_5)) (ds := []) #[false, false, false, false, false, false, false, false] (by kernel_rfl) rfl rfl ⟨(zG BK393.out 0).trans rfl, (zG BK393.out 1).trans rfl, (zG BK393.out 2).trans rfl, (zG BK393.out 3).trans rfl, (zG BK393.out 4).trans rfl, (zG BK393.out 5).trans rfl⟩ (fun hHeld => ?_); refine with_tabW stanzalaw14_FirstWider.tab5 stanzalaw14_FirstWider.bits5 (fun HT_ HW_ => ?_)
  generalize w12.drew = w13 at BK393 HB hHeld ⊢
  refine pure_ (i := 0) (N := some 16) (v := ?_) (a' := ?_) (tf_ 1 8) rfl rfl (any_of HT_.out (by kernel_rfl)) (fun _ _ _ h => h) (Or.inl ⟨by rfl, ?_⟩) ?_ ?_
  rotate_left
  · intro w'
    go_simp
    with_reducible rfl
  rotate_left
  · simp only [Act.put, sA_, sB_, sC_, i64_w, i32_w]
    rfl
  refine take_ (i := 2) (N := some 18) (v := ?_) (a' := ?_) #[true, false, true, false, false, false, false, false] rfl rfl (take_ofW HT_.out HW_.out (by kernel_rfl)) (fun _ _ _ h => h) (Or.inl ⟨by rfl, ?_⟩) hHeld ?_ ?_
  rotate_left
  · rintro w' ⟨s0, s1, s2, s3, s4, s5⟩
    go_simp
    with_reducible rfl
  rotate_left
  · simp only [Act.put, sA_, sB_, sC_, i64_w, i32_w]
    rfl
  refine join_ (σ := Value × Value × Nat × Nat) 2 #[true, true, true, true, true, true, false, false] (fun s_ => [(17, .agg #[s_.1, s_.2.1]), (19, .agg #[.int .i64 t401, .int .i64 t402, .int .u8 t403, .int .i64 t404, .int .i64 t405, .float .f64 t406]), (5, .pointer (some ⟨s_.2.2.1, 0, none⟩)), (6, .pointer (some ⟨s_.2.2.2, 0, none⟩))]) (fun s_ w' => (w'.cell? ⟨gb393, 0, none⟩ = some (.int .u8 a1_0) ∧ w'.cell? ⟨gb393, 1, none⟩ = some (.int .u8 a1_1) ∧ w'.cell? ⟨gb393, 2, none⟩ = some (.int .u8 a1_2) ∧ w'.cell? ⟨gb393, 3, none⟩ = some (.int .u16 a1_3) ∧ w'.cell? ⟨gb393, 4, none⟩ = some (.int .u16 a1_4) ∧ w'.cell? ⟨gb393, 5, none⟩ = some (.float .f64 a1_5)) ∧ (Kd.R k61 61 w' w.heap.size (fun _ => True) s_.1 t395) ∧ (Kd.R (Kd.int .u8) 43 w' w.heap.size (fun _ => True) s_.2.1 t398) ∧ (w'.heap[gb393]? = some (.cells #[.int .u8 a1_0, .int .u8 a1_1, .int .u8 a1_2, .int .u16 a1_3, .int .u16 a1_4, .float .f64 a1_5] 26 (0, 0))) ∧ (w'.heap[s_.2.2.1]? = some (.cells #[.slice none 0 0, .slice none 0 0] 31 (0, 0))) ∧ (w'.heap[s_.2.2.2]? = some (.cells #[.int .i64 0, .int .i64 0, .int .u8 0, .int .i64 0, .int .i64 0, .float .f64 0] 35 (0, 0))) ∧ (w.heap.size ≤ s_.2.2.1) ∧ (w.heap.size ≤ s_.2.2.1) ∧ (gb393 ≠ s_.2.2.1) ∧ (s_.2.2.1 ≠ gb393) ∧ (s_.2.2.2 ≠ s_.2.2.1) ∧ (s_.2.2.1 ≠ s_.2.2.2) ∧ (w.heap.size ≤ s_.2.2.2) ∧ (w.heap.size ≤ s_.2.2.2) ∧ (gb393 ≠ s_.2.2.2) ∧ (s_.2.2.2 ≠ gb393) ∧ (Below w.heap.size w w')) ?_ ?_
  rotate_left
  · intro hJ1_3_4_5
    refine join_ (σ := Value × Value × Nat) 3 #[true, true, true, true, true, false, false, false] (fun s_ => [(17, .agg #[s_.1, s_.2.1]), (19, .agg #[.int .i64 t401, .int .i64 t402, .int .u8 t403, .int .i64 t404, .int .i64 t405, .float .f64 t406]), (5, .pointer (some ⟨s_.2.2, 0, none⟩))]) (fun s_ w' => (w'.cell? ⟨gb393, 0, none⟩ = some (.int .u8 a1_0) ∧ w'.cell? ⟨gb393, 1, none⟩ = some (.int .u8 a1_1) ∧ w'.cell? ⟨gb393, 2, none⟩ = some (.int .u8 a1_2) ∧ w'.cell? ⟨gb393, 3, none⟩ = some (.int .u16 a1_3) ∧ w'.cell? ⟨gb393, 4, none⟩ = some (.int .u16 a1_4) ∧ w'.cell? ⟨gb393, 5, none⟩ = some (.float .f64 a1_5)) ∧ (Kd.R k61 61 w' w.heap.size (fun _ => True) s_.1 t395) ∧ (Kd.R (Kd.int .u8) 43 w' w.heap.size (fun _ => True) s_.2.1 t398) ∧ (w'.heap[gb393]? = some (.cells #[.int .u8 a1_0, .int .u8 a1_1, .int .u8 a1_2, .int .u16 a1_3, .int .u16 a1_4, .float .f64 a1_5] 26 (0, 0))) ∧ (w'.heap[s_.2.2]? = some (.cells #[.slice none 0 0, .slice none 0 0] 31 (0, 0))) ∧ (w.heap.size ≤ s_.2.2) ∧ (w.heap.size ≤ s_.2.2) ∧ (gb393 ≠ s_.2.2) ∧ (s_.2.2 ≠ gb393) ∧ (Below w.heap.size w w')) ?_ ?_
    rotate_left
    · intro hJ1_3_4
      refine join_ (σ := Value × Value × Nat) 3 #[true, true, true, true, false, true, false, false] (fun s_ => [(17, .agg #[s_.1, s_.2.1]), (19, .agg #[.int .i64 t401, .int .i64 t402, .int .u8 t403, .int .i64 t404, .int .i64 t405, .float .f64 t406]), (6, .pointer (some ⟨s_.2.2, 0, none⟩))]) (fun s_ w' => (w'.cell? ⟨gb393, 0, none⟩ = some (.int .u8 a1_0) ∧ w'.cell? ⟨gb393, 1, none⟩ = some (.int .u8 a1_1) ∧ w'.cell? ⟨gb393, 2, none⟩ = some (.int .u8 a1_2) ∧ w'.cell? ⟨gb393, 3, none⟩ = some (.int .u16 a1_3) ∧ w'.cell? ⟨gb393, 4, none⟩ = some (.int .u16 a1_4) ∧ w'.cell? ⟨gb393, 5, none⟩ = some (.float .f64 a1_5)) ∧ (Kd.R k61 61 w' w.heap.size (fun _ => True) s_.1 t395) ∧ (Kd.R (Kd.int .u8) 43 w' w.heap.size (fun _ => True) s_.2.1 t398) ∧ (w'.heap[gb393]? = some (.cells #[.int .u8 a1_0, .int .u8 a1_1, .int .u8 a1_2, .int .u16 a1_3, .int .u16 a1_4, .float .f64 a1_5] 26 (0, 0))) ∧ (w'.heap[s_.2.2]? = some (.cells #[.int .i64 0, .int .i64 0, .int .u8 0, .int .i64 0, .int .i64 0, .float .f64 0] 35 (0, 0))) ∧ (w.heap.size ≤ s_.2.2) ∧ (w.heap.size ≤ s_.2.2) ∧ (gb393 ≠ s_.2.2) ∧ (s_.2.2 ≠ gb393) ∧ (Below w.heap.size w w')) ?_ ?_
      rotate_left
      · intro hJ1_3_5
        refine join_ (σ := Value × Value × Nat × Nat) 3 #[true, true, true, false, true, true, false, false] (fun s_ => [(17, .agg #[s_.1, s_.2.1]), (5, .pointer (some ⟨s_.2.2.1, 0, none⟩)), (6, .pointer (some ⟨s_.2.2.2, 0, none⟩))]) (fun s_ w' => (w'.cell? ⟨gb393, 0, none⟩ = some (.int .u8 a1_0) ∧ w'.cell? ⟨gb393, 1, none⟩ = some (.int .u8 a1_1) ∧ w'.cell? ⟨gb393, 2, none⟩ = some (.int .u8 a1_2) ∧ w'.cell? ⟨gb393, 3, none⟩ = some (.int .u16 a1_3) ∧ w'.cell? ⟨gb393, 4, none⟩ = some (.int .u16 a1_4) ∧ w'.cell? ⟨gb393, 5, none⟩ = some (.float .f64 a1_5)) ∧ (Kd.R k61 61 w' w.heap.size (fun _ => True) s_.1 t395) ∧ (Kd.R (Kd.int .u8) 43 w' w.heap.size (fun _ => True) s_.2.1 t398) ∧ (w'.heap[gb393]? = some (.cells #[.int .u8 a1_0, .int .u8 a1_1, .int .u8 a1_2, .int .u16 a1_3, .int .u16 a1_4, .float .f64 a1_5] 26 (0, 0))) ∧ (w'.heap[s_.2.2.1]? = some (.cells #[.slice none 0 0, .slice none 0 0] 31 (0, 0))) ∧ (w'.heap[s_.2.2.2]? = some (.cells #[.int .i64 0, .int .i64 0, .int .u8 0, .int .i64 0, .int .i64 0, .float .f64 0] 35 (0, 0))) ∧ (w.heap.size ≤ s_.2.2.1) ∧ (w.heap.size ≤ s_.2.2.1) ∧ (gb393 ≠ s_.2.2.1) ∧ (s_.2.2.1 ≠ gb393) ∧ (s_.2.2.2 ≠ s_.2.2.1) ∧ (s_.2.2.1 ≠ s_.2.2.2) ∧ (w.heap.size ≤ s_.2.2.2) ∧ (w.heap.size ≤ s_.2.2.2) ∧ (gb393 ≠ s_.2.2.2) ∧ (s_.2.2.2 ≠ gb393) ∧ (Below w.heap.size w w')) ?_ ?_
        rotate_left
        · intro hJ1_4_5
          refine join_ (σ := Value × Value) 4 #[true, true, true, true, false, false, false, false] (fun s_ => [(17, .agg #[s_.1, s_.2]), (19, .agg #[.int .i64 t401, .int .i64 t402, .int .u8 t403, .int .i64 t404, .int .i64 t405, .float .f64 t406])]) (fun s_ w' => (w'.cell? ⟨gb393, 0, none⟩ = some (.int .u8 a1_0) ∧ w'.cell? ⟨gb393, 1, none⟩ = some (.int .u8 a1_1) ∧ w'.cell? ⟨gb393, 2, none⟩ = some (.int .u8 a1_2) ∧ w'.cell? ⟨gb393, 3, none⟩ = some (.int .u16 a1_3) ∧ w'.cell? ⟨gb393, 4, none⟩ = some (.int .u16 a1_4) ∧ w'.cell? ⟨gb393, 5, none⟩ = some (.float .f64 a1_5)) ∧ (Kd.R k61 61 w' w.heap.size (fun _ => True) s_.1 t395) ∧ (Kd.R (Kd.int .u8) 43 w' w.heap.size (fun _ => True) s_.2 t398) ∧ (w'.heap[gb393]? = some (.cells #[.int .u8 a1_0, .int .u8 a1_1, .int .u8 a1_2, .int .u16 a1_3, .int .u16 a1_4, .float .f64 a1_5] 26 (0, 0))) ∧ (Below w.heap.size w w')) ?_ ?_
          rotate_left
          · intro hJ1_3
            refine join_ (σ := Value × Value × Nat) 4 #[true, true, true, false, true, false, false, false] (fun s_ => [(17, .agg #[s_.1, s_.2.1]), (5, .pointer (some ⟨s_.2.2, 0, none⟩))]) (fun s_ w' => (w'.cell? ⟨gb393, 0, none⟩ = some (.int .u8 a1_0) ∧ w'.cell? ⟨gb393, 1, none⟩ = some (.int .u8 a1_1) ∧ w'.cell? ⟨gb393, 2, none⟩ = some (.int .u8 a1_2) ∧ w'.cell? ⟨gb393, 3, none⟩ = some (.int .u16 a1_3) ∧ w'.cell? ⟨gb393, 4, none⟩ = some (.int .u16 a1_4) ∧ w'.cell? ⟨gb393, 5, none⟩ = some (.float .f64 a1_5)) ∧ (Kd.R k61 61 w' w.heap.size (fun _ => True) s_.1 t395) ∧ (Kd.R (Kd.int .u8) 43 w' w.heap.size (fun _ => True) s_.2.1 t398) ∧ (w'.heap[gb393]? = some (.cells #[.int .u8 a1_0, .int .u8 a1_1, .int .u8 a1_2, .int .u16 a1_3, .int .u16 a1_4, .float .f64 a1_5] 26 (0, 0))) ∧ (w'.heap[s_.2.2]? = some (.cells #[.slice none 0 0, .slice none 0 0] 31 (0, 0))) ∧ (w.heap.size ≤ s_.2.2) ∧ (w.heap.size ≤ s_.2.2) ∧ (gb393 ≠ s_.2.2) ∧ (s_.2.2 ≠ gb393) ∧ (Below w.heap.size w w')) ?_ ?_
            rotate_left
            · intro hJ1_4
              refine join_ (σ := Value × Value × Nat) 4 #[true, true, true, false, false, true, false, false] (fun s_ => [(17, .agg #[s_.1, s_.2.1]), (6, .pointer (some ⟨s_.2.2, 0, none⟩))]) (fun s_ w' => (w'.cell? ⟨gb393, 0, none⟩ = some (.int .u8 a1_0) ∧ w'.cell? ⟨gb393, 1, none⟩ = some (.int .u8 a1_1) ∧ w'.cell? ⟨gb393, 2, none⟩ = some (.int .u8 a1_2) ∧ w'.cell? ⟨gb393, 3, none⟩ = some (.int .u16 a1_3) ∧ w'.cell? ⟨gb393, 4, none⟩ = some (.int .u16 a1_4) ∧ w'.cell? ⟨gb393, 5, none⟩ = some (.float .f64 a1_5)) ∧ (Kd.R k61 61 w' w.heap.size (fun _ => True) s_.1 t395) ∧ (Kd.R (Kd.int .u8) 43 w' w.heap.size (fun _ => True) s_.2.1 t398) ∧ (w'.heap[gb393]? = some (.cells #[.int .u8 a1_0, .int .u8 a1_1, .int .u8 a1_2, .int .u16 a1_3, .int .u16 a1_4, .float .f64 a1_5] 26 (0, 0))) ∧ (w'.heap[s_.2.2]? = some (.cells #[.int .i64 0, .int .i64 0, .int .u8 0, .int .i64 0, .int .i64 0, .float .f64 0] 35 (0, 0))) ∧ (w.heap.size ≤ s_.2.2) ∧ (w.heap.size ≤ s_.2.2) ∧ (gb393 ≠ s_.2.2) ∧ (s_.2.2 ≠ gb393) ∧ (Below w.heap.size w w')) ?_ ?_
              rotate_left
              · intro hJ1_5
                refine join_ (σ := Nat × Nat) 4 #[true, false, true, false, true, true, false, false] (fun s_ => [(5, .pointer (some ⟨s_.1, 0, none⟩)), (6, .pointer (some ⟨s_.2, 0, none⟩))]) (fun s_ w' => (w'.cell? ⟨gb393, 0, none⟩ = some (.int .u8 a1_0) ∧ w'.cell? ⟨gb393, 1, none⟩ = some (.int .u8 a1_1) ∧ w'.cell? ⟨gb393, 2, none⟩ = some (.int .u8 a1_2) ∧ w'.cell? ⟨gb393, 3, none⟩ = some (.int .u16 a1_3) ∧ w'.cell? ⟨gb393, 4, none⟩ = some (.int .u16 a1_4) ∧ w'.cell? ⟨gb393, 5, none⟩ = some (.float .f64 a1_5)) ∧ (w'.heap[gb393]? = some (.cells #[.int .u8 a1_0, .int .u8 a1_1, .int .u8 a1_2, .int .u16 a1_3, .int .u16 a1_4, .float .f64 a1_5] 26 (0, 0))) ∧ (w'.heap[s_.1]? = some (.cells #[.slice none 0 0, .slice none 0 0] 31 (0, 0))) ∧ (w'.heap[s_.2]? = some (.cells #[.int .i64 0, .int .i64 0, .int .u8 0, .int .i64 0, .int .i64 0, .float .f64 0] 35 (0, 0))) ∧ (w.heap.size ≤ s_.1) ∧ (w.heap.size ≤ s_.1) ∧ (gb393 ≠ s_.1) ∧ (s_.1 ≠ gb393) ∧ (s_.2 ≠ s_.1) ∧ (s_.1 ≠ s_.2) ∧ (w.heap.size ≤ s_.2) ∧ (w.heap.size ≤ s_.2) ∧ (gb393 ≠ s_.2) ∧ (s_.2 ≠ gb393) ∧ (Below w.heap.size w w')) ?_ ?_
                rotate_left
                · intro hJ4_5
                  refine join_ (σ := Value × Value) 5 #[true, true, true, false, false, false, false, false] (fun s_ => [(17, .agg #[s_.1, s_.2])]) (fun s_ w' => (w'.cell? ⟨gb393, 0, none⟩ = some (.int .u8 a1_0) ∧ w'.cell? ⟨gb393, 1, none⟩ = some (.int .u8 a1_1) ∧ w'.cell? ⟨gb393, 2, none⟩ = some (.int .u8 a1_2) ∧ w'.cell? ⟨gb393, 3, none⟩ = some (.int .u16 a1_3) ∧ w'.cell? ⟨gb393, 4, none⟩ = some (.int .u16 a1_4) ∧ w'.cell? ⟨gb393, 5, none⟩ = some (.float .f64 a1_5)) ∧ (Kd.R k61 61 w' w.heap.size (fun _ => True) s_.1 t395) ∧ (Kd.R (Kd.int .u8) 43 w' w.heap.size (fun _ => True) s_.2 t398) ∧ (w'.heap[gb393]? = some (.cells #[.int .u8 a1_0, .int .u8 a1_1, .int .u8 a1_2, .int .u16 a1_3, .int .u16 a1_4, .float .f64 a1_5] 26 (0, 0))) ∧ (Below w.heap.size w w')) ?_ ?_
                  rotate_left
                  · intro hJ1
                    refine join_ (σ := Nat) 5 #[true, false, true, false, true, false, false, false] (fun s_ => [(5, .pointer (some ⟨s_, 0, none⟩))]) (fun s_ w' => (w'.cell? ⟨gb393, 0, none⟩ = some (.int .u8 a1_0) ∧ w'.cell? ⟨gb393, 1, none⟩ = some (.int .u8 a1_1) ∧ w'.cell? ⟨gb393, 2, none⟩ = some (.int .u8 a1_2) ∧ w'.cell? ⟨gb393, 3, none⟩ = some (.int .u16 a1_3) ∧ w'.cell? ⟨gb393, 4, none⟩ = some (.int .u16 a1_4) ∧ w'.cell? ⟨gb393, 5, none⟩ = some (.float .f64 a1_5)) ∧ (w'.heap[gb393]? = some (.cells #[.int .u8 a1_0, .int .u8 a1_1, .int .u8 a1_2, .int .u16 a1_3, .int .u16 a1_4, .float .f64 a1_5] 26 (0, 0))) ∧ (w'.heap[s_]? = some (.cells #[.slice none 0 0, .slice none 0 0] 31 (0, 0))) ∧ (w.heap.size ≤ s_) ∧ (w.heap.size ≤ s_) ∧ (gb393 ≠ s_) ∧ (s_ ≠ gb393) ∧ (Below w.heap.size w w')) ?_ ?_
                    rotate_left
                    · intro hJ4
                      refine join_ (σ := Nat) 5 #[true, false, true, false, false, true, false, false] (fun s_ => [(6, .pointer (some ⟨s_, 0, none⟩))]) (fun s_ w' => (w'.cell? ⟨gb393, 0, none⟩ = some (.int .u8 a1_0) ∧ w'.cell? ⟨gb393, 1, none⟩ = some (.int .u8 a1_1) ∧ w'.cell? ⟨gb393, 2, none⟩ = some (.int .u8 a1_2) ∧ w'.cell? ⟨gb393, 3, none⟩ = some (.int .u16 a1_3) ∧ w'.cell? ⟨gb393, 4, none⟩ = some (.int .u16 a1_4) ∧ w'.cell? ⟨gb393, 5, none⟩ = some (.float .f64 a1_5)) ∧ (w'.heap[gb393]? = some (.cells #[.int .u8 a1_0, .int .u8 a1_1, .int .u8 a1_2, .int .u16 a1_3, .int .u16 a1_4, .float .f64 a1_5] 26 (0, 0))) ∧ (w'.heap[s_]? = some (.cells #[.int .i64 0, .int .i64 0, .int .u8 0, .int .i64 0, .int .i64 0, .float .f64 0] 35 (0, 0))) ∧ (w.heap.size ≤ s_) ∧ (w.heap.size ≤ s_) ∧ (gb393 ≠ s_) ∧ (s_ ≠ gb393) ∧ (Below w.heap.size w w')) ?_ ?_
                      rotate_left
                      · intro hJ5
                        refine three_ (i := 1) (j := 4) (k := 5) (Ni := some 17) (Nj := some 5) (Nk := some 6) #[true, true, true, false, false, false, false, false] #[true, false, true, false, true, false, false, false] #[true, false, true, false, false, true, false, false] rfl rfl rfl rfl rfl rfl (three_of HT_.out (by kernel_rfl)) (by decide) (by decide) (by decide) (fun K hK => ?_) (fun K hK => ?_) (fun K hK => ?_)
                        · skip
                          refine goes_ Try.func13 (by kernel_rfl) rfl #[.slice A0 l0.length c0] (by rfl) rfl rfl (by (try simp only [List.map_toArray, List.map_cons, List.map_nil]); first | done | rfl | (simp only [List.length_drop, List.length_take]; rfl)) ?_
                          with_reducible refine (stanzahand03_Para.calls k _ _ l0 t395 t398 _ ?side1 ?side2 A8.out).mono ?_
                          (case side1 => repeat (first | exact (Kd.C_below HR0.out HB.out) | (with_reducible refine Kd.C_alloc ?_ _) | (with_reducible refine Kd.C_drewN ?_ _) | (with_reducible refine Kd.C_drew ?_)))
                          (case side2 => exact HC0.out)
                          rintro e w14 ⟨v396, v399, rfl, ho0, ho1, hb⟩
                          refine ⟨_, rfl, ?_⟩
                          have n0_ := zC.mk (Kd.R_lower ho0 (zK (by repeat (first | (with_reducible first | exact HB.out | apply zH | apply zF | apply zI | refine zE ?_ GE393.out) | exact HB.out))))
                          have n1_ := zC.mk (Kd.R_lower ho1 (zK (by repeat (first | (with_reducible first | exact HB.out | apply zH | apply zF | apply zI | refine zE ?_ GE393.out) | exact HB.out))))
                          have n2_ := zC.mk (zL (g := gb393) (o := .cells #[.int .u8 a1_0, .int .u8 a1_1, .int .u8 a1_2, .int .u16 a1_3, .int .u16 a1_4, .float .f64 a1_5] 26 (0, 0)) (by (with_reducible repeat (first | refine zA ?_ _ | refine zD ?_ | refine zB ?_ _)); exact BK393.out) hb)
                          have n3_ := zC.mk (below_step (by repeat (first | (with_reducible first | exact HB.out | apply zH | apply zF | apply zI | refine zE ?_ GE393.out) | exact HB.out)) hb)
                          clear BK393 HB; have HO397 := n0_; have HO400 := n1_; have BK393 := n2_; have HB := n3_; clear n0_ n1_ n2_ n3_; (try clear hb)
                          (try clear hb2)
                          (try clear hk)
                          (try clear hi)
                          (try clear ho0)
                          (try clear ho1)
                          refine hK.out _ _ ⟨(zG BK393.out 0).trans rfl, (zG BK393.out 1).trans rfl, (zG BK393.out 2).trans rfl, (zG BK393.out 3).trans rfl, (zG BK393.out 4).trans rfl, (zG BK393.out 5).trans rfl⟩ (fun hHeld => ?_)
                          clear hK K; refine norm_ (a' := ?_) ?_ ?_
                          rotate_left
                          · show Act.put _ (some 17) _ = _
                            simp only [Act.put, sA_, sB_, sC_, i64_w, i32_w]; rfl
                          exact norm_ (by first | (simp only [putAll, Act.put, sA_, sB_, sC_]; done) | (simp only [putAll, Act.put, sA_, sB_, sC_]; rfl)) (hJ1 (v396, v399) _ ⟨hHeld, (by (with_reducible repeat (first | apply Kd.R_alloc | apply Kd.R_drewN | apply Kd.R_drew)); exact HO397.out), (by (with_reducible repeat (first | apply Kd.R_alloc | apply Kd.R_drewN | apply Kd.R_drew)); exact HO400.out), (by (with_reducible repeat (first | refine zA ?_ _ | refine zD ?_ | refine zB ?_ _)); exact BK393.out), (by repeat (first | (with_reducible first | exact HB.out | apply zH | apply zF | apply zI | refine zE ?_ GE393.out) | exact HB.out))⟩)
                        · skip
                          refine box_step ?hg (N := 5) ?hd (cs := #[.slice none 0 0, .slice none 0 0]) (t := 31) ?hr ?_; (case hd => rfl); (case hg => rfl); (case hr => first | (go_simp; done) | (go_simp; rfl))
                          intro gb407 hg w14 hbox hb
                          have n0_ := zC.mk (zL (g := gb393) (o := .cells #[.int .u8 a1_0, .int .u8 a1_1, .int .u8 a1_2, .int .u16 a1_3, .int .u16 a1_4, .float .f64 a1_5] 26 (0, 0)) (by (with_reducible repeat (first | refine zA ?_ _ | refine zD ?_ | refine zB ?_ _)); exact BK393.out) hb)
                          have n1_ := zC.mk (below_step (by repeat (first | (with_reducible first | exact HB.out | apply zH | apply zF | apply zI | refine zE ?_ GE393.out) | exact HB.out)) hb)
                          have n2_ := zC.mk (hbox); have n3_ := zC.mk ((by rw [hg]; exact (zK (by repeat (first | (with_reducible first | exact HB.out | apply zH | apply zF | apply zI | refine zE ?_ GE393.out) | exact HB.out))) : w.heap.size ≤ gb407))
                          have n4_ := zC.mk ((by rw [hg]; exact (zK (by repeat (first | (with_reducible first | exact HB.out | apply zH | apply zF | apply zI | refine zE ?_ GE393.out) | exact HB.out))) : w.heap.size ≤ gb407))
                          have n5_ := zC.mk ((by rw [hg]; exact Nat.ne_of_lt (blk_lt (g := gb393) (o := .cells #[.int .u8 a1_0, .int .u8 a1_1, .int .u8 a1_2, .int .u16 a1_3, .int .u16 a1_4, .float .f64 a1_5] 26 (0, 0)) (by (with_reducible repeat (first | refine zA ?_ _ | refine zD ?_ | refine zB ?_ _)); exact BK393.out)) : gb393 ≠ gb407))
                          have n6_ := zC.mk ((by rw [hg]; exact Nat.ne_of_gt (blk_lt (g := gb393) (o := .cells #[.int .u8 a1_0, .int .u8 a1_1, .int .u8 a1_2, .int .u16 a1_3, .int .u16 a1_4, .float .f64 a1_5] 26 (0, 0)) (by (with_reducible repeat (first | refine zA ?_ _ | refine zD ?_ | refine zB ?_ _)); exact BK393.out)) : gb407 ≠ gb393))
                          clear BK393 HB; have BK393 := n0_; have HB := n1_; have BK407 := n2_; have GW407 := n3_; have GE407 := n4_; have NB393_407 := n5_; have NB407_393 := n6_; clear n0_ n1_ n2_ n3_ n4_ n5_ n6_; clear hb hbox hg; refine hK.out _ _ ⟨(zG BK393.out 0).trans rfl, (zG BK393.out 1).trans rfl, (zG BK393.out 2).trans rfl, (zG BK393.out 3).trans rfl, (zG BK393.out 4).trans rfl, (zG BK393.out 5).trans rfl⟩ (fun hHeld => ?_)
                          clear hK K; refine norm_ (a' := ?_) ?_ ?_
                          rotate_left
                          · show Act.put _ (some 5) _ = _
                            simp only [Act.put, sA_, sB_, sC_, i64_w, i32_w]; rfl
                          exact norm_ (by first | (simp only [putAll, Act.put, sA_, sB_, sC_]; done) | (simp only [putAll, Act.put, sA_, sB_, sC_]; rfl)) (hJ4 (gb407) _ ⟨hHeld, (by (with_reducible repeat (first | refine zA ?_ _ | refine zD ?_ | refine zB ?_ _)); exact BK393.out), (by (with_reducible repeat (first | refine zA ?_ _ | refine zD ?_ | refine zB ?_ _)); exact BK407.out), GW407.out, GE407.out, NB393_407.out, NB407_393.out, (by repeat (first | (with_reducible first | exact HB.out | apply zH | apply zF | apply zI | refine zE ?_ GE393.out | refine zE ?_ GE407.out) | exact HB.out))⟩)
                        skip
                        refine box_step ?hg (N := 6) ?hd (cs := #[.int .i64 0, .int .i64 0, .int .u8 0, .int .i64 0, .int .i64 0, .float .f64 0]) (t := 35) ?hr ?_; (case hd => rfl); (case hg => rfl); (case hr => first | (go_simp; done) | (go_simp; rfl))
                        intro gb408 hg w14 hbox hb
                        have n0_ := zC.mk (zL (g := gb393) (o := .cells #[.int .u8 a1_0, .int .u8 a1_1, .int .u8 a1_2, .int .u16 a1_3, .int .u16 a1_4, .float .f64 a1_5] 26 (0, 0)) (by (with_reducible repeat (first | refine zA ?_ _ | refine zD ?_ | refine zB ?_ _)); exact BK393.out) hb)
                        have n1_ := zC.mk (below_step (by repeat (first | (with_reducible first | exact HB.out | apply zH | apply zF | apply zI | refine zE ?_ GE393.out) | exact HB.out)) hb)
                        have n2_ := zC.mk (hbox); have n3_ := zC.mk ((by rw [hg]; exact (zK (by repeat (first | (with_reducible first | exact HB.out | apply zH | apply zF | apply zI | refine zE ?_ GE393.out) | exact HB.out))) : w.heap.size ≤ gb408))
                        have n4_ := zC.mk ((by rw [hg]; exact (zK (by repeat (first | (with_reducible first | exact HB.out | apply zH | apply zF | apply zI | refine zE ?_ GE393.out) | exact HB.out))) : w.heap.size ≤ gb408))
                        have n5_ := zC.mk ((by rw [hg]; exact Nat.ne_of_lt (blk_lt (g := gb393) (o := .cells #[.int .u8 a1_0, .int .u8 a1_1, .int .u8 a1_2, .int .u16 a1_3, .int .u16 a1_4, .float .f64 a1_5] 26 (0, 0)) (by (with_reducible repeat (first | refine zA ?_ _ | refine zD ?_ | refine zB ?_ _)); exact BK393.out)) : gb393 ≠ gb408))
                        have n6_ := zC.mk ((by rw [hg]; exact Nat.ne_of_gt (blk_lt (g := gb393) (o := .cells #[.int .u8 a1_0, .int .u8 a1_1, .int .u8 a1_2, .int .u16 a1_3, .int .u16 a1_4, .float .f64 a1_5] 26 (0, 0)) (by (with_reducible repeat (first | refine zA ?_ _ | refine zD ?_ | refine zB ?_ _)); exact BK393.out)) : gb408 ≠ gb393))
                        clear BK393 HB; have BK393 := n0_; have HB := n1_; have BK408 := n2_; have GW408 := n3_; have GE408 := n4_; have NB393_408 := n5_; have NB408_393 := n6_; clear n0_ n1_ n2_ n3_ n4_ n5_ n6_; clear hb hbox hg; refine hK.out _ _ ⟨(zG BK393.out 0).trans rfl, (zG BK393.out 1).trans rfl, (zG BK393.out 2).trans rfl, (zG BK393.out 3).trans rfl, (zG BK393.out 4).trans rfl, (zG BK393.out 5).trans rfl⟩ (fun hHeld => ?_)
                        clear hK K; refine norm_ (a' := ?_) ?_ ?_
                        rotate_left
                        · show Act.put _ (some 6) _ = _
                          simp only [Act.put, sA_, sB_, sC_, i64_w, i32_w]; rfl
                        exact norm_ (by first | (simp only [putAll, Act.put, sA_, sB_, sC_]; done) | (simp only [putAll, Act.put, sA_, sB_, sC_]; rfl)) (hJ5 (gb408) _ ⟨hHeld, (by (with_reducible repeat (first | refine zA ?_ _ | refine zD ?_ | refine zB ?_ _)); exact BK393.out), (by (with_reducible repeat (first | refine zA ?_ _ | refine zD ?_ | refine zB ?_ _)); exact BK408.out), GW408.out, GE408.out, NB393_408.out, NB408_393.out, (by repeat (first | (with_reducible first | exact HB.out | apply zH | apply zF | apply zI | refine zE ?_ GE393.out | refine zE ?_ GE408.out) | exact HB.out))⟩)
                      skip
                      rintro gb408 w15 ⟨hS_, h0_, h1_, h2_, h3_, h4_, h5_, h6_⟩
                      have n0_ : zC (w15.heap[gb393]? = some (.cells #[.int .u8 a1_0, .int .u8 a1_1, .int .u8 a1_2, .int .u16 a1_3, .int .u16 a1_4, .float .f64 a1_5] 26 (0, 0))) := ⟨h0_⟩
                      have n1_ : zC (w15.heap[gb408]? = some (.cells #[.int .i64 0, .int .i64 0, .int .u8 0, .int .i64 0, .int .i64 0, .float .f64 0] 35 (0, 0))) := ⟨h1_⟩
                      have n2_ : zC (w.heap.size ≤ gb408) := ⟨h2_⟩
                      have n3_ : zC (w.heap.size ≤ gb408) := ⟨h3_⟩
                      have n4_ : zC (gb393 ≠ gb408) := ⟨h4_⟩
                      have n5_ : zC (gb408 ≠ gb393) := ⟨h5_⟩
                      have n6_ : zC (Below w.heap.size w w15) := ⟨h6_⟩
                      clear BK393 HB h0_ h1_ h2_ h3_ h4_ h5_ h6_; have BK393 := n0_; have BK408 := n1_; have GW408 := n2_; have GE408 := n3_; have NB393_408 := n4_; have NB408_393 := n5_; have HB := n6_; clear n0_ n1_ n2_ n3_ n4_ n5_ n6_; have hHeld : w15.cell? ⟨gb393, 0, none⟩ = some (.int .u8 a1_0) ∧ w15.cell? ⟨gb393, 1, none⟩ = some (.int .u8 a1_1) ∧ w15.cell? ⟨gb393, 2, none⟩ = some (.int .u8 a1_2) ∧ w15.cell? ⟨gb393, 3, none⟩ = some (.int .u16 a1_3) ∧ w15.cell? ⟨gb393, 4, none⟩ = some (.int .u16 a1_4) ∧ w15.cell? ⟨gb393, 5, none⟩ = some (.float .f64 a1_5) := hS_
                      refine norm_ (a' := ?_) ?_ ?_
                      rotate_left
                      · simp only [putAll, Act.put, sA_, sB_, sC_]
                        rfl
                      refine two_ (i := 1) (j := 4) (Ni := some 17) (Nj := some 5) #[true, true, true, false, false, true, false, false] #[true, false, true, false, true, true, false, false] rfl rfl rfl rfl (two_of HT_.out (by kernel_rfl)) (by decide) (by decide) (fun K hK => ?_) (fun K hK => ?_)
                      · skip
                        refine goes_ Try.func13 (by kernel_rfl) rfl #[.slice A0 l0.length c0] (by rfl) rfl rfl (by (try simp only [List.map_toArray, List.map_cons, List.map_nil]); first | done | rfl | (simp only [List.length_drop, List.length_take]; rfl)) ?_
                        with_reducible refine (stanzahand03_Para.calls k _ _ l0 t395 t398 _ ?side1 ?side2 A8.out).mono ?_
                        (case side1 => repeat (first | exact (Kd.C_below HR0.out HB.out) | (with_reducible refine Kd.C_alloc ?_ _) | (with_reducible refine Kd.C_drewN ?_ _) | (with_reducible refine Kd.C_drew ?_)))
                        (case side2 => exact HC0.out)
                        rintro e w16 ⟨v396, v399, rfl, ho0, ho1, hb⟩
                        refine ⟨_, rfl, ?_⟩
                        have n0_ := zC.mk (Kd.R_lower ho0 (zK (by repeat (first | (with_reducible first | exact HB.out | apply zH | apply zF | apply zI | refine zE ?_ GE393.out | refine zE ?_ GE408.out) | exact HB.out))))
                        have n1_ := zC.mk (Kd.R_lower ho1 (zK (by repeat (first | (with_reducible first | exact HB.out | apply zH | apply zF | apply zI | refine zE ?_ GE393.out | refine zE ?_ GE408.out) | exact HB.out))))
                        have n2_ := zC.mk (zL (g := gb393) (o := .cells #[.int .u8 a1_0, .int .u8 a1_1, .int .u8 a1_2, .int .u16 a1_3, .int .u16 a1_4, .float .f64 a1_5] 26 (0, 0)) (by (with_reducible repeat (first | refine zA ?_ _ | refine zD ?_ | refine zB ?_ _)); exact BK393.out) hb)
                        have n3_ := zC.mk (zL (g := gb408) (o := .cells #[.int .i64 0, .int .i64 0, .int .u8 0, .int .i64 0, .int .i64 0, .float .f64 0] 35 (0, 0)) (by (with_reducible repeat (first | refine zA ?_ _ | refine zD ?_ | refine zB ?_ _)); exact BK408.out) hb)
                        have n4_ := zC.mk (below_step (by repeat (first | (with_reducible first | exact HB.out | apply zH | apply zF | apply zI | refine zE ?_ GE393.out | refine zE ?_ GE408.out) | exact HB.out)) hb)
                        clear BK393 BK408 HB; have HO397 := n0_; have HO400 := n1_; have BK393 := n2_; have BK408 := n3_; have HB := n4_; clear n0_ n1_ n2_ n3_ n4_; (try clear hb)
                        (try clear hb2)
                        (try clear hk)
                        (try clear hi)
                        (try clear ho0)
                        (try clear ho1)
                        refine hK.out _ _ ⟨(zG BK393.out 0).trans rfl, (zG BK393.out 1).trans rfl, (zG BK393.out 2).trans rfl, (zG BK393.out 3).trans rfl, (zG BK393.out 4).trans rfl, (zG BK393.out 5).trans rfl⟩ (fun hHeld => ?_)
                        clear hK K; refine norm_ (a' := ?_) ?_ ?_
                        rotate_left
                        · show Act.put _ (some 17) _ = _
                          simp only [Act.put, sA_, sB_, sC_, i64_w, i32_w]; rfl
                        exact norm_ (by first | (simp only [putAll, Act.put, sA_, sB_, sC_]; done) | (simp only [putAll, Act.put, sA_, sB_, sC_]; rfl)) (hJ1_5 (v396, v399, gb408) _ ⟨hHeld, (by (with_reducible repeat (first | apply Kd.R_alloc | apply Kd.R_drewN | apply Kd.R_drew)); exact HO397.out), (by (with_reducible repeat (first | apply Kd.R_alloc | apply Kd.R_drewN | apply Kd.R_drew)); exact HO400.out), (by (with_reducible repeat (first | refine zA ?_ _ | refine zD ?_ | refine zB ?_ _)); exact BK393.out), (by (with_reducible repeat (first | refine zA ?_ _ | refine zD ?_ | refine zB ?_ _)); exact BK408.out), GW408.out, GE408.out, NB393_408.out, NB408_393.out, (by repeat (first | (with_reducible first | exact HB.out | apply zH | apply zF | apply zI | refine zE ?_ GE393.out | refine zE ?_ GE408.out) | exact HB.out))⟩)
                      skip
                      refine box_step ?hg (N := 5) ?hd (cs := #[.slice none 0 0, .slice none 0 0]) (t := 31) ?hr ?_; (case hd => rfl); (case hg => rfl); (case hr => first | (go_simp; done) | (go_simp; rfl))
                      intro gb407 hg w16 hbox hb
                      have n0_ := zC.mk (zL (g := gb393) (o := .cells #[.int .u8 a1_0, .int .u8 a1_1, .int .u8 a1_2, .int .u16 a1_3, .int .u16 a1_4, .float .f64 a1_5] 26 (0, 0)) (by (with_reducible repeat (first | refine zA ?_ _ | refine zD ?_ | refine zB ?_ _)); exact BK393.out) hb)
                      have n1_ := zC.mk (zL (g := gb408) (o := .cells #[.int .i64 0, .int .i64 0, .int .u8 0, .int .i64 0, .int .i64 0, .float .f64 0] 35 (0, 0)) (by (with_reducible repeat (first | refine zA ?_ _ | refine zD ?_ | refine zB ?_ _)); exact BK408.out) hb)
                      have n2_ := zC.mk (below_step (by repeat (first | (with_reducible first | exact HB.out | apply zH | apply zF | apply zI | refine zE ?_ GE393.out | refine zE ?_ GE408.out) | exact HB.out)) hb)
                      have n3_ := zC.mk (hbox); have n4_ := zC.mk ((by rw [hg]; exact (zK (by repeat (first | (with_reducible first | exact HB.out | apply zH | apply zF | apply zI | refine zE ?_ GE393.out | refine zE ?_ GE408.out) | exact HB.out))) : w.heap.size ≤ gb407))
                      have n5_ := zC.mk ((by rw [hg]; exact (zK (by repeat (first | (with_reducible first | exact HB.out | apply zH | apply zF | apply zI | refine zE ?_ GE393.out | refine zE ?_ GE408.out) | exact HB.out))) : w.heap.size ≤ gb407))
                      have n6_ := zC.mk ((by rw [hg]; exact Nat.ne_of_lt (blk_lt (g := gb393) (o := .cells #[.int .u8 a1_0, .int .u8 a1_1, .int .u8 a1_2, .int .u16 a1_3, .int .u16 a1_4, .float .f64 a1_5] 26 (0, 0)) (by (with_reducible repeat (first | refine zA ?_ _ | refine zD ?_ | refine zB ?_ _)); exact BK393.out)) : gb393 ≠ gb407))
                      have n7_ := zC.mk ((by rw [hg]; exact Nat.ne_of_gt (blk_lt (g := gb393) (o := .cells #[.int .u8 a1_0, .int .u8 a1_1, .int .u8 a1_2, .int .u16 a1_3, .int .u16 a1_4, .float .f64 a1_5] 26 (0, 0)) (by (with_reducible repeat (first | refine zA ?_ _ | refine zD ?_ | refine zB ?_ _)); exact BK393.out)) : gb407 ≠ gb393))
                      have n8_ := zC.mk ((by rw [hg]; exact Nat.ne_of_lt (blk_lt (g := gb408) (o := .cells #[.int .i64 0, .int .i64 0, .int .u8 0, .int .i64 0, .int .i64 0, .float .f64 0] 35 (0, 0)) (by (with_reducible repeat (first | refine zA ?_ _ | refine zD ?_ | refine zB ?_ _)); exact BK408.out)) : gb408 ≠ gb407))
                      have n9_ := zC.mk ((by rw [hg]; exact Nat.ne_of_gt (blk_lt (g := gb408) (o := .cells #[.int .i64 0, .int .i64 0, .int .u8 0, .int .i64 0, .int .i64 0, .float .f64 0] 35 (0, 0)) (by (with_reducible repeat (first | refine zA ?_ _ | refine zD ?_ | refine zB ?_ _)); exact BK408.out)) : gb407 ≠ gb408))
                      clear BK393 BK408 HB; have BK393 := n0_; have BK408 := n1_; have HB := n2_; have BK407 := n3_; have GW407 := n4_; have GE407 := n5_; have NB393_407 := n6_; have NB407_393 := n7_; have NB408_407 := n8_; have NB407_408 := n9_; clear n0_ n1_ n2_ n3_ n4_ n5_ n6_ n7_ n8_ n9_; clear hb hbox hg; refine hK.out _ _ ⟨(zG BK393.out 0).trans rfl, (zG BK393.out 1).trans rfl, (zG BK393.out 2).trans rfl, (zG BK393.out 3).trans rfl, (zG BK393.out 4).trans rfl, (zG BK393.out 5).trans rfl⟩ (fun hHeld => ?_)
                      clear hK K; refine norm_ (a' := ?_) ?_ ?_
                      rotate_left
                      · show Act.put _ (some 5) _ = _
                        simp only [Act.put, sA_, sB_, sC_, i64_w, i32_w]; rfl
                      exact norm_ (by first | (simp only [putAll, Act.put, sA_, sB_, sC_]; done) | (simp only [putAll, Act.put, sA_, sB_, sC_]; rfl)) (hJ4_5 (gb407, gb408) _ ⟨hHeld, (by (with_reducible repeat (first | refine zA ?_ _ | refine zD ?_ | refine zB ?_ _)); exact BK393.out), (by (with_reducible repeat (first | refine zA ?_ _ | refine zD ?_ | refine zB ?_ _)); exact BK407.out), (by (with_reducible repeat (first | refine zA ?_ _ | refine zD ?_ | refine zB ?_ _)); exact BK408.out), GW407.out, GE407.out, NB393_407.out, NB407_393.out, NB408_407.out, NB407_408.out, GW408.out, GE408.out, NB393_408.out, NB408_393.out, (by repeat (first | (with_reducible first | exact HB.out | apply zH | apply zF | apply zI | refine zE ?_ GE393.out | refine zE ?_ GE408.out | refine zE ?_ GE407.out) | exact HB.out))⟩)
                    skip
                    rintro gb407 w15 ⟨hS_, h0_, h1_, h2_, h3_, h4_, h5_, h6_⟩
                    have n0_ : zC (w15.heap[gb393]? = some (.cells #[.int .u8 a1_0, .int .u8 a1_1, .int .u8 a1_2, .int .u16 a1_3, .int .u16 a1_4, .float .f64 a1_5] 26 (0, 0))) := ⟨h0_⟩
                    have n1_ : zC (w15.heap[gb407]? = some (.cells #[.slice none 0 0, .slice none 0 0] 31 (0, 0))) := ⟨h1_⟩
                    have n2_ : zC (w.heap.size ≤ gb407) := ⟨h2_⟩
                    have n3_ : zC (w.heap.size ≤ gb407) := ⟨h3_⟩
                    have n4_ : zC (gb393 ≠ gb407) := ⟨h4_⟩
                    have n5_ : zC (gb407 ≠ gb393) := ⟨h5_⟩
                    have n6_ : zC (Below w.heap.size w w15) := ⟨h6_⟩
                    clear BK393 HB h0_ h1_ h2_ h3_ h4_ h5_ h6_; have BK393 := n0_; have BK407 := n1_; have GW407 := n2_; have GE407 := n3_; have NB393_407 := n4_; have NB407_393 := n5_; have HB := n6_; clear n0_ n1_ n2_ n3_ n4_ n5_ n6_; have hHeld : w15.cell? ⟨gb393, 0, none⟩ = some (.int .u8 a1_0) ∧ w15.cell? ⟨gb393, 1, none⟩ = some (.int .u8 a1_1) ∧ w15.cell? ⟨gb393, 2, none⟩ = some (.int .u8 a1_2) ∧ w15.cell? ⟨gb393, 3, none⟩ = some (.int .u16 a1_3) ∧ w15.cell? ⟨gb393, 4, none⟩ = some (.int .u16 a1_4) ∧ w15.cell? ⟨gb393, 5, none⟩ = some (.float .f64 a1_5) := hS_
                    refine norm_ (a' := ?_) ?_ ?_
                    rotate_left
                    · simp only [putAll, Act.put, sA_, sB_, sC_]
                      rfl
                    refine two_ (i := 1) (j := 5) (Ni := some 17) (Nj := some 6) #[true, true, true, false, true, false, false, false] #[true, false, true, false, true, true, false, false] rfl rfl rfl rfl (two_of HT_.out (by kernel_rfl)) (by decide) (by decide) (fun K hK => ?_) (fun K hK => ?_)
                    · skip
                      refine goes_ Try.func13 (by kernel_rfl) rfl #[.slice A0 l0.length c0] (by rfl) rfl rfl (by (try simp only [List.map_toArray, List.map_cons, List.map_nil]); first | done | rfl | (simp only [List.length_drop, List.length_take]; rfl)) ?_
                      with_reducible refine (stanzahand03_Para.calls k _ _ l0 t395 t398 _ ?side1 ?side2 A8.out).mono ?_
                      (case side1 => repeat (first | exact (Kd.C_below HR0.out HB.out) | (with_reducible refine Kd.C_alloc ?_ _) | (with_reducible refine Kd.C_drewN ?_ _) | (with_reducible refine Kd.C_drew ?_)))
                      (case side2 => exact HC0.out)
                      rintro e w16 ⟨v396, v399, rfl, ho0, ho1, hb⟩
                      refine ⟨_, rfl, ?_⟩
                      have n0_ := zC.mk (Kd.R_lower ho0 (zK (by repeat (first | (with_reducible first | exact HB.out | apply zH | apply zF | apply zI | refine zE ?_ GE393.out | refine zE ?_ GE407.out) | exact HB.out))))
                      have n1_ := zC.mk (Kd.R_lower ho1 (zK (by repeat (first | (with_reducible first | exact HB.out | apply zH | apply zF | apply zI | refine zE ?_ GE393.out | refine zE ?_ GE407.out) | exact HB.out))))
                      have n2_ := zC.mk (zL (g := gb393) (o := .cells #[.int .u8 a1_0, .int .u8 a1_1, .int .u8 a1_2, .int .u16 a1_3, .int .u16 a1_4, .float .f64 a1_5] 26 (0, 0)) (by (with_reducible repeat (first | refine zA ?_ _ | refine zD ?_ | refine zB ?_ _)); exact BK393.out) hb)
                      have n3_ := zC.mk (zL (g := gb407) (o := .cells #[.slice none 0 0, .slice none 0 0] 31 (0, 0)) (by (with_reducible repeat (first | refine zA ?_ _ | refine zD ?_ | refine zB ?_ _)); exact BK407.out) hb)
                      have n4_ := zC.mk (below_step (by repeat (first | (with_reducible first | exact HB.out | apply zH | apply zF | apply zI | refine zE ?_ GE393.out | refine zE ?_ GE407.out) | exact HB.out)) hb)
                      clear BK393 BK407 HB; have HO397 := n0_; have HO400 := n1_; have BK393 := n2_; have BK407 := n3_; have HB := n4_; clear n0_ n1_ n2_ n3_ n4_; (try clear hb)
                      (try clear hb2)
                      (try clear hk)
                      (try clear hi)
                      (try clear ho0)
                      (try clear ho1)
                      refine hK.out _ _ ⟨(zG BK393.out 0).trans rfl, (zG BK393.out 1).trans rfl, (zG BK393.out 2).trans rfl, (zG BK393.out 3).trans rfl, (zG BK393.out 4).trans rfl, (zG BK393.out 5).trans rfl⟩ (fun hHeld => ?_)
                      clear hK K; refine norm_ (a' := ?_) ?_ ?_
                      rotate_left
                      · show Act.put _ (some 17) _ = _
                        simp only [Act.put, sA_, sB_, sC_, i64_w, i32_w]; rfl
                      exact norm_ (by first | (simp only [putAll, Act.put, sA_, sB_, sC_]; done) | (simp only [putAll, Act.put, sA_, sB_, sC_]; rfl)) (hJ1_4 (v396, v399, gb407) _ ⟨hHeld, (by (with_reducible repeat (first | apply Kd.R_alloc | apply Kd.R_drewN | apply Kd.R_drew)); exact HO397.out), (by (with_reducible repeat (first | apply Kd.R_alloc | apply Kd.R_drewN | apply Kd.R_drew)); exact HO400.out), (by (with_reducible repeat (first | refine zA ?_ _ | refine zD ?_ | refine zB ?_ _)); exact BK393.out), (by (with_reducible repeat (first | refine zA ?_ _ | refine zD ?_ | refine zB ?_ _)); exact BK407.out), GW407.out, GE407.out, NB393_407.out, NB407_393.out, (by repeat (first | (with_reducible first | exact HB.out | apply zH | apply zF | apply zI | refine zE ?_ GE393.out | refine zE ?_ GE407.out) | exact HB.out))⟩)
                    skip
                    refine box_step ?hg (N := 6) ?hd (cs := #[.int .i64 0, .int .i64 0, .int .u8 0, .int .i64 0, .int .i64 0, .float .f64 0]) (t := 35) ?hr ?_; (case hd => rfl); (case hg => rfl); (case hr => first | (go_simp; done) | (go_simp; rfl))
                    intro gb408 hg w16 hbox hb
                    have n0_ := zC.mk (zL (g := gb393) (o := .cells #[.int .u8 a1_0, .int .u8 a1_1, .int .u8 a1_2, .int .u16 a1_3, .int .u16 a1_4, .float .f64 a1_5] 26 (0, 0)) (by (with_reducible repeat (first | refine zA ?_ _ | refine zD ?_ | refine zB ?_ _)); exact BK393.out) hb)
                    have n1_ := zC.mk (zL (g := gb407) (o := .cells #[.slice none 0 0, .slice none 0 0] 31 (0, 0)) (by (with_reducible repeat (first | refine zA ?_ _ | refine zD ?_ | refine zB ?_ _)); exact BK407.out) hb)
                    have n2_ := zC.mk (below_step (by repeat (first | (with_reducible first | exact HB.out | apply zH | apply zF | apply zI | refine zE ?_ GE393.out | refine zE ?_ GE407.out) | exact HB.out)) hb)
                    have n3_ := zC.mk (hbox); have n4_ := zC.mk ((by rw [hg]; exact (zK (by repeat (first | (with_reducible first | exact HB.out | apply zH | apply zF | apply zI | refine zE ?_ GE393.out | refine zE ?_ GE407.out) | exact HB.out))) : w.heap.size ≤ gb408))
                    have n5_ := zC.mk ((by rw [hg]; exact (zK (by repeat (first | (with_reducible first | exact HB.out | apply zH | apply zF | apply zI | refine zE ?_ GE393.out | refine zE ?_ GE407.out) | exact HB.out))) : w.heap.size ≤ gb408))
                    have n6_ := zC.mk ((by rw [hg]; exact Nat.ne_of_lt (blk_lt (g := gb393) (o := .cells #[.int .u8 a1_0, .int .u8 a1_1, .int .u8 a1_2, .int .u16 a1_3, .int .u16 a1_4, .float .f64 a1_5] 26 (0, 0)) (by (with_reducible repeat (first | refine zA ?_ _ | refine zD ?_ | refine zB ?_ _)); exact BK393.out)) : gb393 ≠ gb408))
                    have n7_ := zC.mk ((by rw [hg]; exact Nat.ne_of_gt (blk_lt (g := gb393) (o := .cells #[.int .u8 a1_0, .int .u8 a1_1, .int .u8 a1_2, .int .u16 a1_3, .int .u16 a1_4, .float .f64 a1_5] 26 (0, 0)) (by (with_reducible repeat (first | refine zA ?_ _ | refine zD ?_ | refine zB ?_ _)); exact BK393.out)) : gb408 ≠ gb393))
                    have n8_ := zC.mk ((by rw [hg]; exact Nat.ne_of_lt (blk_lt (g := gb407) (o := .cells #[.slice none 0 0, .slice none 0 0] 31 (0, 0)) (by (with_reducible repeat (first | refine zA ?_ _ | refine zD ?_ | refine zB ?_ _)); exact BK407.out)) : gb407 ≠ gb408))
                    have n9_ := zC.mk ((by rw [hg]; exact Nat.ne_of_gt (blk_lt (g := gb407) (o := .cells #[.slice none 0 0, .slice none 0 0] 31 (0, 0)) (by (with_reducible repeat (first | refine zA ?_ _ | refine zD ?_ | refine zB ?_ _)); exact BK407.out)) : gb408 ≠ gb407))
                    clear BK393 BK407 HB; have BK393 := n0_; have BK407 := n1_; have HB := n2_; have BK408 := n3_; have GW408 := n4_; have GE408 := n5_; have NB393_408 := n6_; have NB408_393 := n7_; have NB407_408 := n8_; have NB408_407 := n9_; clear n0_ n1_ n2_ n3_ n4_ n5_ n6_ n7_ n8_ n9_; clear hb hbox hg; refine hK.out _ _ ⟨(zG BK393.out 0).trans rfl, (zG BK393.out 1).trans rfl, (zG BK393.out 2).trans rfl, (zG BK393.out 3).trans rfl, (zG BK393.out 4).trans rfl, (zG BK393.out 5).trans rfl⟩ (fun hHeld => ?_)
                    clear hK K; refine norm_ (a' := ?_) ?_ ?_
                    rotate_left
                    · show Act.put _ (some 6) _ = _
                      simp only [Act.put, sA_, sB_, sC_, i64_w, i32_w]; rfl
                    exact norm_ (by first | (simp only [putAll, Act.put, sA_, sB_, sC_]; done) | (simp only [putAll, Act.put, sA_, sB_, sC_]; rfl)) (hJ4_5 (gb407, gb408) _ ⟨hHeld, (by (with_reducible repeat (first | refine zA ?_ _ | refine zD ?_ | refine zB ?_ _)); exact BK393.out), (by (with_reducible repeat (first | refine zA ?_ _ | refine zD ?_ | refine zB ?_ _)); exact BK407.out), (by (with_reducible repeat (first | refine zA ?_ _ | refine zD ?_ | refine zB ?_ _)); exact BK408.out), GW407.out, GE407.out, NB393_407.out, NB407_393.out, NB408_407.out, NB407_408.out, GW408.out, GE408.out, NB393_408.out, NB408_393.out, (by repeat (first | (with_reducible first | exact HB.out | apply zH | apply zF | apply zI | refine zE ?_ GE393.out | refine zE ?_ GE407.out | refine zE ?_ GE408.out) | exact HB.out))⟩)
                  skip
                  rintro ⟨v396, v399⟩ w15 ⟨hS_, h0_, h1_, h2_, h3_⟩
                  have n0_ : zC (Kd.R k61 61 w15 w.heap.size (fun _ => True) v396 t395) := ⟨h0_⟩
                  have n1_ : zC (Kd.R (Kd.int .u8) 43 w15 w.heap.size (fun _ => True) v399 t398) := ⟨h1_⟩
                  have n2_ : zC (w15.heap[gb393]? = some (.cells #[.int .u8 a1_0, .int .u8 a1_1, .int .u8 a1_2, .int .u16 a1_3, .int .u16 a1_4, .float .f64 a1_5] 26 (0, 0))) := ⟨h2_⟩
                  have n3_ : zC (Below w.heap.size w w15) := ⟨h3_⟩
                  clear BK393 HB h0_ h1_ h2_ h3_; have HO397 := n0_; have HO400 := n1_; have BK393 := n2_; have HB := n3_; clear n0_ n1_ n2_ n3_; have hHeld : w15.cell? ⟨gb393, 0, none⟩ = some (.int .u8 a1_0) ∧ w15.cell? ⟨gb393, 1, none⟩ = some (.int .u8 a1_1) ∧ w15.cell? ⟨gb393, 2, none⟩ = some (.int .u8 a1_2) ∧ w15.cell? ⟨gb393, 3, none⟩ = some (.int .u16 a1_3) ∧ w15.cell? ⟨gb393, 4, none⟩ = some (.int .u16 a1_4) ∧ w15.cell? ⟨gb393, 5, none⟩ = some (.float .f64 a1_5) := hS_
                  refine norm_ (a' := ?_) ?_ ?_
                  rotate_left
                  · simp only [putAll, Act.put, sA_, sB_, sC_]
                    rfl
                  refine three_ (i := 3) (j := 4) (k := 5) (Ni := some 19) (Nj := some 5) (Nk := some 6) #[true, true, true, true, false, false, false, false] #[true, true, true, false, true, false, false, false] #[true, true, true, false, false, true, false, false] rfl rfl rfl rfl rfl rfl (three_of HT_.out (by kernel_rfl)) (by decide) (by decide) (by decide) (fun K hK => ?_) (fun K hK => ?_) (fun K hK => ?_)
                  · skip
                    refine goes_ Try.func14 (by kernel_rfl) rfl #[.agg #[.int .u8 a1_0, .int .u8 a1_1, .int .u8 a1_2, .int .u16 a1_3, .int .u16 a1_4, .float .f64 a1_5]] (by rfl) rfl rfl (by (try simp only [List.map_toArray, List.map_cons, List.map_nil]); first | done | rfl | (simp only [List.length_drop, List.length_take]; rfl)) ?_
                    with_reducible refine (stanzahand03_Config.calls a1_0 a1_1 a1_2 a1_3 a1_4 a1_5 t401 t402 t403 t404 t405 t406 _ A9.out).mono ?_
                    rintro e w16 ⟨rfl, hb⟩
                    refine ⟨_, rfl, ?_⟩
                    have n0_ := zC.mk (Kd.R_below (by (with_reducible repeat (first | apply Kd.R_alloc | apply Kd.R_drewN | apply Kd.R_drew)); exact HO397.out) hb)
                    have n1_ := zC.mk (Kd.R_below (by (with_reducible repeat (first | apply Kd.R_alloc | apply Kd.R_drewN | apply Kd.R_drew)); exact HO400.out) hb)
                    have n2_ := zC.mk (zL (g := gb393) (o := .cells #[.int .u8 a1_0, .int .u8 a1_1, .int .u8 a1_2, .int .u16 a1_3, .int .u16 a1_4, .float .f64 a1_5] 26 (0, 0)) (by (with_reducible repeat (first | refine zA ?_ _ | refine zD ?_ | refine zB ?_ _)); exact BK393.out) hb)
                    have n3_ := zC.mk (below_step (by repeat (first | (with_reducible first | exact HB.out | apply zH | apply zF | apply zI | refine zE ?_ GE393.out) | exact HB.out)) hb)
                    clear HO397 HO400 BK393 HB; have HO397 := n0_; have HO400 := n1_; have BK393 := n2_; have HB := n3_; clear n0_ n1_ n2_ n3_; (try clear hb)
                    (try clear hb2)
                    (try clear hk)
                    (try clear hi)
                    refine hK.out _ _ ⟨(zG BK393.out 0).trans rfl, (zG BK393.out 1).trans rfl, (zG BK393.out 2).trans rfl, (zG BK393.out 3).trans rfl, (zG BK393.out 4).trans rfl, (zG BK393.out 5).trans rfl⟩ (fun hHeld => ?_)
                    clear hK K; refine norm_ (a' := ?_) ?_ ?_
                    rotate_left
                    · show Act.put _ (some 19) _ = _
                      simp only [Act.put, sA_, sB_, sC_, i64_w, i32_w]; rfl
                    exact norm_ (by first | (simp only [putAll, Act.put, sA_, sB_, sC_]; done) | (simp only [putAll, Act.put, sA_, sB_, sC_]; rfl)) (hJ1_3 (v396, v399) _ ⟨hHeld, (by (with_reducible repeat (first | apply Kd.R_alloc | apply Kd.R_drewN | apply Kd.R_drew)); exact HO397.out), (by (with_reducible repeat (first | apply Kd.R_alloc | apply Kd.R_drewN | apply Kd.R_drew)); exact HO400.out), (by (with_reducible repeat (first | refine zA ?_ _ | refine zD ?_ | refine zB ?_ _)); exact BK393.out), (by repeat (first | (with_reducible first | exact HB.out | apply zH | apply zF | apply zI | refine zE ?_ GE393.out) | exact HB.out))⟩)
                  · skip
                    refine box_step ?hg (N := 5) ?hd (cs := #[.slice none 0 0, .slice none 0 0]) (t := 31) ?hr ?_; (case hd => rfl); (case hg => rfl); (case hr => first | (go_simp; done) | (go_simp; rfl))
                    intro gb407 hg w16 hbox hb
                    have n0_ := zC.mk (Kd.R_below (by (with_reducible repeat (first | apply Kd.R_alloc | apply Kd.R_drewN | apply Kd.R_drew)); exact HO397.out) hb)
                    have n1_ := zC.mk (Kd.R_below (by (with_reducible repeat (first | apply Kd.R_alloc | apply Kd.R_drewN | apply Kd.R_drew)); exact HO400.out) hb)
                    have n2_ := zC.mk (zL (g := gb393) (o := .cells #[.int .u8 a1_0, .int .u8 a1_1, .int .u8 a1_2, .int .u16 a1_3, .int .u16 a1_4, .float .f64 a1_5] 26 (0, 0)) (by (with_reducible repeat (first | refine zA ?_ _ | refine zD ?_ | refine zB ?_ _)); exact BK393.out) hb)
                    have n3_ := zC.mk (below_step (by repeat (first | (with_reducible first | exact HB.out | apply zH | apply zF | apply zI | refine zE ?_ GE393.out) | exact HB.out)) hb)
                    have n4_ := zC.mk (hbox); have n5_ := zC.mk ((by rw [hg]; exact (zK (by repeat (first | (with_reducible first | exact HB.out | apply zH | apply zF | apply zI | refine zE ?_ GE393.out) | exact HB.out))) : w.heap.size ≤ gb407))
                    have n6_ := zC.mk ((by rw [hg]; exact (zK (by repeat (first | (with_reducible first | exact HB.out | apply zH | apply zF | apply zI | refine zE ?_ GE393.out) | exact HB.out))) : w.heap.size ≤ gb407))
                    have n7_ := zC.mk ((by rw [hg]; exact Nat.ne_of_lt (blk_lt (g := gb393) (o := .cells #[.int .u8 a1_0, .int .u8 a1_1, .int .u8 a1_2, .int .u16 a1_3, .int .u16 a1_4, .float .f64 a1_5] 26 (0, 0)) (by (with_reducible repeat (first | refine zA ?_ _ | refine zD ?_ | refine zB ?_ _)); exact BK393.out)) : gb393 ≠ gb407))
                    have n8_ := zC.mk ((by rw [hg]; exact Nat.ne_of_gt (blk_lt (g := gb393) (o := .cells #[.int .u8 a1_0, .int .u8 a1_1, .int .u8 a1_2, .int .u16 a1_3, .int .u16 a1_4, .float .f64 a1_5] 26 (0, 0)) (by (with_reducible repeat (first | refine zA ?_ _ | refine zD ?_ | refine zB ?_ _)); exact BK393.out)) : gb407 ≠ gb393))
                    clear HO397 HO400 BK393 HB; have HO397 := n0_; have HO400 := n1_; have BK393 := n2_; have HB := n3_; have BK407 := n4_; have GW407 := n5_; have GE407 := n6_; have NB393_407 := n7_; have NB407_393 := n8_; clear n0_ n1_ n2_ n3_ n4_ n5_ n6_ n7_ n8_; clear hb hbox hg; refine hK.out _ _ ⟨(zG BK393.out 0).trans rfl, (zG BK393.out 1).trans rfl, (zG BK393.out 2).trans rfl, (zG BK393.out 3).trans rfl, (zG BK393.out 4).trans rfl, (zG BK393.out 5).trans rfl⟩ (fun hHeld => ?_)
                    clear hK K; refine norm_ (a' := ?_) ?_ ?_
                    rotate_left
                    · show Act.put _ (some 5) _ = _
                      simp only [Act.put, sA_, sB_, sC_, i64_w, i32_w]; rfl
                    exact norm_ (by first | (simp only [putAll, Act.put, sA_, sB_, sC_]; done) | (simp only [putAll, Act.put, sA_, sB_, sC_]; rfl)) (hJ1_4 (v396, v399, gb407) _ ⟨hHeld, (by (with_reducible repeat (first | apply Kd.R_alloc | apply Kd.R_drewN | apply Kd.R_drew)); exact HO397.out), (by (with_reducible repeat (first | apply Kd.R_alloc | apply Kd.R_drewN | apply Kd.R_drew)); exact HO400.out), (by (with_reducible repeat (first | refine zA ?_ _ | refine zD ?_ | refine zB ?_ _)); exact BK393.out), (by (with_reducible repeat (first | refine zA ?_ _ | refine zD ?_ | refine zB ?_ _)); exact BK407.out), GW407.out, GE407.out, NB393_407.out, NB407_393.out, (by repeat (first | (with_reducible first | exact HB.out | apply zH | apply zF | apply zI | refine zE ?_ GE393.out | refine zE ?_ GE407.out) | exact HB.out))⟩)
                  skip
                  refine box_step ?hg (N := 6) ?hd (cs := #[.int .i64 0, .int .i64 0, .int .u8 0, .int .i64 0, .int .i64 0, .float .f64 0]) (t := 35) ?hr ?_; (case hd => rfl); (case hg => rfl); (case hr => first | (go_simp; done) | (go_simp; rfl))
                  intro gb408 hg w16 hbox hb
                  have n0_ := zC.mk (Kd.R_below (by (with_reducible repeat (first | apply Kd.R_alloc | apply Kd.R_drewN | apply Kd.R_drew)); exact HO397.out) hb)
                  have n1_ := zC.mk (Kd.R_below (by (with_reducible repeat (first | apply Kd.R_alloc | apply Kd.R_drewN | apply Kd.R_drew)); exact HO400.out) hb)
                  have n2_ := zC.mk (zL (g := gb393) (o := .cells #[.int .u8 a1_0, .int .u8 a1_1, .int .u8 a1_2, .int .u16 a1_3, .int .u16 a1_4, .float .f64 a1_5] 26 (0, 0)) (by (with_reducible repeat (first | refine zA ?_ _ | refine zD ?_ | refine zB ?_ _)); exact BK393.out) hb)
                  have n3_ := zC.mk (below_step (by repeat (first | (with_reducible first | exact HB.out | apply zH | apply zF | apply zI | refine zE ?_ GE393.out) | exact HB.out)) hb)
                  have n4_ := zC.mk (hbox); have n5_ := zC.mk ((by rw [hg]; exact (zK (by repeat (first | (with_reducible first | exact HB.out | apply zH | apply zF | apply zI | refine zE ?_ GE393.out) | exact HB.out))) : w.heap.size ≤ gb408))
                  have n6_ := zC.mk ((by rw [hg]; exact (zK (by repeat (first | (with_reducible first | exact HB.out | apply zH | apply zF | apply zI | refine zE ?_ GE393.out) | exact HB.out))) : w.heap.size ≤ gb408))
                  have n7_ := zC.mk ((by rw [hg]; exact Nat.ne_of_lt (blk_lt (g := gb393) (o := .cells #[.int .u8 a1_0, .int .u8 a1_1, .int .u8 a1_2, .int .u16 a1_3, .int .u16 a1_4, .float .f64 a1_5] 26 (0, 0)) (by (with_reducible repeat (first | refine zA ?_ _ | refine zD ?_ | refine zB ?_ _)); exact BK393.out)) : gb393 ≠ gb408))
                  have n8_ := zC.mk ((by rw [hg]; exact Nat.ne_of_gt (blk_lt (g := gb393) (o := .cells #[.int .u8 a1_0, .int .u8 a1_1, .int .u8 a1_2, .int .u16 a1_3, .int .u16 a1_4, .float .f64 a1_5] 26 (0, 0)) (by (with_reducible repeat (first | refine zA ?_ _ | refine zD ?_ | refine zB ?_ _)); exact BK393.out)) : gb408 ≠ gb393))
                  clear HO397 HO400 BK393 HB; have HO397 := n0_; have HO400 := n1_; have BK393 := n2_; have HB := n3_; have BK408 := n4_; have GW408 := n5_; have GE408 := n6_; have NB393_408 := n7_; have NB408_393 := n8_; clear n0_ n1_ n2_ n3_ n4_ n5_ n6_ n7_ n8_; clear hb hbox hg; refine hK.out _ _ ⟨(zG BK393.out 0).trans rfl, (zG BK393.out 1).trans rfl, (zG BK393.out 2).trans rfl, (zG BK393.out 3).trans rfl, (zG BK393.out 4).trans rfl, (zG BK393.out 5).trans rfl⟩ (fun hHeld => ?_)
                  clear hK K; refine norm_ (a' := ?_) ?_ ?_
                  rotate_left
                  · show Act.put _ (some 6) _ = _
                    simp only [Act.put, sA_, sB_, sC_, i64_w, i32_w]; rfl
                  exact norm_ (by first | (simp only [putAll, Act.put, sA_, sB_, sC_]; done) | (simp only [putAll, Act.put, sA_, sB_, sC_]; rfl)) (hJ1_5 (v396, v399, gb408) _ ⟨hHeld, (by (with_reducible repeat (first | apply Kd.R_alloc | apply Kd.R_drewN | apply Kd.R_drew)); exact HO397.out), (by (with_reducible repeat (first | apply Kd.R_alloc | apply Kd.R_drewN | apply Kd.R_drew)); exact HO400.out), (by (with_reducible repeat (first | refine zA ?_ _ | refine zD ?_ | refine zB ?_ _)); exact BK393.out), (by (with_reducible repeat (first | refine zA ?_ _ | refine zD ?_ | refine zB ?_ _)); exact BK408.out), GW408.out, GE408.out, NB393_408.out, NB408_393.out, (by repeat (first | (with_reducible first | exact HB.out | apply zH | apply zF | apply zI | refine zE ?_ GE393.out | refine zE ?_ GE408.out) | exact HB.out))⟩)
                skip
                rintro ⟨gb407, gb408⟩ w16 ⟨hS_, h0_, h1_, h2_, h3_, h4_, h5_, h6_, h7_, h8_, h9_, h10_, h11_, h12_, h13_⟩
                have n0_ : zC (w16.heap[gb393]? = some (.cells #[.int .u8 a1_0, .int .u8 a1_1, .int .u8 a1_2, .int .u16 a1_3, .int .u16 a1_4, .float .f64 a1_5] 26 (0, 0))) := ⟨h0_⟩
                have n1_ : zC (w16.heap[gb407]? = some (.cells #[.slice none 0 0, .slice none 0 0] 31 (0, 0))) := ⟨h1_⟩
                have n2_ : zC (w16.heap[gb408]? = some (.cells #[.int .i64 0, .int .i64 0, .int .u8 0, .int .i64 0, .int .i64 0, .float .f64 0] 35 (0, 0))) := ⟨h2_⟩
                have n3_ : zC (w.heap.size ≤ gb407) := ⟨h3_⟩
                have n4_ : zC (w.heap.size ≤ gb407) := ⟨h4_⟩
                have n5_ : zC (gb393 ≠ gb407) := ⟨h5_⟩
                have n6_ : zC (gb407 ≠ gb393) := ⟨h6_⟩
                have n7_ : zC (gb408 ≠ gb407) := ⟨h7_⟩
                have n8_ : zC (gb407 ≠ gb408) := ⟨h8_⟩
                have n9_ : zC (w.heap.size ≤ gb408) := ⟨h9_⟩
                have n10_ : zC (w.heap.size ≤ gb408) := ⟨h10_⟩
                have n11_ : zC (gb393 ≠ gb408) := ⟨h11_⟩
                have n12_ : zC (gb408 ≠ gb393) := ⟨h12_⟩
                have n13_ : zC (Below w.heap.size w w16) := ⟨h13_⟩
                clear BK393 HB h0_ h1_ h2_ h3_ h4_ h5_ h6_ h7_ h8_ h9_ h10_ h11_ h12_ h13_; have BK393 := n0_; have BK407 := n1_; have BK408 := n2_; have GW407 := n3_; have GE407 := n4_; have NB393_407 := n5_; have NB407_393 := n6_; have NB408_407 := n7_; have NB407_408 := n8_; have GW408 := n9_; have GE408 := n10_; have NB393_408 := n11_; have NB408_393 := n12_; have HB := n13_; clear n0_ n1_ n2_ n3_ n4_ n5_ n6_ n7_ n8_ n9_ n10_ n11_ n12_ n13_; have hHeld : w16.cell? ⟨gb393, 0, none⟩ = some (.int .u8 a1_0) ∧ w16.cell? ⟨gb393, 1, none⟩ = some (.int .u8 a1_1) ∧ w16.cell? ⟨gb393, 2, none⟩ = some (.int .u8 a1_2) ∧ w16.cell? ⟨gb393, 3, none⟩ = some (.int .u16 a1_3) ∧ w16.cell? ⟨gb393, 4, none⟩ = some (.int .u16 a1_4) ∧ w16.cell? ⟨gb393, 5, none⟩ = some (.float .f64 a1_5) := hS_
                refine norm_ (a' := ?_) ?_ ?_
                rotate_left
                · simp only [putAll, Act.put, sA_, sB_, sC_]
                  rfl
                refine one_ (i := 1) (N := some 17) #[true, true, true, false, true, true, false, false] rfl rfl (one_of HT_.out (by kernel_rfl)) (by decide) (fun K hK => ?_)
                refine goes_ Try.func13 (by kernel_rfl) rfl #[.slice A0 l0.length c0] (by rfl) rfl rfl (by (try simp only [List.map_toArray, List.map_cons, List.map_nil]); first | done | rfl | (simp only [List.length_drop, List.length_take]; rfl)) ?_
                with_reducible refine (stanzahand03_Para.calls k _ _ l0 t395 t398 _ ?side1 ?side2 A8.out).mono ?_
                (case side1 => repeat (first | exact (Kd.C_below HR0.out HB.out) | (with_reducible refine Kd.C_alloc ?_ _) | (with_reducible refine Kd.C_drewN ?_ _) | (with_reducible refine Kd.C_drew ?_)))
                (case side2 => exact HC0.out)
                rintro e w17 ⟨v396, v399, rfl, ho0, ho1, hb⟩
                refine ⟨_, rfl, ?_⟩
                have n0_ := zC.mk (Kd.R_lower ho0 (zK (by repeat (first | (with_reducible first | exact HB.out | apply zH | apply zF | apply zI | refine zE ?_ GE393.out | refine zE ?_ GE407.out | refine zE ?_ GE408.out) | exact HB.out))))
                have n1_ := zC.mk (Kd.R_lower ho1 (zK (by repeat (first | (with_reducible first | exact HB.out | apply zH | apply zF | apply zI | refine zE ?_ GE393.out | refine zE ?_ GE407.out | refine zE ?_ GE408.out) | exact HB.out))))
                have n2_ := zC.mk (zL (g := gb393) (o := .cells #[.int .u8 a1_0, .int .u8 a1_1, .int .u8 a1_2, .int .u16 a1_3, .int .u16 a1_4, .float .f64 a1_5] 26 (0, 0)) (by (with_reducible repeat (first | refine zA ?_ _ | refine zD ?_ | refine zB ?_ _)); exact BK393.out) hb)
                have n3_ := zC.mk (zL (g := gb407) (o := .cells #[.slice none 0 0, .slice none 0 0] 31 (0, 0)) (by (with_reducible repeat (first | refine zA ?_ _ | refine zD ?_ | refine zB ?_ _)); exact BK407.out) hb)
                have n4_ := zC.mk (zL (g := gb408) (o := .cells #[.int .i64 0, .int .i64 0, .int .u8 0, .int .i64 0, .int .i64 0, .float .f64 0] 35 (0, 0)) (by (with_reducible repeat (first | refine zA ?_ _ | refine zD ?_ | refine zB ?_ _)); exact BK408.out) hb)
                have n5_ := zC.mk (below_step (by repeat (first | (with_reducible first | exact HB.out | apply zH | apply zF | apply zI | refine zE ?_ GE393.out | refine zE ?_ GE407.out | refine zE ?_ GE408.out) | exact HB.out)) hb)
                clear BK393 BK407 BK408 HB; have HO397 := n0_; have HO400 := n1_; have BK393 := n2_; have BK407 := n3_; have BK408 := n4_; have HB := n5_; clear n0_ n1_ n2_ n3_ n4_ n5_; (try clear hb)
                (try clear hb2)
                (try clear hk)
                (try clear hi)
                (try clear ho0)
                (try clear ho1)
                refine hK.out _ _ ⟨(zG BK393.out 0).trans rfl, (zG BK393.out 1).trans rfl, (zG BK393.out 2).trans rfl, (zG BK393.out 3).trans rfl, (zG BK393.out 4).trans rfl, (zG BK393.out 5).trans rfl⟩ (fun hHeld => ?_)
                clear hK K; refine norm_ (a' := ?_) ?_ ?_
                rotate_left
                · show Act.put _ (some 17) _ = _
                  simp only [Act.put, sA_, sB_, sC_, i64_w, i32_w]; rfl
                exact norm_ (by first | (simp only [putAll, Act.put, sA_, sB_, sC_]; done) | (simp only [putAll, Act.put, sA_, sB_, sC_]; rfl)) (hJ1_4_5 (v396, v399, gb407, gb408) _ ⟨hHeld, (by (with_reducible repeat (first | apply Kd.R_alloc | apply Kd.R_drewN | apply Kd.R_drew)); exact HO397.out), (by (with_reducible repeat (first | apply Kd.R_alloc | apply Kd.R_drewN | apply Kd.R_drew)); exact HO400.out), (by (with_reducible repeat (first | refine zA ?_ _ | refine zD ?_ | refine zB ?_ _)); exact BK393.out), (by (with_reducible repeat (first | refine zA ?_ _ | refine zD ?_ | refine zB ?_ _)); exact BK407.out), (by (with_reducible repeat (first | refine zA ?_ _ | refine zD ?_ | refine zB ?_ _)); exact BK408.out), GW407.out, GE407.out, NB393_407.out, NB407_393.out, NB408_407.out, NB407_408.out, GW408.out, GE408.out, NB393_408.out, NB408_393.out, (by repeat (first | (with_reducible first | exact HB.out | apply zH | apply zF | apply zI | refine zE ?_ GE393.out | refine zE ?_ GE407.out | refine zE ?_ GE408.out) | exact HB.out))⟩)
              skip
              rintro ⟨v396, v399, gb408⟩ w16 ⟨hS_, h0_, h1_, h2_, h3_, h4_, h5_, h6_, h7_, h8_⟩
              have n0_ : zC (Kd.R k61 61 w16 w.heap.size (fun _ => True) v396 t395) := ⟨h0_⟩
              have n1_ : zC (Kd.R (Kd.int .u8) 43 w16 w.heap.size (fun _ => True) v399 t398) := ⟨h1_⟩
              have n2_ : zC (w16.heap[gb393]? = some (.cells #[.int .u8 a1_0, .int .u8 a1_1, .int .u8 a1_2, .int .u16 a1_3, .int .u16 a1_4, .float .f64 a1_5] 26 (0, 0))) := ⟨h2_⟩
              have n3_ : zC (w16.heap[gb408]? = some (.cells #[.int .i64 0, .int .i64 0, .int .u8 0, .int .i64 0, .int .i64 0, .float .f64 0] 35 (0, 0))) := ⟨h3_⟩
              have n4_ : zC (w.heap.size ≤ gb408) := ⟨h4_⟩
              have n5_ : zC (w.heap.size ≤ gb408) := ⟨h5_⟩
              have n6_ : zC (gb393 ≠ gb408) := ⟨h6_⟩
              have n7_ : zC (gb408 ≠ gb393) := ⟨h7_⟩
              have n8_ : zC (Below w.heap.size w w16) := ⟨h8_⟩
              clear BK393 HB h0_ h1_ h2_ h3_ h4_ h5_ h6_ h7_ h8_; have HO397 := n0_; have HO400 := n1_; have BK393 := n2_; have BK408 := n3_; have GW408 := n4_; have GE408 := n5_; have NB393_408 := n6_; have NB408_393 := n7_; have HB := n8_; clear n0_ n1_ n2_ n3_ n4_ n5_ n6_ n7_ n8_; have hHeld : w16.cell? ⟨gb393, 0, none⟩ = some (.int .u8 a1_0) ∧ w16.cell? ⟨gb393, 1, none⟩ = some (.int .u8 a1_1) ∧ w16.cell? ⟨gb393, 2, none⟩ = some (.int .u8 a1_2) ∧ w16.cell? ⟨gb393, 3, none⟩ = some (.int .u16 a1_3) ∧ w16.cell? ⟨gb393, 4, none⟩ = some (.int .u16 a1_4) ∧ w16.cell? ⟨gb393, 5, none⟩ = some (.float .f64 a1_5) := hS_
              refine norm_ (a' := ?_) ?_ ?_
              rotate_left
              · simp only [putAll, Act.put, sA_, sB_, sC_]
                rfl
              refine two_ (i := 3) (j := 4) (Ni := some 19) (Nj := some 5) #[true, true, true, true, false, true, false, false] #[true, true, true, false, true, true, false, false] rfl rfl rfl rfl (two_of HT_.out (by kernel_rfl)) (by decide) (by decide) (fun K hK => ?_) (fun K hK => ?_)
              · skip
                refine goes_ Try.func14 (by kernel_rfl) rfl #[.agg #[.int .u8 a1_0, .int .u8 a1_1, .int .u8 a1_2, .int .u16 a1_3, .int .u16 a1_4, .float .f64 a1_5]] (by rfl) rfl rfl (by (try simp only [List.map_toArray, List.map_cons, List.map_nil]); first | done | rfl | (simp only [List.length_drop, List.length_take]; rfl)) ?_
                with_reducible refine (stanzahand03_Config.calls a1_0 a1_1 a1_2 a1_3 a1_4 a1_5 t401 t402 t403 t404 t405 t406 _ A9.out).mono ?_
                rintro e w17 ⟨rfl, hb⟩
                refine ⟨_, rfl, ?_⟩
                have n0_ := zC.mk (Kd.R_below (by (with_reducible repeat (first | apply Kd.R_alloc | apply Kd.R_drewN | apply Kd.R_drew)); exact HO397.out) hb)
                have n1_ := zC.mk (Kd.R_below (by (with_reducible repeat (first | apply Kd.R_alloc | apply Kd.R_drewN | apply Kd.R_drew)); exact HO400.out) hb)
                have n2_ := zC.mk (zL (g := gb393) (o := .cells #[.int .u8 a1_0, .int .u8 a1_1, .int .u8 a1_2, .int .u16 a1_3, .int .u16 a1_4, .float .f64 a1_5] 26 (0, 0)) (by (with_reducible repeat (first | refine zA ?_ _ | refine zD ?_ | refine zB ?_ _)); exact BK393.out) hb)
                have n3_ := zC.mk (zL (g := gb408) (o := .cells #[.int .i64 0, .int .i64 0, .int .u8 0, .int .i64 0, .int .i64 0, .float .f64 0] 35 (0, 0)) (by (with_reducible repeat (first | refine zA ?_ _ | refine zD ?_ | refine zB ?_ _)); exact BK408.out) hb)
                have n4_ := zC.mk (below_step (by repeat (first | (with_reducible first | exact HB.out | apply zH | apply zF | apply zI | refine zE ?_ GE393.out | refine zE ?_ GE408.out) | exact HB.out)) hb)
                clear HO397 HO400 BK393 BK408 HB; have HO397 := n0_; have HO400 := n1_; have BK393 := n2_; have BK408 := n3_; have HB := n4_; clear n0_ n1_ n2_ n3_ n4_; (try clear hb)
                (try clear hb2)
                (try clear hk)
                (try clear hi)
                refine hK.out _ _ ⟨(zG BK393.out 0).trans rfl, (zG BK393.out 1).trans rfl, (zG BK393.out 2).trans rfl, (zG BK393.out 3).trans rfl, (zG BK393.out 4).trans rfl, (zG BK393.out 5).trans rfl⟩ (fun hHeld => ?_)
                clear hK K; refine norm_ (a' := ?_) ?_ ?_
                rotate_left
                · show Act.put _ (some 19) _ = _
                  simp only [Act.put, sA_, sB_, sC_, i64_w, i32_w]; rfl
                exact norm_ (by first | (simp only [putAll, Act.put, sA_, sB_, sC_]; done) | (simp only [putAll, Act.put, sA_, sB_, sC_]; rfl)) (hJ1_3_5 (v396, v399, gb408) _ ⟨hHeld, (by (with_reducible repeat (first | apply Kd.R_alloc | apply Kd.R_drewN | apply Kd.R_drew)); exact HO397.out), (by (with_reducible repeat (first | apply Kd.R_alloc | apply Kd.R_drewN | apply Kd.R_drew)); exact HO400.out), (by (with_reducible repeat (first | refine zA ?_ _ | refine zD ?_ | refine zB ?_ _)); exact BK393.out), (by (with_reducible repeat (first | refine zA ?_ _ | refine zD ?_ | refine zB ?_ _)); exact BK408.out), GW408.out, GE408.out, NB393_408.out, NB408_393.out, (by repeat (first | (with_reducible first | exact HB.out | apply zH | apply zF | apply zI | refine zE ?_ GE393.out | refine zE ?_ GE408.out) | exact HB.out))⟩)
              skip
              refine box_step ?hg (N := 5) ?hd (cs := #[.slice none 0 0, .slice none 0 0]) (t := 31) ?hr ?_; (case hd => rfl); (case hg => rfl); (case hr => first | (go_simp; done) | (go_simp; rfl))
              intro gb407 hg w17 hbox hb
              have n0_ := zC.mk (Kd.R_below (by (with_reducible repeat (first | apply Kd.R_alloc | apply Kd.R_drewN | apply Kd.R_drew)); exact HO397.out) hb)
              have n1_ := zC.mk (Kd.R_below (by (with_reducible repeat (first | apply Kd.R_alloc | apply Kd.R_drewN | apply Kd.R_drew)); exact HO400.out) hb)
              have n2_ := zC.mk (zL (g := gb393) (o := .cells #[.int .u8 a1_0, .int .u8 a1_1, .int .u8 a1_2, .int .u16 a1_3, .int .u16 a1_4, .float .f64 a1_5] 26 (0, 0)) (by (with_reducible repeat (first | refine zA ?_ _ | refine zD ?_ | refine zB ?_ _)); exact BK393.out) hb)
              have n3_ := zC.mk (zL (g := gb408) (o := .cells #[.int .i64 0, .int .i64 0, .int .u8 0, .int .i64 0, .int .i64 0, .float .f64 0] 35 (0, 0)) (by (with_reducible repeat (first | refine zA ?_ _ | refine zD ?_ | refine zB ?_ _)); exact BK408.out) hb)
              have n4_ := zC.mk (below_step (by repeat (first | (with_reducible first | exact HB.out | apply zH | apply zF | apply zI | refine zE ?_ GE393.out | refine zE ?_ GE408.out) | exact HB.out)) hb)
              have n5_ := zC.mk (hbox); have n6_ := zC.mk ((by rw [hg]; exact (zK (by repeat (first | (with_reducible first | exact HB.out | apply zH | apply zF | apply zI | refine zE ?_ GE393.out | refine zE ?_ GE408.out) | exact HB.out))) : w.heap.size ≤ gb407))
              have n7_ := zC.mk ((by rw [hg]; exact (zK (by repeat (first | (with_reducible first | exact HB.out | apply zH | apply zF | apply zI | refine zE ?_ GE393.out | refine zE ?_ GE408.out) | exact HB.out))) : w.heap.size ≤ gb407))
              have n8_ := zC.mk ((by rw [hg]; exact Nat.ne_of_lt (blk_lt (g := gb393) (o := .cells #[.int .u8 a1_0, .int .u8 a1_1, .int .u8 a1_2, .int .u16 a1_3, .int .u16 a1_4, .float .f64 a1_5] 26 (0, 0)) (by (with_reducible repeat (first | refine zA ?_ _ | refine zD ?_ | refine zB ?_ _)); exact BK393.out)) : gb393 ≠ gb407))
              have n9_ := zC.mk ((by rw [hg]; exact Nat.ne_of_gt (blk_lt (g := gb393) (o := .cells #[.int .u8 a1_0, .int .u8 a1_1, .int .u8 a1_2, .int .u16 a1_3, .int .u16 a1_4, .float .f64 a1_5] 26 (0, 0)) (by (with_reducible repeat (first | refine zA ?_ _ | refine zD ?_ | refine zB ?_ _)); exact BK393.out)) : gb407 ≠ gb393))
              have n10_ := zC.mk ((by rw [hg]; exact Nat.ne_of_lt (blk_lt (g := gb408) (o := .cells #[.int .i64 0, .int .i64 0, .int .u8 0, .int .i64 0, .int .i64 0, .float .f64 0] 35 (0, 0)) (by (with_reducible repeat (first | refine zA ?_ _ | refine zD ?_ | refine zB ?_ _)); exact BK408.out)) : gb408 ≠ gb407))
              have n11_ := zC.mk ((by rw [hg]; exact Nat.ne_of_gt (blk_lt (g := gb408) (o := .cells #[.int .i64 0, .int .i64 0, .int .u8 0, .int .i64 0, .int .i64 0, .float .f64 0] 35 (0, 0)) (by (with_reducible repeat (first | refine zA ?_ _ | refine zD ?_ | refine zB ?_ _)); exact BK408.out)) : gb407 ≠ gb408))
              clear HO397 HO400 BK393 BK408 HB; have HO397 := n0_; have HO400 := n1_; have BK393 := n2_; have BK408 := n3_; have HB := n4_; have BK407 := n5_; have GW407 := n6_; have GE407 := n7_; have NB393_407 := n8_; have NB407_393 := n9_; have NB408_407 := n10_; have NB407_408 := n11_; clear n0_ n1_ n2_ n3_ n4_ n5_ n6_ n7_ n8_ n9_ n10_ n11_; clear hb hbox hg; refine hK.out _ _ ⟨(zG BK393.out 0).trans rfl, (zG BK393.out 1).trans rfl, (zG BK393.out 2).trans rfl, (zG BK393.out 3).trans rfl, (zG BK393.out 4).trans rfl, (zG BK393.out 5).trans rfl⟩ (fun hHeld => ?_)
              clear hK K; refine norm_ (a' := ?_) ?_ ?_
              rotate_left
              · show Act.put _ (some 5) _ = _
                simp only [Act.put, sA_, sB_, sC_, i64_w, i32_w]; rfl
              exact norm_ (by first | (simp only [putAll, Act.put, sA_, sB_, sC_]; done) | (simp only [putAll, Act.put, sA_, sB_, sC_]; rfl)) (hJ1_4_5 (v396, v399, gb407, gb408) _ ⟨hHeld, (by (with_reducible repeat (first | apply Kd.R_alloc | apply Kd.R_drewN | apply Kd.R_drew)); exact HO397.out), (by (with_reducible repeat (first | apply Kd.R_alloc | apply Kd.R_drewN | apply Kd.R_drew)); exact HO400.out), (by (with_reducible repeat (first | refine zA ?_ _ | refine zD ?_ | refine zB ?_ _)); exact BK393.out), (by (with_reducible repeat (first | refine zA ?_ _ | refine zD ?_ | refine zB ?_ _)); exact BK407.out), (by (with_reducible repeat (first | refine zA ?_ _ | refine zD ?_ | refine zB ?_ _)); exact BK408.out), GW407.out, GE407.out, NB393_407.out, NB407_393.out, NB408_407.out, NB407_408.out, GW408.out, GE408.out, NB393_408.out, NB408_393.out, (by repeat (first | (with_reducible first | exact HB.out | apply zH | apply zF | apply zI | refine zE ?_ GE393.out | refine zE ?_ GE408.out | refine zE ?_ GE407.out) | exact HB.out))⟩)
            skip
            rintro ⟨v396, v399, gb407⟩ w16 ⟨hS_, h0_, h1_, h2_, h3_, h4_, h5_, h6_, h7_, h8_⟩
            have n0_ : zC (Kd.R k61 61 w16 w.heap.size (fun _ => True) v396 t395) := ⟨h0_⟩
            have n1_ : zC (Kd.R (Kd.int .u8) 43 w16 w.heap.size (fun _ => True) v399 t398) := ⟨h1_⟩
            have n2_ : zC (w16.heap[gb393]? = some (.cells #[.int .u8 a1_0, .int .u8 a1_1, .int .u8 a1_2, .int .u16 a1_3, .int .u16 a1_4, .float .f64 a1_5] 26 (0, 0))) := ⟨h2_⟩
            have n3_ : zC (w16.heap[gb407]? = some (.cells #[.slice none 0 0, .slice none 0 0] 31 (0, 0))) := ⟨h3_⟩
            have n4_ : zC (w.heap.size ≤ gb407) := ⟨h4_⟩
            have n5_ : zC (w.heap.size ≤ gb407) := ⟨h5_⟩
            have n6_ : zC (gb393 ≠ gb407) := ⟨h6_⟩
            have n7_ : zC (gb407 ≠ gb393) := ⟨h7_⟩
            have n8_ : zC (Below w.heap.size w w16) := ⟨h8_⟩
            clear BK393 HB h0_ h1_ h2_ h3_ h4_ h5_ h6_ h7_ h8_; have HO397 := n0_; have HO400 := n1_; have BK393 := n2_; have BK407 := n3_; have GW407 := n4_; have GE407 := n5_; have NB393_407 := n6_; have NB407_393 := n7_; have HB := n8_; clear n0_ n1_ n2_ n3_ n4_ n5_ n6_ n7_ n8_; have hHeld : w16.cell? ⟨gb393, 0, none⟩ = some (.int .u8 a1_0) ∧ w16.cell? ⟨gb393, 1, none⟩ = some (.int .u8 a1_1) ∧ w16.cell? ⟨gb393, 2, none⟩ = some (.int .u8 a1_2) ∧ w16.cell? ⟨gb393, 3, none⟩ = some (.int .u16 a1_3) ∧ w16.cell? ⟨gb393, 4, none⟩ = some (.int .u16 a1_4) ∧ w16.cell? ⟨gb393, 5, none⟩ = some (.float .f64 a1_5) := hS_
            refine norm_ (a' := ?_) ?_ ?_
            rotate_left
            · simp only [putAll, Act.put, sA_, sB_, sC_]
              rfl
            refine two_ (i := 3) (j := 5) (Ni := some 19) (Nj := some 6) #[true, true, true, true, true, false, false, false] #[true, true, true, false, true, true, false, false] rfl rfl rfl rfl (two_of HT_.out (by kernel_rfl)) (by decide) (by decide) (fun K hK => ?_) (fun K hK => ?_)
            · skip
              refine goes_ Try.func14 (by kernel_rfl) rfl #[.agg #[.int .u8 a1_0, .int .u8 a1_1, .int .u8 a1_2, .int .u16 a1_3, .int .u16 a1_4, .float .f64 a1_5]] (by rfl) rfl rfl (by (try simp only [List.map_toArray, List.map_cons, List.map_nil]); first | done | rfl | (simp only [List.length_drop, List.length_take]; rfl)) ?_
              with_reducible refine (stanzahand03_Config.calls a1_0 a1_1 a1_2 a1_3 a1_4 a1_5 t401 t402 t403 t404 t405 t406 _ A9.out).mono ?_
              rintro e w17 ⟨rfl, hb⟩
              refine ⟨_, rfl, ?_⟩
              have n0_ := zC.mk (Kd.R_below (by (with_reducible repeat (first | apply Kd.R_alloc | apply Kd.R_drewN | apply Kd.R_drew)); exact HO397.out) hb)
              have n1_ := zC.mk (Kd.R_below (by (with_reducible repeat (first | apply Kd.R_alloc | apply Kd.R_drewN | apply Kd.R_drew)); exact HO400.out) hb)
              have n2_ := zC.mk (zL (g := gb393) (o := .cells #[.int .u8 a1_0, .int .u8 a1_1, .int .u8 a1_2, .int .u16 a1_3, .int .u16 a1_4, .float .f64 a1_5] 26 (0, 0)) (by (with_reducible repeat (first | refine zA ?_ _ | refine zD ?_ | refine zB ?_ _)); exact BK393.out) hb)
              have n3_ := zC.mk (zL (g := gb407) (o := .cells #[.slice none 0 0, .slice none 0 0] 31 (0, 0)) (by (with_reducible repeat (first | refine zA ?_ _ | refine zD ?_ | refine zB ?_ _)); exact BK407.out) hb)
              have n4_ := zC.mk (below_step (by repeat (first | (with_reducible first | exact HB.out | apply zH | apply zF | apply zI | refine zE ?_ GE393.out | refine zE ?_ GE407.out) | exact HB.out)) hb)
              clear HO397 HO400 BK393 BK407 HB; have HO397 := n0_; have HO400 := n1_; have BK393 := n2_; have BK407 := n3_; have HB := n4_; clear n0_ n1_ n2_ n3_ n4_; (try clear hb)
              (try clear hb2)
              (try clear hk)
              (try clear hi)
              refine hK.out _ _ ⟨(zG BK393.out 0).trans rfl, (zG BK393.out 1).trans rfl, (zG BK393.out 2).trans rfl, (zG BK393.out 3).trans rfl, (zG BK393.out 4).trans rfl, (zG BK393.out 5).trans rfl⟩ (fun hHeld => ?_)
              clear hK K; refine norm_ (a' := ?_) ?_ ?_
              rotate_left
              · show Act.put _ (some 19) _ = _
                simp only [Act.put, sA_, sB_, sC_, i64_w, i32_w]; rfl
              exact norm_ (by first | (simp only [putAll, Act.put, sA_, sB_, sC_]; done) | (simp only [putAll, Act.put, sA_, sB_, sC_]; rfl)) (hJ1_3_4 (v396, v399, gb407) _ ⟨hHeld, (by (with_reducible repeat (first | apply Kd.R_alloc | apply Kd.R_drewN | apply Kd.R_drew)); exact HO397.out), (by (with_reducible repeat (first | apply Kd.R_alloc | apply Kd.R_drewN | apply Kd.R_drew)); exact HO400.out), (by (with_reducible repeat (first | refine zA ?_ _ | refine zD ?_ | refine zB ?_ _)); exact BK393.out), (by (with_reducible repeat (first | refine zA ?_ _ | refine zD ?_ | refine zB ?_ _)); exact BK407.out), GW407.out, GE407.out, NB393_407.out, NB407_393.out, (by repeat (first | (with_reducible first | exact HB.out | apply zH | apply zF | apply zI | refine zE ?_ GE393.out | refine zE ?_ GE407.out) | exact HB.out))⟩)
            skip
            refine box_step ?hg (N := 6) ?hd (cs := #[.int .i64 0, .int .i64 0, .int .u8 0, .int .i64 0, .int .i64 0, .float .f64 0]) (t := 35) ?hr ?_; (case hd => rfl); (case hg => rfl); (case hr => first | (go_simp; done) | (go_simp; rfl))
            intro gb408 hg w17 hbox hb
            have n0_ := zC.mk (Kd.R_below (by (with_reducible repeat (first | apply Kd.R_alloc | apply Kd.R_drewN | apply Kd.R_drew)); exact HO397.out) hb)
            have n1_ := zC.mk (Kd.R_below (by (with_reducible repeat (first | apply Kd.R_alloc | apply Kd.R_drewN | apply Kd.R_drew)); exact HO400.out) hb)
            have n2_ := zC.mk (zL (g := gb393) (o := .cells #[.int .u8 a1_0, .int .u8 a1_1, .int .u8 a1_2, .int .u16 a1_3, .int .u16 a1_4, .float .f64 a1_5] 26 (0, 0)) (by (with_reducible repeat (first | refine zA ?_ _ | refine zD ?_ | refine zB ?_ _)); exact BK393.out) hb)
            have n3_ := zC.mk (zL (g := gb407) (o := .cells #[.slice none 0 0, .slice none 0 0] 31 (0, 0)) (by (with_reducible repeat (first | refine zA ?_ _ | refine zD ?_ | refine zB ?_ _)); exact BK407.out) hb)
            have n4_ := zC.mk (below_step (by repeat (first | (with_reducible first | exact HB.out | apply zH | apply zF | apply zI | refine zE ?_ GE393.out | refine zE ?_ GE407.out) | exact HB.out)) hb)
            have n5_ := zC.mk (hbox); have n6_ := zC.mk ((by rw [hg]; exact (zK (by repeat (first | (with_reducible first | exact HB.out | apply zH | apply zF | apply zI | refine zE ?_ GE393.out | refine zE ?_ GE407.out) | exact HB.out))) : w.heap.size ≤ gb408))
            have n7_ := zC.mk ((by rw [hg]; exact (zK (by repeat (first | (with_reducible first | exact HB.out | apply zH | apply zF | apply zI | refine zE ?_ GE393.out | refine zE ?_ GE407.out) | exact HB.out))) : w.heap.size ≤ gb408))
            have n8_ := zC.mk ((by rw [hg]; exact Nat.ne_of_lt (blk_lt (g := gb393) (o := .cells #[.int .u8 a1_0, .int .u8 a1_1, .int .u8 a1_2, .int .u16 a1_3, .int .u16 a1_4, .float .f64 a1_5] 26 (0, 0)) (by (with_reducible repeat (first | refine zA ?_ _ | refine zD ?_ | refine zB ?_ _)); exact BK393.out)) : gb393 ≠ gb408))
            have n9_ := zC.mk ((by rw [hg]; exact Nat.ne_of_gt (blk_lt (g := gb393) (o := .cells #[.int .u8 a1_0, .int .u8 a1_1, .int .u8 a1_2, .int .u16 a1_3, .int .u16 a1_4, .float .f64 a1_5] 26 (0, 0)) (by (with_reducible repeat (first | refine zA ?_ _ | refine zD ?_ | refine zB ?_ _)); exact BK393.out)) : gb408 ≠ gb393))
            have n10_ := zC.mk ((by rw [hg]; exact Nat.ne_of_lt (blk_lt (g := gb407) (o := .cells #[.slice none 0 0, .slice none 0 0] 31 (0, 0)) (by (with_reducible repeat (first | refine zA ?_ _ | refine zD ?_ | refine zB ?_ _)); exact BK407.out)) : gb407 ≠ gb408))
            have n11_ := zC.mk ((by rw [hg]; exact Nat.ne_of_gt (blk_lt (g := gb407) (o := .cells #[.slice none 0 0, .slice none 0 0] 31 (0, 0)) (by (with_reducible repeat (first | refine zA ?_ _ | refine zD ?_ | refine zB ?_ _)); exact BK407.out)) : gb408 ≠ gb407))
            clear HO397 HO400 BK393 BK407 HB; have HO397 := n0_; have HO400 := n1_; have BK393 := n2_; have BK407 := n3_; have HB := n4_; have BK408 := n5_; have GW408 := n6_; have GE408 := n7_; have NB393_408 := n8_; have NB408_393 := n9_; have NB407_408 := n10_; have NB408_407 := n11_; clear n0_ n1_ n2_ n3_ n4_ n5_ n6_ n7_ n8_ n9_ n10_ n11_; clear hb hbox hg; refine hK.out _ _ ⟨(zG BK393.out 0).trans rfl, (zG BK393.out 1).trans rfl, (zG BK393.out 2).trans rfl, (zG BK393.out 3).trans rfl, (zG BK393.out 4).trans rfl, (zG BK393.out 5).trans rfl⟩ (fun hHeld => ?_)
            clear hK K; refine norm_ (a' := ?_) ?_ ?_
            rotate_left
            · show Act.put _ (some 6) _ = _
              simp only [Act.put, sA_, sB_, sC_, i64_w, i32_w]; rfl
            exact norm_ (by first | (simp only [putAll, Act.put, sA_, sB_, sC_]; done) | (simp only [putAll, Act.put, sA_, sB_, sC_]; rfl)) (hJ1_4_5 (v396, v399, gb407, gb408) _ ⟨hHeld, (by (with_reducible repeat (first | apply Kd.R_alloc | apply Kd.R_drewN | apply Kd.R_drew)); exact HO397.out), (by (with_reducible repeat (first | apply Kd.R_alloc | apply Kd.R_drewN | apply Kd.R_drew)); exact HO400.out), (by (with_reducible repeat (first | refine zA ?_ _ | refine zD ?_ | refine zB ?_ _)); exact BK393.out), (by (with_reducible repeat (first | refine zA ?_ _ | refine zD ?_ | refine zB ?_ _)); exact BK407.out), (by (with_reducible repeat (first | refine zA ?_ _ | refine zD ?_ | refine zB ?_ _)); exact BK408.out), GW407.out, GE407.out, NB393_407.out, NB407_393.out, NB408_407.out, NB407_408.out, GW408.out, GE408.out, NB393_408.out, NB408_393.out, (by repeat (first | (with_reducible first | exact HB.out | apply zH | apply zF | apply zI | refine zE ?_ GE393.out | refine zE ?_ GE407.out | refine zE ?_ GE408.out) | exact HB.out))⟩)
          skip
          rintro ⟨v396, v399⟩ w16 ⟨hS_, h0_, h1_, h2_, h3_⟩
          have n0_ : zC (Kd.R k61 61 w16 w.heap.size (fun _ => True) v396 t395) := ⟨h0_⟩
          have n1_ : zC (Kd.R (Kd.int .u8) 43 w16 w.heap.size (fun _ => True) v399 t398) := ⟨h1_⟩
          have n2_ : zC (w16.heap[gb393]? = some (.cells #[.int .u8 a1_0, .int .u8 a1_1, .int .u8 a1_2, .int .u16 a1_3, .int .u16 a1_4, .float .f64 a1_5] 26 (0, 0))) := ⟨h2_⟩
          have n3_ : zC (Below w.heap.size w w16) := ⟨h3_⟩
          clear BK393 HB h0_ h1_ h2_ h3_; have HO397 := n0_; have HO400 := n1_; have BK393 := n2_; have HB := n3_; clear n0_ n1_ n2_ n3_; have hHeld : w16.cell? ⟨gb393, 0, none⟩ = some (.int .u8 a1_0) ∧ w16.cell? ⟨gb393, 1, none⟩ = some (.int .u8 a1_1) ∧ w16.cell? ⟨gb393, 2, none⟩ = some (.int .u8 a1_2) ∧ w16.cell? ⟨gb393, 3, none⟩ = some (.int .u16 a1_3) ∧ w16.cell? ⟨gb393, 4, none⟩ = some (.int .u16 a1_4) ∧ w16.cell? ⟨gb393, 5, none⟩ = some (.float .f64 a1_5) := hS_
          refine norm_ (a' := ?_) ?_ ?_
          rotate_left
          · simp only [putAll, Act.put, sA_, sB_, sC_]
            rfl
          refine two_ (i := 4) (j := 5) (Ni := some 5) (Nj := some 6) #[true, true, true, true, true, false, false, false] #[true, true, true, true, false, true, false, false] rfl rfl rfl rfl (two_of HT_.out (by kernel_rfl)) (by decide) (by decide) (fun K hK => ?_) (fun K hK => ?_)
          · skip
            refine box_step ?hg (N := 5) ?hd (cs := #[.slice none 0 0, .slice none 0 0]) (t := 31) ?hr ?_; (case hd => rfl); (case hg => rfl); (case hr => first | (go_simp; done) | (go_simp; rfl))
            intro gb407 hg w17 hbox hb
            have n0_ := zC.mk (Kd.R_below (by (with_reducible repeat (first | apply Kd.R_alloc | apply Kd.R_drewN | apply Kd.R_drew)); exact HO397.out) hb)
            have n1_ := zC.mk (Kd.R_below (by (with_reducible repeat (first | apply Kd.R_alloc | apply Kd.R_drewN | apply Kd.R_drew)); exact HO400.out) hb)
            have n2_ := zC.mk (zL (g := gb393) (o := .cells #[.int .u8 a1_0, .int .u8 a1_1, .int .u8 a1_2, .int .u16 a1_3, .int .u16 a1_4, .float .f64 a1_5] 26 (0, 0)) (by (with_reducible repeat (first | refine zA ?_ _ | refine zD ?_ | refine zB ?_ _)); exact BK393.out) hb)
            have n3_ := zC.mk (below_step (by repeat (first | (with_reducible first | exact HB.out | apply zH | apply zF | apply zI | refine zE ?_ GE393.out) | exact HB.out)) hb)
            have n4_ := zC.mk (hbox); have n5_ := zC.mk ((by rw [hg]; exact (zK (by repeat (first | (with_reducible first | exact HB.out | apply zH | apply zF | apply zI | refine zE ?_ GE393.out) | exact HB.out))) : w.heap.size ≤ gb407))
            have n6_ := zC.mk ((by rw [hg]; exact (zK (by repeat (first | (with_reducible first | exact HB.out | apply zH | apply zF | apply zI | refine zE ?_ GE393.out) | exact HB.out))) : w.heap.size ≤ gb407))
            have n7_ := zC.mk ((by rw [hg]; exact Nat.ne_of_lt (blk_lt (g := gb393) (o := .cells #[.int .u8 a1_0, .int .u8 a1_1, .int .u8 a1_2, .int .u16 a1_3, .int .u16 a1_4, .float .f64 a1_5] 26 (0, 0)) (by (with_reducible repeat (first | refine zA ?_ _ | refine zD ?_ | refine zB ?_ _)); exact BK393.out)) : gb393 ≠ gb407))
            have n8_ := zC.mk ((by rw [hg]; exact Nat.ne_of_gt (blk_lt (g := gb393) (o := .cells #[.int .u8 a1_0, .int .u8 a1_1, .int .u8 a1_2, .int .u16 a1_3, .int .u16 a1_4, .float .f64 a1_5] 26 (0, 0)) (by (with_reducible repeat (first | refine zA ?_ _ | refine zD ?_ | refine zB ?_ _)); exact BK393.out)) : gb407 ≠ gb393))
            clear HO397 HO400 BK393 HB; have HO397 := n0_; have HO400 := n1_; have BK393 := n2_; have HB := n3_; have BK407 := n4_; have GW407 := n5_; have GE407 := n6_; have NB393_407 := n7_; have NB407_393 := n8_; clear n0_ n1_ n2_ n3_ n4_ n5_ n6_ n7_ n8_; clear hb hbox hg; refine hK.out _ _ ⟨(zG BK393.out 0).trans rfl, (zG BK393.out 1).trans rfl, (zG BK393.out 2).trans rfl, (zG BK393.out 3).trans rfl, (zG BK393.out 4).trans rfl, (zG BK393.out 5).trans rfl⟩ (fun hHeld => ?_)
            clear hK K; refine norm_ (a' := ?_) ?_ ?_
            rotate_left
            · show Act.put _ (some 5) _ = _
              simp only [Act.put, sA_, sB_, sC_, i64_w, i32_w]; rfl
            exact norm_ (by first | (simp only [putAll, Act.put, sA_, sB_, sC_]; done) | (simp only [putAll, Act.put, sA_, sB_, sC_]; rfl)) (hJ1_3_4 (v396, v399, gb407) _ ⟨hHeld, (by (with_reducible repeat (first | apply Kd.R_alloc | apply Kd.R_drewN | apply Kd.R_drew)); exact HO397.out), (by (with_reducible repeat (first | apply Kd.R_alloc | apply Kd.R_drewN | apply Kd.R_drew)); exact HO400.out), (by (with_reducible repeat (first | refine zA ?_ _ | refine zD ?_ | refine zB ?_ _)); exact BK393.out), (by (with_reducible repeat (first | refine zA ?_ _ | refine zD ?_ | refine zB ?_ _)); exact BK407.out), GW407.out, GE407.out, NB393_407.out, NB407_393.out, (by repeat (first | (with_reducible first | exact HB.out | apply zH | apply zF | apply zI | refine zE ?_ GE393.out | refine zE ?_ GE407.out) | exact HB.out))⟩)
          skip
          refine box_step ?hg (N := 6) ?hd (cs := #[.int .i64 0, .int .i64 0, .int .u8 0, .int .i64 0, .int .i64 0, .float .f64 0]) (t := 35) ?hr ?_; (case hd => rfl); (case hg => rfl); (case hr => first | (go_simp; done) | (go_simp; rfl))
          intro gb408 hg w17 hbox hb
          have n0_ := zC.mk (Kd.R_below (by (with_reducible repeat (first | apply Kd.R_alloc | apply Kd.R_drewN | apply Kd.R_drew)); exact HO397.out) hb)
          have n1_ := zC.mk (Kd.R_below (by (with_reducible repeat (first | apply Kd.R_alloc | apply Kd.R_drewN | apply Kd.R_drew)); exact HO400.out) hb)
          have n2_ := zC.mk (zL (g := gb393) (o := .cells #[.int .u8 a1_0, .int .u8 a1_1, .int .u8 a1_2, .int .u16 a1_3, .int .u16 a1_4, .float .f64 a1_5] 26 (0, 0)) (by (with_reducible repeat (first | refine zA ?_ _ | refine zD ?_ | refine zB ?_ _)); exact BK393.out) hb)
          have n3_ := zC.mk (below_step (by repeat (first | (with_reducible first | exact HB.out | apply zH | apply zF | apply zI | refine zE ?_ GE393.out) | exact HB.out)) hb)
          have n4_ := zC.mk (hbox); have n5_ := zC.mk ((by rw [hg]; exact (zK (by repeat (first | (with_reducible first | exact HB.out | apply zH | apply zF | apply zI | refine zE ?_ GE393.out) | exact HB.out))) : w.heap.size ≤ gb408))
          have n6_ := zC.mk ((by rw [hg]; exact (zK (by repeat (first | (with_reducible first | exact HB.out | apply zH | apply zF | apply zI | refine zE ?_ GE393.out) | exact HB.out))) : w.heap.size ≤ gb408))
          have n7_ := zC.mk ((by rw [hg]; exact Nat.ne_of_lt (blk_lt (g := gb393) (o := .cells #[.int .u8 a1_0, .int .u8 a1_1, .int .u8 a1_2, .int .u16 a1_3, .int .u16 a1_4, .float .f64 a1_5] 26 (0, 0)) (by (with_reducible repeat (first | refine zA ?_ _ | refine zD ?_ | refine zB ?_ _)); exact BK393.out)) : gb393 ≠ gb408))
          have n8_ := zC.mk ((by rw [hg]; exact Nat.ne_of_gt (blk_lt (g := gb393) (o := .cells #[.int .u8 a1_0, .int .u8 a1_1, .int .u8 a1_2, .int .u16 a1_3, .int .u16 a1_4, .float .f64 a1_5] 26 (0, 0)) (by (with_reducible repeat (first | refine zA ?_ _ | refine zD ?_ | refine zB ?_ _)); exact BK393.out)) : gb408 ≠ gb393))
          clear HO397 HO400 BK393 HB; have HO397 := n0_; have HO400 := n1_; have BK393 := n2_; have HB := n3_; have BK408 := n4_; have GW408 := n5_; have GE408 := n6_; have NB393_408 := n7_; have NB408_393 := n8_; clear n0_ n1_ n2_ n3_ n4_ n5_ n6_ n7_ n8_; clear hb hbox hg; refine hK.out _ _ ⟨(zG BK393.out 0).trans rfl, (zG BK393.out 1).trans rfl, (zG BK393.out 2).trans rfl, (zG BK393.out 3).trans rfl, (zG BK393.out 4).trans rfl, (zG BK393.out 5).trans rfl⟩ (fun hHeld => ?_)
          clear hK K; refine norm_ (a' := ?_) ?_ ?_
          rotate_left
          · show Act.put _ (some 6) _ = _
            simp only [Act.put, sA_, sB_, sC_, i64_w, i32_w]; rfl
          exact norm_ (by first | (simp only [putAll, Act.put, sA_, sB_, sC_]; done) | (simp only [putAll, Act.put, sA_, sB_, sC_]; rfl)) (hJ1_3_5 (v396, v399, gb408) _ ⟨hHeld, (by (with_reducible repeat (first | apply Kd.R_alloc | apply Kd.R_drewN | apply Kd.R_drew)); exact HO397.out), (by (with_reducible repeat (first | apply Kd.R_alloc | apply Kd.R_drewN | apply Kd.R_drew)); exact HO400.out), (by (with_reducible repeat (first | refine zA ?_ _ | refine zD ?_ | refine zB ?_ _)); exact BK393.out), (by (with_reducible repeat (first | refine zA ?_ _ | refine zD ?_ | refine zB ?_ _)); exact BK408.out), GW408.out, GE408.out, NB393_408.out, NB408_393.out, (by repeat (first | (with_reducible first | exact HB.out | apply zH | apply zF | apply zI | refine zE ?_ GE393.out | refine zE ?_ GE408.out) | exact HB.out))⟩)
        skip
        rintro ⟨v396, v399, gb407, gb408⟩ w17 ⟨hS_, h0_, h1_, h2_, h3_, h4_, h5_, h6_, h7_, h8_, h9_, h10_, h11_, h12_, h13_, h14_, h15_⟩
        have n0_ : zC (Kd.R k61 61 w17 w.heap.size (fun _ => True) v396 t395) := ⟨h0_⟩
        have n1_ : zC (Kd.R (Kd.int .u8) 43 w17 w.heap.size (fun _ => True) v399 t398) := ⟨h1_⟩
        have n2_ : zC (w17.heap[gb393]? = some (.cells #[.int .u8 a1_0, .int .u8 a1_1, .int .u8 a1_2, .int .u16 a1_3, .int .u16 a1_4, .float .f64 a1_5] 26 (0, 0))) := ⟨h2_⟩
        have n3_ : zC (w17.heap[gb407]? = some (.cells #[.slice none 0 0, .slice none 0 0] 31 (0, 0))) := ⟨h3_⟩
        have n4_ : zC (w17.heap[gb408]? = some (.cells #[.int .i64 0, .int .i64 0, .int .u8 0, .int .i64 0, .int .i64 0, .float .f64 0] 35 (0, 0))) := ⟨h4_⟩
        have n5_ : zC (w.heap.size ≤ gb407) := ⟨h5_⟩
        have n6_ : zC (w.heap.size ≤ gb407) := ⟨h6_⟩
        have n7_ : zC (gb393 ≠ gb407) := ⟨h7_⟩
        have n8_ : zC (gb407 ≠ gb393) := ⟨h8_⟩
        have n9_ : zC (gb408 ≠ gb407) := ⟨h9_⟩
        have n10_ : zC (gb407 ≠ gb408) := ⟨h10_⟩
        have n11_ : zC (w.heap.size ≤ gb408) := ⟨h11_⟩
        have n12_ : zC (w.heap.size ≤ gb408) := ⟨h12_⟩
        have n13_ : zC (gb393 ≠ gb408) := ⟨h13_⟩
        have n14_ : zC (gb408 ≠ gb393) := ⟨h14_⟩
        have n15_ : zC (Below w.heap.size w w17) := ⟨h15_⟩
        clear BK393 HB h0_ h1_ h2_ h3_ h4_ h5_ h6_ h7_ h8_ h9_ h10_ h11_ h12_ h13_ h14_ h15_; have HO397 := n0_; have HO400 := n1_; have BK393 := n2_; have BK407 := n3_; have BK408 := n4_; have GW407 := n5_; have GE407 := n6_; have NB393_407 := n7_; have NB407_393 := n8_; have NB408_407 := n9_; have NB407_408 := n10_; have GW408 := n11_; have GE408 := n12_; have NB393_408 := n13_; have NB408_393 := n14_; have HB := n15_; clear n0_ n1_ n2_ n3_ n4_ n5_ n6_ n7_ n8_ n9_ n10_ n11_ n12_ n13_ n14_ n15_; have hHeld : w17.cell? ⟨gb393, 0, none⟩ = some (.int .u8 a1_0) ∧ w17.cell? ⟨gb393, 1, none⟩ = some (.int .u8 a1_1) ∧ w17.cell? ⟨gb393, 2, none⟩ = some (.int .u8 a1_2) ∧ w17.cell? ⟨gb393, 3, none⟩ = some (.int .u16 a1_3) ∧ w17.cell? ⟨gb393, 4, none⟩ = some (.int .u16 a1_4) ∧ w17.cell? ⟨gb393, 5, none⟩ = some (.float .f64 a1_5) := hS_
        refine norm_ (a' := ?_) ?_ ?_
        rotate_left
        · simp only [putAll, Act.put, sA_, sB_, sC_]
          rfl
        refine one_ (i := 3) (N := some 19) #[true, true, true, true, true, true, false, false] rfl rfl (one_of HT_.out (by kernel_rfl)) (by decide) (fun K hK => ?_)
        refine goes_ Try.func14 (by kernel_rfl) rfl #[.agg #[.int .u8 a1_0, .int .u8 a1_1, .int .u8 a1_2, .int .u16 a1_3, .int .u16 a1_4, .float .f64 a1_5]] (by rfl) rfl rfl (by (try simp only [List.map_toArray, List.map_cons, List.map_nil]); first | done | rfl | (simp only [List.length_drop, List.length_take]; rfl)) ?_
        with_reducible refine (stanzahand03_Config.calls a1_0 a1_1 a1_2 a1_3 a1_4 a1_5 t401 t402 t403 t404 t405 t406 _ A9.out).mono ?_
        rintro e w18 ⟨rfl, hb⟩
        refine ⟨_, rfl, ?_⟩
        have n0_ := zC.mk (Kd.R_below (by (with_reducible repeat (first | apply Kd.R_alloc | apply Kd.R_drewN | apply Kd.R_drew)); exact HO397.out) hb)
        have n1_ := zC.mk (Kd.R_below (by (with_reducible repeat (first | apply Kd.R_alloc | apply Kd.R_drewN | apply Kd.R_drew)); exact HO400.out) hb)
        have n2_ := zC.mk (zL (g := gb393) (o := .cells #[.int .u8 a1_0, .int .u8 a1_1, .int .u8 a1_2, .int .u16 a1_3, .int .u16 a1_4, .float .f64 a1_5] 26 (0, 0)) (by (with_reducible repeat (first | refine zA ?_ _ | refine zD ?_ | refine zB ?_ _)); exact BK393.out) hb)
        have n3_ := zC.mk (zL (g := gb407) (o := .cells #[.slice none 0 0, .slice none 0 0] 31 (0, 0)) (by (with_reducible repeat (first | refine zA ?_ _ | refine zD ?_ | refine zB ?_ _)); exact BK407.out) hb)
        have n4_ := zC.mk (zL (g := gb408) (o := .cells #[.int .i64 0, .int .i64 0, .int .u8 0, .int .i64 0, .int .i64 0, .float .f64 0] 35 (0, 0)) (by (with_reducible repeat (first | refine zA ?_ _ | refine zD ?_ | refine zB ?_ _)); exact BK408.out) hb)
        have n5_ := zC.mk (below_step (by repeat (first | (with_reducible first | exact HB.out | apply zH | apply zF | apply zI | refine zE ?_ GE393.out | refine zE ?_ GE407.out | refine zE ?_ GE408.out) | exact HB.out)) hb)
        clear HO397 HO400 BK393 BK407 BK408 HB; have HO397 := n0_; have HO400 := n1_; have BK393 := n2_; have BK407 := n3_; have BK408 := n4_; have HB := n5_; clear n0_ n1_ n2_ n3_ n4_ n5_; (try clear hb)
        (try clear hb2)
        (try clear hk)
        (try clear hi)
        refine hK.out _ _ ⟨(zG BK393.out 0).trans rfl, (zG BK393.out 1).trans rfl, (zG BK393.out 2).trans rfl, (zG BK393.out 3).trans rfl, (zG BK393.out 4).trans rfl, (zG BK393.out 5).trans rfl⟩ (fun hHeld => ?_)
        clear hK K; refine norm_ (a' := ?_) ?_ ?_
        rotate_left
        · show Act.put _ (some 19) _ = _
          simp only [Act.put, sA_, sB_, sC_, i64_w, i32_w]; rfl
        exact norm_ (by first | (simp only [putAll, Act.put, sA_, sB_, sC_]; done) | (simp only [putAll, Act.put, sA_, sB_, sC_]; rfl)) (hJ1_3_4_5 (v396, v399, gb407, gb408) _ ⟨hHeld, (by (with_reducible repeat (first | apply Kd.R_alloc | apply Kd.R_drewN | apply Kd.R_drew)); exact HO397.out), (by (with_reducible repeat (first | apply Kd.R_alloc | apply Kd.R_drewN | apply Kd.R_drew)); exact HO400.out), (by (with_reducible repeat (first | refine zA ?_ _ | refine zD ?_ | refine zB ?_ _)); exact BK393.out), (by (with_reducible repeat (first | refine zA ?_ _ | refine zD ?_ | refine zB ?_ _)); exact BK407.out), (by (with_reducible repeat (first | refine zA ?_ _ | refine zD ?_ | refine zB ?_ _)); exact BK408.out), GW407.out, GE407.out, NB393_407.out, NB407_393.out, NB408_407.out, NB407_408.out, GW408.out, GE408.out, NB393_408.out, NB408_393.out, (by repeat (first | (with_reducible first | exact HB.out | apply zH | apply zF | apply zI | refine zE ?_ GE393.out | refine zE ?_ GE407.out | refine zE ?_ GE408.out) | exact HB.out))⟩)
      skip
      rintro ⟨v396, v399, gb408⟩ w17 ⟨hS_, h0_, h1_, h2_, h3_, h4_, h5_, h6_, h7_, h8_⟩
      have n0_ : zC (Kd.R k61 61 w17 w.heap.size (fun _ => True) v396 t395) := ⟨h0_⟩
      have n1_ : zC (Kd.R (Kd.int .u8) 43 w17 w.heap.size (fun _ => True) v399 t398) := ⟨h1_⟩
      have n2_ : zC (w17.heap[gb393]? = some (.cells #[.int .u8 a1_0, .int .u8 a1_1, .int .u8 a1_2, .int .u16 a1_3, .int .u16 a1_4, .float .f64 a1_5] 26 (0, 0))) := ⟨h2_⟩
      have n3_ : zC (w17.heap[gb408]? = some (.cells #[.int .i64 0, .int .i64 0, .int .u8 0, .int .i64 0, .int .i64 0, .float .f64 0] 35 (0, 0))) := ⟨h3_⟩
      have n4_ : zC (w.heap.size ≤ gb408) := ⟨h4_⟩
      have n5_ : zC (w.heap.size ≤ gb408) := ⟨h5_⟩
      have n6_ : zC (gb393 ≠ gb408) := ⟨h6_⟩
      have n7_ : zC (gb408 ≠ gb393) := ⟨h7_⟩
      have n8_ : zC (Below w.heap.size w w17) := ⟨h8_⟩
      clear BK393 HB h0_ h1_ h2_ h3_ h4_ h5_ h6_ h7_ h8_; have HO397 := n0_; have HO400 := n1_; have BK393 := n2_; have BK408 := n3_; have GW408 := n4_; have GE408 := n5_; have NB393_408 := n6_; have NB408_393 := n7_; have HB := n8_; clear n0_ n1_ n2_ n3_ n4_ n5_ n6_ n7_ n8_; have hHeld : w17.cell? ⟨gb393, 0, none⟩ = some (.int .u8 a1_0) ∧ w17.cell? ⟨gb393, 1, none⟩ = some (.int .u8 a1_1) ∧ w17.cell? ⟨gb393, 2, none⟩ = some (.int .u8 a1_2) ∧ w17.cell? ⟨gb393, 3, none⟩ = some (.int .u16 a1_3) ∧ w17.cell? ⟨gb393, 4, none⟩ = some (.int .u16 a1_4) ∧ w17.cell? ⟨gb393, 5, none⟩ = some (.float .f64 a1_5) := hS_
      refine norm_ (a' := ?_) ?_ ?_
      rotate_left
      · simp only [putAll, Act.put, sA_, sB_, sC_]
        rfl
      refine one_ (i := 4) (N := some 5) #[true, true, true, true, true, true, false, false] rfl rfl (one_of HT_.out (by kernel_rfl)) (by decide) (fun K hK => ?_)
      refine box_step ?hg (N := 5) ?hd (cs := #[.slice none 0 0, .slice none 0 0]) (t := 31) ?hr ?_; (case hd => rfl); (case hg => rfl); (case hr => first | (go_simp; done) | (go_simp; rfl))
      intro gb407 hg w18 hbox hb
      have n0_ := zC.mk (Kd.R_below (by (with_reducible repeat (first | apply Kd.R_alloc | apply Kd.R_drewN | apply Kd.R_drew)); exact HO397.out) hb)
      have n1_ := zC.mk (Kd.R_below (by (with_reducible repeat (first | apply Kd.R_alloc | apply Kd.R_drewN | apply Kd.R_drew)); exact HO400.out) hb)
      have n2_ := zC.mk (zL (g := gb393) (o := .cells #[.int .u8 a1_0, .int .u8 a1_1, .int .u8 a1_2, .int .u16 a1_3, .int .u16 a1_4, .float .f64 a1_5] 26 (0, 0)) (by (with_reducible repeat (first | refine zA ?_ _ | refine zD ?_ | refine zB ?_ _)); exact BK393.out) hb)
      have n3_ := zC.mk (zL (g := gb408) (o := .cells #[.int .i64 0, .int .i64 0, .int .u8 0, .int .i64 0, .int .i64 0, .float .f64 0] 35 (0, 0)) (by (with_reducible repeat (first | refine zA ?_ _ | refine zD ?_ | refine zB ?_ _)); exact BK408.out) hb)
      have n4_ := zC.mk (below_step (by repeat (first | (with_reducible first | exact HB.out | apply zH | apply zF | apply zI | refine zE ?_ GE393.out | refine zE ?_ GE408.out) | exact HB.out)) hb)
      have n5_ := zC.mk (hbox); have n6_ := zC.mk ((by rw [hg]; exact (zK (by repeat (first | (with_reducible first | exact HB.out | apply zH | apply zF | apply zI | refine zE ?_ GE393.out | refine zE ?_ GE408.out) | exact HB.out))) : w.heap.size ≤ gb407))
      have n7_ := zC.mk ((by rw [hg]; exact (zK (by repeat (first | (with_reducible first | exact HB.out | apply zH | apply zF | apply zI | refine zE ?_ GE393.out | refine zE ?_ GE408.out) | exact HB.out))) : w.heap.size ≤ gb407))
      have n8_ := zC.mk ((by rw [hg]; exact Nat.ne_of_lt (blk_lt (g := gb393) (o := .cells #[.int .u8 a1_0, .int .u8 a1_1, .int .u8 a1_2, .int .u16 a1_3, .int .u16 a1_4, .float .f64 a1_5] 26 (0, 0)) (by (with_reducible repeat (first | refine zA ?_ _ | refine zD ?_ | refine zB ?_ _)); exact BK393.out)) : gb393 ≠ gb407))
      have n9_ := zC.mk ((by rw [hg]; exact Nat.ne_of_gt (blk_lt (g := gb393) (o := .cells #[.int .u8 a1_0, .int .u8 a1_1, .int .u8 a1_2, .int .u16 a1_3, .int .u16 a1_4, .float .f64 a1_5] 26 (0, 0)) (by (with_reducible repeat (first | refine zA ?_ _ | refine zD ?_ | refine zB ?_ _)); exact BK393.out)) : gb407 ≠ gb393))
      have n10_ := zC.mk ((by rw [hg]; exact Nat.ne_of_lt (blk_lt (g := gb408) (o := .cells #[.int .i64 0, .int .i64 0, .int .u8 0, .int .i64 0, .int .i64 0, .float .f64 0] 35 (0, 0)) (by (with_reducible repeat (first | refine zA ?_ _ | refine zD ?_ | refine zB ?_ _)); exact BK408.out)) : gb408 ≠ gb407))
      have n11_ := zC.mk ((by rw [hg]; exact Nat.ne_of_gt (blk_lt (g := gb408) (o := .cells #[.int .i64 0, .int .i64 0, .int .u8 0, .int .i64 0, .int .i64 0, .float .f64 0] 35 (0, 0)) (by (with_reducible repeat (first | refine zA ?_ _ | refine zD ?_ | refine zB ?_ _)); exact BK408.out)) : gb407 ≠ gb408))
      clear HO397 HO400 BK393 BK408 HB; have HO397 := n0_; have HO400 := n1_; have BK393 := n2_; have BK408 := n3_; have HB := n4_; have BK407 := n5_; have GW407 := n6_; have GE407 := n7_; have NB393_407 := n8_; have NB407_393 := n9_; have NB408_407 := n10_; have NB407_408 := n11_; clear n0_ n1_ n2_ n3_ n4_ n5_ n6_ n7_ n8_ n9_ n10_ n11_; clear hb hbox hg; refine hK.out _ _ ⟨(zG BK393.out 0).trans rfl, (zG BK393.out 1).trans rfl, (zG BK393.out 2).trans rfl, (zG BK393.out 3).trans rfl, (zG BK393.out 4).trans rfl, (zG BK393.out 5).trans rfl⟩ (fun hHeld => ?_)
      clear hK K; refine norm_ (a' := ?_) ?_ ?_
      rotate_left
      · show Act.put _ (some 5) _ = _
        simp only [Act.put, sA_, sB_, sC_, i64_w, i32_w]; rfl
      exact norm_ (by first | (simp only [putAll, Act.put, sA_, sB_, sC_]; done) | (simp only [putAll, Act.put, sA_, sB_, sC_]; rfl)) (hJ1_3_4_5 (v396, v399, gb407, gb408) _ ⟨hHeld, (by (with_reducible repeat (first | apply Kd.R_alloc | apply Kd.R_drewN | apply Kd.R_drew)); exact HO397.out), (by (with_reducible repeat (first | apply Kd.R_alloc | apply Kd.R_drewN | apply Kd.R_drew)); exact HO400.out), (by (with_reducible repeat (first | refine zA ?_ _ | refine zD ?_ | refine zB ?_ _)); exact BK393.out), (by (with_reducible repeat (first | refine zA ?_ _ | refine zD ?_ | refine zB ?_ _)); exact BK407.out), (by (with_reducible repeat (first | refine zA ?_ _ | refine zD ?_ | refine zB ?_ _)); exact BK408.out), GW407.out, GE407.out, NB393_407.out, NB407_393.out, NB408_407.out, NB407_408.out, GW408.out, GE408.out, NB393_408.out, NB408_393.out, (by repeat (first | (with_reducible first | exact HB.out | apply zH | apply zF | apply zI | refine zE ?_ GE393.out | refine zE ?_ GE408.out | refine zE ?_ GE407.out) | exact HB.out))⟩)
    skip
    rintro ⟨v396, v399, gb407⟩ w17 ⟨hS_, h0_, h1_, h2_, h3_, h4_, h5_, h6_, h7_, h8_⟩
    have n0_ : zC (Kd.R k61 61 w17 w.heap.size (fun _ => True) v396 t395) := ⟨h0_⟩
    have n1_ : zC (Kd.R (Kd.int .u8) 43 w17 w.heap.size (fun _ => True) v399 t398) := ⟨h1_⟩
    have n2_ : zC (w17.heap[gb393]? = some (.cells #[.int .u8 a1_0, .int .u8 a1_1, .int .u8 a1_2, .int .u16 a1_3, .int .u16 a1_4, .float .f64 a1_5] 26 (0, 0))) := ⟨h2_⟩
    have n3_ : zC (w17.heap[gb407]? = some (.cells #[.slice none 0 0, .slice none 0 0] 31 (0, 0))) := ⟨h3_⟩
    have n4_ : zC (w.heap.size ≤ gb407) := ⟨h4_⟩
    have n5_ : zC (w.heap.size ≤ gb407) := ⟨h5_⟩
    have n6_ : zC (gb393 ≠ gb407) := ⟨h6_⟩
    have n7_ : zC (gb407 ≠ gb393) := ⟨h7_⟩
    have n8_ : zC (Below w.heap.size w w17) := ⟨h8_⟩
    clear BK393 HB h0_ h1_ h2_ h3_ h4_ h5_ h6_ h7_ h8_; have HO397 := n0_; have HO400 := n1_; have BK393 := n2_; have BK407 := n3_; have GW407 := n4_; have GE407 := n5_; have NB393_407 := n6_; have NB407_393 := n7_; have HB := n8_; clear n0_ n1_ n2_ n3_ n4_ n5_ n6_ n7_ n8_; have hHeld : w17.cell? ⟨gb393, 0, none⟩ = some (.int .u8 a1_0) ∧ w17.cell? ⟨gb393, 1, none⟩ = some (.int .u8 a1_1) ∧ w17.cell? ⟨gb393, 2, none⟩ = some (.int .u8 a1_2) ∧ w17.cell? ⟨gb393, 3, none⟩ = some (.int .u16 a1_3) ∧ w17.cell? ⟨gb393, 4, none⟩ = some (.int .u16 a1_4) ∧ w17.cell? ⟨gb393, 5, none⟩ = some (.float .f64 a1_5) := hS_
    refine norm_ (a' := ?_) ?_ ?_
    rotate_left
    · simp only [putAll, Act.put, sA_, sB_, sC_]
      rfl
    refine one_ (i := 5) (N := some 6) #[true, true, true, true, true, true, false, false] rfl rfl (one_of HT_.out (by kernel_rfl)) (by decide) (fun K hK => ?_)
    refine box_step ?hg (N := 6) ?hd (cs := #[.int .i64 0, .int .i64 0, .int .u8 0, .int .i64 0, .int .i64 0, .float .f64 0]) (t := 35) ?hr ?_; (case hd => rfl); (case hg => rfl); (case hr => first | (go_simp; done) | (go_simp; rfl))
    intro gb408 hg w18 hbox hb
    have n0_ := zC.mk (Kd.R_below (by (with_reducible repeat (first | apply Kd.R_alloc | apply Kd.R_drewN | apply Kd.R_drew)); exact HO397.out) hb)
    have n1_ := zC.mk (Kd.R_below (by (with_reducible repeat (first | apply Kd.R_alloc | apply Kd.R_drewN | apply Kd.R_drew)); exact HO400.out) hb)
    have n2_ := zC.mk (zL (g := gb393) (o := .cells #[.int .u8 a1_0, .int .u8 a1_1, .int .u8 a1_2, .int .u16 a1_3, .int .u16 a1_4, .float .f64 a1_5] 26 (0, 0)) (by (with_reducible repeat (first | refine zA ?_ _ | refine zD ?_ | refine zB ?_ _)); exact BK393.out) hb)
    have n3_ := zC.mk (zL (g := gb407) (o := .cells #[.slice none 0 0, .slice none 0 0] 31 (0, 0)) (by (with_reducible repeat (first | refine zA ?_ _ | refine zD ?_ | refine zB ?_ _)); exact BK407.out) hb)
    have n4_ := zC.mk (below_step (by repeat (first | (with_reducible first | exact HB.out | apply zH | apply zF | apply zI | refine zE ?_ GE393.out | refine zE ?_ GE407.out) | exact HB.out)) hb)
    have n5_ := zC.mk (hbox); have n6_ := zC.mk ((by rw [hg]; exact (zK (by repeat (first | (with_reducible first | exact HB.out | apply zH | apply zF | apply zI | refine zE ?_ GE393.out | refine zE ?_ GE407.out) | exact HB.out))) : w.heap.size ≤ gb408))
    have n7_ := zC.mk ((by rw [hg]; exact (zK (by repeat (first | (with_reducible first | exact HB.out | apply zH | apply zF | apply zI | refine zE ?_ GE393.out | refine zE ?_ GE407.out) | exact HB.out))) : w.heap.size ≤ gb408))
    have n8_ := zC.mk ((by rw [hg]; exact Nat.ne_of_lt (blk_lt (g := gb393) (o := .cells #[.int .u8 a1_0, .int .u8 a1_1, .int .u8 a1_2, .int .u16 a1_3, .int .u16 a1_4, .float .f64 a1_5] 26 (0, 0)) (by (with_reducible repeat (first | refine zA ?_ _ | refine zD ?_ | refine zB ?_ _)); exact BK393.out)) : gb393 ≠ gb408))
    have n9_ := zC.mk ((by rw [hg]; exact Nat.ne_of_gt (blk_lt (g := gb393) (o := .cells #[.int .u8 a1_0, .int .u8 a1_1, .int .u8 a1_2, .int .u16 a1_3, .int .u16 a1_4, .float .f64 a1_5] 26 (0, 0)) (by (with_reducible repeat (first | refine zA ?_ _ | refine zD ?_ | refine zB ?_ _)); exact BK393.out)) : gb408 ≠ gb393))
    have n10_ := zC.mk ((by rw [hg]; exact Nat.ne_of_lt (blk_lt (g := gb407) (o := .cells #[.slice none 0 0, .slice none 0 0] 31 (0, 0)) (by (with_reducible repeat (first | refine zA ?_ _ | refine zD ?_ | refine zB ?_ _)); exact BK407.out)) : gb407 ≠ gb408))
    have n11_ := zC.mk ((by rw [hg]; exact Nat.ne_of_gt (blk_lt (g := gb407) (o := .cells #[.slice none 0 0, .slice none 0 0] 31 (0, 0)) (by (with_reducible repeat (first | refine zA ?_ _ | refine zD ?_ | refine zB ?_ _)); exact BK407.out)) : gb408 ≠ gb407))
    clear HO397 HO400 BK393 BK407 HB; have HO397 := n0_; have HO400 := n1_; have BK393 := n2_; have BK407 := n3_; have HB := n4_; have BK408 := n5_; have GW408 := n6_; have GE408 := n7_; have NB393_408 := n8_; have NB408_393 := n9_; have NB407_408 := n10_; have NB408_407 := n11_; clear n0_ n1_ n2_ n3_ n4_ n5_ n6_ n7_ n8_ n9_ n10_ n11_; clear hb hbox hg; refine hK.out _ _ ⟨(zG BK393.out 0).trans rfl, (zG BK393.out 1).trans rfl, (zG BK393.out 2).trans rfl, (zG BK393.out 3).trans rfl, (zG BK393.out 4).trans rfl, (zG BK393.out 5).trans rfl⟩ (fun hHeld => ?_)
    clear hK K; refine norm_ (a' := ?_) ?_ ?_
    rotate_left
    · show Act.put _ (some 6) _ = _
      simp only [Act.put, sA_, sB_, sC_, i64_w, i32_w]; rfl
    exact norm_ (by first | (simp only [putAll, Act.put, sA_, sB_, sC_]; done) | (simp only [putAll, Act.put, sA_, sB_, sC_]; rfl)) (hJ1_3_4_5 (v396, v399, gb407, gb408) _ ⟨hHeld, (by (with_reducible repeat (first | apply Kd.R_alloc | apply Kd.R_drewN | apply Kd.R_drew)); exact HO397.out), (by (with_reducible repeat (first | apply Kd.R_alloc | apply Kd.R_drewN | apply Kd.R_drew)); exact HO400.out), (by (with_reducible repeat (first | refine zA ?_ _ | refine zD ?_ | refine zB ?_ _)); exact BK393.out), (by (with_reducible repeat (first | refine zA ?_ _ | refine zD ?_ | refine zB ?_ _)); exact BK407.out), (by (with_reducible repeat (first | refine zA ?_ _ | refine zD ?_ | refine zB ?_ _)); exact BK408.out), GW407.out, GE407.out, NB393_407.out, NB407_393.out, NB408_407.out, NB407_408.out, GW408.out, GE408.out, NB393_408.out, NB408_393.out, (by repeat (first | (with_reducible first | exact HB.out | apply zH | apply zF | apply zI | refine zE ?_ GE393.out | refine zE ?_ GE407.out | refine zE ?_ GE408.out) | exact HB.out))⟩)
  rintro ⟨v396, v399, gb407, gb408⟩ w18 ⟨hS_, h0_, h1_, h2_, h3_, h4_, h5_, h6_, h7_, h8_, h9_, h10_, h11_, h12_, h13_, h14_, h15_⟩
  have n0_ : zC (Kd.R k61 61 w18 w.heap.size (fun _ => True) v396 t395) := ⟨h0_⟩
  have n1_ : zC (Kd.R (Kd.int .u8) 43 w18 w.heap.size (fun _ => True) v399 t398) := ⟨h1_⟩
  have n2_ : zC (w18.heap[gb393]? = some (.cells #[.int .u8 a1_0, .int .u8 a1_1, .int .u8 a1_2, .int .u16 a1_3, .int .u16 a1_4, .float .f64 a1_5] 26 (0, 0))) := ⟨h2_⟩
  have n3_ : zC (w18.heap[gb407]? = some (.cells #[.slice none 0 0, .slice none 0 0] 31 (0, 0))) := ⟨h3_⟩
  have n4_ : zC (w18.heap[gb408]? = some (.cells #[.int .i64 0, .int .i64 0, .int .u8 0, .int .i64 0, .int .i64 0, .float .f64 0] 35 (0, 0))) := ⟨h4_⟩
  have n5_ : zC (w.heap.size ≤ gb407) := ⟨h5_⟩
  have n6_ : zC (w.heap.size ≤ gb407) := ⟨h6_⟩
  have n7_ : zC (gb393 ≠ gb407) := ⟨h7_⟩
  have n8_ : zC (gb407 ≠ gb393) := ⟨h8_⟩
  have n9_ : zC (gb408 ≠ gb407) := ⟨h9_⟩
  have n10_ : zC (gb407 ≠ gb408) := ⟨h10_⟩
  have n11_ : zC (w.heap.size ≤ gb408) := ⟨h11_⟩
  have n12_ : zC (w.heap.size ≤ gb408) := ⟨h12_⟩
  have n13_ : zC (gb393 ≠ gb408) := ⟨h13_⟩
  have n14_ : zC (gb408 ≠ gb393) := ⟨h14_⟩
  have n15_ : zC (Below w.heap.size w w18) := ⟨h15_⟩
  clear BK393 HB h0_ h1_ h2_ h3_ h4_ h5_ h6_ h7_ h8_ h9_ h10_ h11_ h12_ h13_ h14_ h15_; have HO397 := n0_; have HO400 := n1_; have BK393 := n2_; have BK407 := n3_; have BK408 := n4_; have GW407 := n5_; have GE407 := n6_; have NB393_407 := n7_; have NB407_393 := n8_; have NB408_407 := n9_; have NB407_408 := n10_; have GW408 := n11_; have GE408 := n12_; have NB393_408 := n13_; have NB408_393 := n14_; have HB := n15_; clear n0_ n1_ n2_ n3_ n4_ n5_ n6_ n7_ n8_ n9_ n10_ n11_ n12_ n13_ n14_ n15_; have hHeld : w18.cell? ⟨gb393, 0, none⟩ = some (.int .u8 a1_0) ∧ w18.cell? ⟨gb393, 1, none⟩ = some (.int .u8 a1_1) ∧ w18.cell? ⟨gb393, 2, none⟩ = some (.int .u8 a1_2) ∧ w18.cell? ⟨gb393, 3, none⟩ = some (.int .u16 a1_3) ∧ w18.cell? ⟨gb393, 4, none⟩ = some (.int .u16 a1_4) ∧ w18.cell? ⟨gb393, 5, none⟩ = some (.float .f64 a1_5) := hS_
  obtain ⟨Ao19, co19, eo19⟩ := Kd.R_slice HO397.out; (first | subst eo19 | (injection eo19 with f1_ f2_ f3_; have f4_ := f1_.symm; have f5_ := f3_.symm; clear f1_ f2_ f3_; subst f4_; subst f5_))
  obtain ⟨Ao21, co21, eo21⟩ := Kd.R_slice HO400.out; (first | subst eo21 | (injection eo21 with f1_ f2_ f3_; have f4_ := f1_.symm; have f5_ := f3_.symm; clear f1_ f2_ f3_; subst f4_; subst f5_))
  refine norm_ (a' := ?_) ?_ ?_
  rotate_left
  · simp only [putAll, Act.put, sA_, sB_, sC_]
    rfl
  refine one_ (i := 6) (N := none) #[true, true, true, true, true, true, true, false] rfl rfl (one_of HT_.out (by kernel_rfl)) (by decide) (fun K hK => ?_)
  have hs20 : w18.cell? ⟨gb407, 0, none⟩ = some (.slice none 0 0) := (zG BK407.out 0).trans rfl
  have hfs20 := zJ BK407.out 0; have hns20_0 := NB393_407.out; have hns20_2 := NB408_407.out; have hms20_0 := NB407_393.out; have hms20_2 := NB407_408.out; have hs22 : w18.cell? ⟨gb407, 1, none⟩ = some (.slice none 0 0) := (zG BK407.out 1).trans rfl
  have hfs22 := zJ BK407.out 1; have hns22_0 := NB393_407.out; have hns22_2 := NB408_407.out; have hms22_0 := NB407_393.out; have hms22_2 := NB407_408.out; refine skip_ (w1 := ?_) (by rfl) rfl ?_ ?_
  rotate_left
  · go_simp
    rfl
  refine hK.out _ _ ⟨((cell_far (p := ⟨gb407, _, none⟩) NB393_407.out _).trans (((cell_far (p := ⟨gb407, _, none⟩) NB393_407.out _).trans (hHeld.1)))), ((cell_far (p := ⟨gb407, _, none⟩) NB393_407.out _).trans (((cell_far (p := ⟨gb407, _, none⟩) NB393_407.out _).trans (hHeld.2.1)))), ((cell_far (p := ⟨gb407, _, none⟩) NB393_407.out _).trans (((cell_far (p := ⟨gb407, _, none⟩) NB393_407.out _).trans (hHeld.2.2.1)))), ((cell_far (p := ⟨gb407, _, none⟩) NB393_407.out _).trans (((cell_far (p := ⟨gb407, _, none⟩) NB393_407.out _).trans (hHeld.2.2.2.1)))), ((cell_far (p := ⟨gb407, _, none⟩) NB393_407.out _).trans (((cell_far (p := ⟨gb407, _, none⟩) NB393_407.out _).trans (hHeld.2.2.2.2.1)))), ((cell_far (p := ⟨gb407, _, none⟩) NB393_407.out _).trans (((cell_far (p := ⟨gb407, _, none⟩) NB393_407.out _).trans (hHeld.2.2.2.2.2))))⟩ (fun hHeld => ?_)
  clear hK K; refine one_ (i := 7) (N := none) #[true, true, true, true, true, true, true, true] rfl rfl (one_of HT_.out (by kernel_rfl)) (by decide) (fun K hK => ?_)
  have hs23 : w18.cell? ⟨gb408, 0, none⟩ = some (.int .i64 0) := (zG BK408.out 0).trans rfl
  have hfs23 := zJ BK408.out 0; have hns23_0 := NB393_408.out; have hns23_1 := NB407_408.out; have hms23_0 := NB408_393.out; have hms23_1 := NB408_407.out; have hs24 : w18.cell? ⟨gb408, 1, none⟩ = some (.int .i64 0) := (zG BK408.out 1).trans rfl
  have hfs24 := zJ BK408.out 1; have hns24_0 := NB393_408.out; have hns24_1 := NB407_408.out; have hms24_0 := NB408_393.out; have hms24_1 := NB408_407.out; have hs25 : w18.cell? ⟨gb408, 2, none⟩ = some (.int .u8 0) := (zG BK408.out 2).trans rfl
  have hfs25 := zJ BK408.out 2; have hns25_0 := NB393_408.out; have hns25_1 := NB407_408.out; have hms25_0 := NB408_393.out; have hms25_1 := NB408_407.out; have hs26 : w18.cell? ⟨gb408, 3, none⟩ = some (.int .i64 0) := (zG BK408.out 3).trans rfl
  have hfs26 := zJ BK408.out 3; have hns26_0 := NB393_408.out; have hns26_1 := NB407_408.out; have hms26_0 := NB408_393.out; have hms26_1 := NB408_407.out; have hs27 : w18.cell? ⟨gb408, 4, none⟩ = some (.int .i64 0) := (zG BK408.out 4).trans rfl
  have hfs27 := zJ BK408.out 4; have hns27_0 := NB393_408.out; have hns27_1 := NB407_408.out; have hms27_0 := NB408_393.out; have hms27_1 := NB408_407.out; have hs28 : w18.cell? ⟨gb408, 5, none⟩ = some (.float .f64 0) := (zG BK408.out 5).trans rfl
  have hfs28 := zJ BK408.out 5; have hns28_0 := NB393_408.out; have hns28_1 := NB407_408.out; have hms28_0 := NB408_393.out; have hms28_1 := NB408_407.out; refine skip_ (w1 := ?_) (by rfl) rfl ?_ ?_
  rotate_left
  · go_simp
    rfl
  refine hK.out _ _ ⟨((cell_far (p := ⟨gb408, _, none⟩) NB393_408.out _).trans (((cell_far (p := ⟨gb408, _, none⟩) NB393_408.out _).trans (((cell_far (p := ⟨gb408, _, none⟩) NB393_408.out _).trans (((cell_far (p := ⟨gb408, _, none⟩) NB393_408.out _).trans (((cell_far (p := ⟨gb408, _, none⟩) NB393_408.out _).trans (((cell_far (p := ⟨gb408, _, none⟩) NB393_408.out _).trans (hHeld.1)))))))))))), ((cell_far (p := ⟨gb408, _, none⟩) NB393_408.out _).trans (((cell_far (p := ⟨gb408, _, none⟩) NB393_408.out _).trans (((cell_far (p := ⟨gb408, _, none⟩) NB393_408.out _).trans (((cell_far (p := ⟨gb408, _, none⟩) NB393_408.out _).trans (((cell_far (p := ⟨gb408, _, none⟩) NB393_408.out _).trans (((cell_far (p := ⟨gb408, _, none⟩) NB393_408.out _).trans (hHeld.2.1)))))))))))), ((cell_far (p := ⟨gb408, _, none⟩) NB393_408.out _).trans (((cell_far (p := ⟨gb408, _, none⟩) NB393_408.out _).trans (((cell_far (p := ⟨gb408, _, none⟩) NB393_408.out _).trans (((cell_far (p := ⟨gb408, _, none⟩) NB393_408.out _).trans (((cell_far (p := ⟨gb408, _, none⟩) NB393_408.out _).trans (((cell_far (p := ⟨gb408, _, none⟩) NB393_408.out _).trans (hHeld.2.2.1)))))))))))), ((cell_far (p := ⟨gb408, _, none⟩) NB393_408.out _).trans (((cell_far (p := ⟨gb408, _, none⟩) NB393_408.out _).trans (((cell_far (p := ⟨gb408, _, none⟩) NB393_408.out _).trans (((cell_far (p := ⟨gb408, _, none⟩) NB393_408.out _).trans (((cell_far (p := ⟨gb408, _, none⟩) NB393_408.out _).trans (((cell_far (p := ⟨gb408, _, none⟩) NB393_408.out _).trans (hHeld.2.2.2.1)))))))))))), ((cell_far (p := ⟨gb408, _, none⟩) NB393_408.out _).trans (((cell_far (p := ⟨gb408, _, none⟩) NB393_408.out _).trans (((cell_far (p := ⟨gb408, _, none⟩) NB393_408.out _).trans (((cell_far (p := ⟨gb408, _, none⟩) NB393_408.out _).trans (((cell_far (p := ⟨gb408, _, none⟩) NB393_408.out _).trans (((cell_far (p := ⟨gb408, _, none⟩) NB393_408.out _).trans (hHeld.2.2.2.2.1)))))))))))), ((cell_far (p := ⟨gb408, _, none⟩) NB393_408.out _).trans (((cell_far (p := ⟨gb408, _, none⟩) NB393_408.out _).trans (((cell_far (p := ⟨gb408, _, none⟩) NB393_408.out _).trans (((cell_far (p := ⟨gb408, _, none⟩) NB393_408.out _).trans (((cell_far (p := ⟨gb408, _, none⟩) NB393_408.out _).trans (((cell_far (p := ⟨gb408, _, none⟩) NB393_408.out _).trans (hHeld.2.2.2.2.2))))))))))))⟩ (fun hHeld => ?_)
  clear hK K; refine done_ (done_of HT_.out (by kernel_rfl)) ?_
  have hnb29 := NB408_393.out; have hnc29 := NB393_408.out; have hnb30 := NB408_407.out; have hnc30 := NB407_408.out; have hcz31_0 : w18.cell? ⟨gb408, 0, none⟩ = some (.int .i64 0) := (zG BK408.out 0).trans rfl
  have hcz31_1 : w18.cell? ⟨gb408, 1, none⟩ = some (.int .i64 0) := (zG BK408.out 1).trans rfl
  have hcz31_2 : w18.cell? ⟨gb408, 2, none⟩ = some (.int .u8 0) := (zG BK408.out 2).trans rfl
  have hcz31_3 : w18.cell? ⟨gb408, 3, none⟩ = some (.int .i64 0) := (zG BK408.out 3).trans rfl
  have hcz31_4 : w18.cell? ⟨gb408, 4, none⟩ = some (.int .i64 0) := (zG BK408.out 4).trans rfl
  have hcz31_5 : w18.cell? ⟨gb408, 5, none⟩ = some (.float .f64 0) := (zG BK408.out 5).trans rfl
  have hfz31_0 := zJ BK408.out 0; have hfz31_1 := zJ BK408.out 1; have hfz31_2 := zJ BK408.out 2; have hfz31_3 := zJ BK408.out 3; have hfz31_4 := zJ BK408.out 4; have hfz31_5 := zJ BK408.out 5; try go_wp2_with (first | ((with_reducible refine gate_store (t := 3) (p := 20) rfl ?_); refine store_event (t := 3) (p := 20) (v := ?vo_w32) (w1 := (((((((((w18.setCell ⟨gb407, 0, none⟩ (.slice Ao19 t395.length co19)).setCell ⟨gb407, 1, none⟩ (.slice Ao21 t398.length co21)).setCell ⟨gb408, 0, none⟩ (.int .i64 t401)).setCell ⟨gb408, 1, none⟩ (.int .i64 t402)).setCell ⟨gb408, 2, none⟩ (.int .u8 t403)).setCell ⟨gb408, 3, none⟩ (.int .i64 t404)).setCell ⟨gb408, 4, none⟩ (.int .i64 t405)).setCell ⟨gb408, 5, none⟩ (.float .f64 t406)).setCell ⟨gb408, 0, none⟩ (.int .i64 1048576))) ?hg ?ho ?hn ?hr ?_; (case ho => rfl); (case hg => rfl); (case hn => rfl); (case hr => first | (go_simp; done) | (go_simp; rfl)); intro w32 hw; have n0_ : zC (Kd.R k61 61 w32 w.heap.size (fun _ => True) (.slice Ao19 t395.length co19) t395) := ⟨(by rw [hw]; exact (by (with_reducible repeat (first | apply Kd.R_alloc | apply Kd.R_drewN | apply Kd.R_drew)); exact Kd.R_mono (Kd.R_far (p := ⟨gb408, 0, none⟩) (Kd.R_far (p := ⟨gb408, 5, none⟩) (Kd.R_far (p := ⟨gb408, 4, none⟩) (Kd.R_far (p := ⟨gb408, 3, none⟩) (Kd.R_far (p := ⟨gb408, 2, none⟩) (Kd.R_far (p := ⟨gb408, 1, none⟩) (Kd.R_far (p := ⟨gb408, 0, none⟩) (Kd.R_far (p := ⟨gb407, 1, none⟩) (Kd.R_far (p := ⟨gb407, 0, none⟩) (Kd.R_types (Kd.R_types HO397.out BK407.out (by decide)) BK408.out (by decide)) (fun _ hk => hk.1.2) (.slice Ao19 t395.length co19)) (fun _ hk => hk.1.2) (.slice Ao21 t398.length co21)) (fun _ hk => hk.2) (.int .i64 t401)) (fun _ hk => hk.2) (.int .i64 t402)) (fun _ hk => hk.2) (.int .u8 t403)) (fun _ hk => hk.2) (.int .i64 t404)) (fun _ hk => hk.2) (.int .i64 t405)) (fun _ hk => hk.2) (.float .f64 t406)) (fun _ hk => hk.2) (.int .i64 1048576)) (fun _ hk => trivial)))⟩; have n1_ : zC (Kd.R (Kd.int .u8) 43 w32 w.heap.size (fun _ => True) (.slice Ao21 t398.length co21) t398) := ⟨(by rw [hw]; exact (by (with_reducible repeat (first | apply Kd.R_alloc | apply Kd.R_drewN | apply Kd.R_drew)); exact Kd.R_mono (Kd.R_far (p := ⟨gb408, 0, none⟩) (Kd.R_far (p := ⟨gb408, 5, none⟩) (Kd.R_far (p := ⟨gb408, 4, none⟩) (Kd.R_far (p := ⟨gb408, 3, none⟩) (Kd.R_far (p := ⟨gb408, 2, none⟩) (Kd.R_far (p := ⟨gb408, 1, none⟩) (Kd.R_far (p := ⟨gb408, 0, none⟩) (Kd.R_far (p := ⟨gb407, 1, none⟩) (Kd.R_far (p := ⟨gb407, 0, none⟩) (Kd.R_types (Kd.R_types HO400.out BK407.out (by decide)) BK408.out (by decide)) (fun _ hk => hk.1.2) (.slice Ao19 t395.length co19)) (fun _ hk => hk.1.2) (.slice Ao21 t398.length co21)) (fun _ hk => hk.2) (.int .i64 t401)) (fun _ hk => hk.2) (.int .i64 t402)) (fun _ hk => hk.2) (.int .u8 t403)) (fun _ hk => hk.2) (.int .i64 t404)) (fun _ hk => hk.2) (.int .i64 t405)) (fun _ hk => hk.2) (.float .f64 t406)) (fun _ hk => hk.2) (.int .i64 1048576)) (fun _ hk => trivial)))⟩; have n2_ : zC (w32.heap[gb393]? = some (.cells #[.int .u8 a1_0, .int .u8 a1_1, .int .u8 a1_2, .int .u16 a1_3, .int .u16 a1_4, .float .f64 a1_5] 26 (0, 0))) := ⟨(by rw [hw]; exact (by (with_reducible repeat (first | refine zA ?_ _ | refine zD ?_ | refine zB ?_ _)); refine blk_far ?_ NB393_408.out _; (with_reducible repeat (first | refine zA ?_ _ | refine zD ?_ | refine zB ?_ _)); refine blk_far ?_ NB393_408.out _; (with_reducible repeat (first | refine zA ?_ _ | refine zD ?_ | refine zB ?_ _)); refine blk_far ?_ NB393_408.out _; (with_reducible repeat (first | refine zA ?_ _ | refine zD ?_ | refine zB ?_ _)); refine blk_far ?_ NB393_408.out _; (with_reducible repeat (first | refine zA ?_ _ | refine zD ?_ | refine zB ?_ _)); refine blk_far ?_ NB393_408.out _; (with_reducible repeat (first | refine zA ?_ _ | refine zD ?_ | refine zB ?_ _)); refine blk_far ?_ NB393_408.out _; (with_reducible repeat (first | refine zA ?_ _ | refine zD ?_ | refine zB ?_ _)); refine blk_far ?_ NB393_408.out _; (with_reducible repeat (first | refine zA ?_ _ | refine zD ?_ | refine zB ?_ _)); refine blk_far ?_ NB393_407.out _; (with_reducible repeat (first | refine zA ?_ _ | refine zD ?_ | refine zB ?_ _)); refine blk_far ?_ NB393_407.out _; (with_reducible repeat (first | refine zA ?_ _ | refine zD ?_ | refine zB ?_ _)); exact BK393.out))⟩; have n3_ : zC (w32.heap[gb407]? = some (.cells #[.slice Ao19 t395.length co19, .slice Ao21 t398.length co21] 31 (0, 0))) := ⟨(by rw [hw]; exact (by (with_reducible repeat (first | refine zA ?_ _ | refine zD ?_ | refine zB ?_ _)); refine blk_far ?_ NB407_408.out _; (with_reducible repeat (first | refine zA ?_ _ | refine zD ?_ | refine zB ?_ _)); refine blk_far ?_ NB407_408.out _; (with_reducible repeat (first | refine zA ?_ _ | refine zD ?_ | refine zB ?_ _)); refine blk_far ?_ NB407_408.out _; (with_reducible repeat (first | refine zA ?_ _ | refine zD ?_ | refine zB ?_ _)); refine blk_far ?_ NB407_408.out _; (with_reducible repeat (first | refine zA ?_ _ | refine zD ?_ | refine zB ?_ _)); refine blk_far ?_ NB407_408.out _; (with_reducible repeat (first | refine zA ?_ _ | refine zD ?_ | refine zB ?_ _)); refine blk_far ?_ NB407_408.out _; (with_reducible repeat (first | refine zA ?_ _ | refine zD ?_ | refine zB ?_ _)); refine blk_far ?_ NB407_408.out _; (with_reducible repeat (first | refine zA ?_ _ | refine zD ?_ | refine zB ?_ _)); refine blk_put (cs := #[.slice Ao19 t395.length co19, .slice none 0 0]) ?_ 1 _ rfl; (with_reducible repeat (first | refine zA ?_ _ | refine zD ?_ | refine zB ?_ _)); refine blk_put (cs := #[.slice none 0 0, .slice none 0 0]) ?_ 0 _ rfl; (with_reducible repeat (first | refine zA ?_ _ | refine zD ?_ | refine zB ?_ _)); exact BK407.out))⟩; have n4_ : zC (w32.heap[gb408]? = some (.cells #[.int .i64 1048576, .int .i64 t402, .int .u8 t403, .int .i64 t404, .int .i64 t405, .float .f64 t406] 35 (0, 0))) := ⟨(by rw [hw]; exact (by (with_reducible repeat (first | refine zA ?_ _ | refine zD ?_ | refine zB ?_ _)); refine blk_put (cs := #[.int .i64 t401, .int .i64 t402, .int .u8 t403, .int .i64 t404, .int .i64 t405, .float .f64 t406]) ?_ 0 _ rfl; (with_reducible repeat (first | refine zA ?_ _ | refine zD ?_ | refine zB ?_ _)); refine blk_put (cs := #[.int .i64 t401, .int .i64 t402, .int .u8 t403, .int .i64 t404, .int .i64 t405, .float .f64 0]) ?_ 5 _ rfl; (with_reducible repeat (first | refine zA ?_ _ | refine zD ?_ | refine zB ?_ _)); refine blk_put (cs := #[.int .i64 t401, .int .i64 t402, .int .u8 t403, .int .i64 t404, .int .i64 0, .float .f64 0]) ?_ 4 _ rfl; (with_reducible repeat (first | refine zA ?_ _ | refine zD ?_ | refine zB ?_ _)); refine blk_put (cs := #[.int .i64 t401, .int .i64 t402, .int .u8 t403, .int .i64 0, .int .i64 0, .float .f64 0]) ?_ 3 _ rfl; (with_reducible repeat (first | refine zA ?_ _ | refine zD ?_ | refine zB ?_ _)); refine blk_put (cs := #[.int .i64 t401, .int .i64 t402, .int .u8 0, .int .i64 0, .int .i64 0, .float .f64 0]) ?_ 2 _ rfl; (with_reducible repeat (first | refine zA ?_ _ | refine zD ?_ | refine zB ?_ _)); refine blk_put (cs := #[.int .i64 t401, .int .i64 0, .int .u8 0, .int .i64 0, .int .i64 0, .float .f64 0]) ?_ 1 _ rfl; (with_reducible repeat (first | refine zA ?_ _ | refine zD ?_ | refine zB ?_ _)); refine blk_put (cs := #[.int .i64 0, .int .i64 0, .int .u8 0, .int .i64 0, .int .i64 0, .float .f64 0]) ?_ 0 _ rfl; (with_reducible repeat (first | refine zA ?_ _ | refine zD ?_ | refine zB ?_ _)); refine blk_far ?_ NB408_407.out _; (with_reducible repeat (first | refine zA ?_ _ | refine zD ?_ | refine zB ?_ _)); refine blk_far ?_ NB408_407.out _; (with_reducible repeat (first | refine zA ?_ _ | refine zD ?_ | refine zB ?_ _)); exact BK408.out))⟩; have n5_ : zC (Below w.heap.size w w32) := ⟨(by rw [hw]; exact (by repeat (first | (with_reducible first | exact HB.out | apply zH | apply zF | apply zI | refine zE ?_ GE393.out | refine zE ?_ GE407.out | refine zE ?_ GE408.out) | exact HB.out)))⟩; clear hw; clear HO397; clear HO400; clear BK393; clear BK407; clear BK408; clear HB; have HO397 := n0_; have HO400 := n1_; have BK393 := n2_; have BK407 := n3_; have BK408 := n4_; have HB := n5_; clear n0_ n1_ n2_ n3_ n4_ n5_; have hnb33 := NB407_393.out; have hnc33 := NB393_407.out; have hcz34_0 : w32.cell? ⟨gb407, 0, none⟩ = some (.slice Ao19 t395.length co19) := (zG BK407.out 0).trans rfl; have hcz34_1 : w32.cell? ⟨gb407, 1, none⟩ = some (.slice Ao21 t398.length co21) := (zG BK407.out 1).trans rfl; have hfz34_0 := zJ BK407.out 0; have hfz34_1 := zJ BK407.out 1) | ((with_reducible refine gate_callee (f := 15) rfl ?_); refine goesL_ (some 22) rfl rfl Try.func15 (by kernel_rfl) rfl #[.agg #[.slice Ao19 t395.length co19, .slice Ao21 t398.length co21]] rfl (by (try simp only [List.map_toArray, List.map_cons, List.map_nil]); first | done | rfl | (simp only [List.length_drop, List.length_take]; rfl)) ?_; (with_reducible refine (stanzaref10_Parts.calls k _ _ t395 _ _ t398 t409 _ ?side1 ?side2 ?side3 ?side4 A10.out).mono ?_); (case side1 => repeat (first | exact (Kd.R_reads' HO397.out).2.2 | (with_reducible refine Kd.C_alloc ?_ _) | (with_reducible refine Kd.C_drewN ?_ _) | (with_reducible refine Kd.C_drew ?_))); (case side2 => exact (Kd.R_reads' HO397.out).2.1); (case side3 => repeat (first | exact (Kd.R_reads' HO400.out).2.2 | (with_reducible refine Kd.C_alloc ?_ _) | (with_reducible refine Kd.C_drewN ?_ _) | (with_reducible refine Kd.C_drew ?_))); (case side4 => exact (Kd.R_reads' HO400.out).2.1); rintro e w35 ⟨v410, rfl, ho0, hb⟩; refine ⟨_, rfl, ?_⟩; have n0_ := zC.mk (Kd.R_below (by (with_reducible repeat (first | apply Kd.R_alloc | apply Kd.R_drewN | apply Kd.R_drew)); exact HO397.out) hb); have n1_ := zC.mk (Kd.R_below (by (with_reducible repeat (first | apply Kd.R_alloc | apply Kd.R_drewN | apply Kd.R_drew)); exact HO400.out) hb); have n2_ := zC.mk (Kd.R_lower ho0 (zK (by repeat (first | (with_reducible first | exact HB.out | apply zH | apply zF | apply zI | refine zE ?_ GE393.out | refine zE ?_ GE407.out | refine zE ?_ GE408.out) | exact HB.out)))); have n3_ := zC.mk (zL (g := gb393) (o := .cells #[.int .u8 a1_0, .int .u8 a1_1, .int .u8 a1_2, .int .u16 a1_3, .int .u16 a1_4, .float .f64 a1_5] 26 (0, 0)) (by (with_reducible repeat (first | refine zA ?_ _ | refine zD ?_ | refine zB ?_ _)); exact BK393.out) hb); have n4_ := zC.mk (zL (g := gb407) (o := .cells #[.slice Ao19 t395.length co19, .slice Ao21 t398.length co21] 31 (0, 0)) (by (with_reducible repeat (first | refine zA ?_ _ | refine zD ?_ | refine zB ?_ _)); exact BK407.out) hb); have n5_ := zC.mk (zL (g := gb408) (o := .cells #[.int .i64 1048576, .int .i64 t402, .int .u8 t403, .int .i64 t404, .int .i64 t405, .float .f64 t406] 35 (0, 0)) (by (with_reducible repeat (first | refine zA ?_ _ | refine zD ?_ | refine zB ?_ _)); exact BK408.out) hb); have n6_ := zC.mk (below_step (by repeat (first | (with_reducible first | exact HB.out | apply zH | apply zF | apply zI | refine zE ?_ GE393.out | refine zE ?_ GE407.out | refine zE ?_ GE408.out) | exact HB.out)) hb); clear HO397; clear HO400; clear BK393; clear BK407; clear BK408; clear HB; have HO397 := n0_; have HO400 := n1_; have HO411 := n2_; have BK393 := n3_; have BK407 := n4_; have BK408 := n5_; have HB := n6_; clear n0_ n1_ n2_ n3_ n4_ n5_ n6_; (try clear hb); (try clear hb2); (try clear hk); (try clear hi); (try clear ho0); obtain ⟨Ao36, co36, eo36⟩ := Kd.R_slice HO411.out; subst eo36))
  go_loopg [7, 24] k (fun kq v7 v24 w' => ∃ (x7_1 : Int) (x24_1 : Int), v7 = .int .i64 x7_1 ∧ v24 = .int .i64 x24_1 ∧ zC (stanzalaw14_FirstWider.l0 kq x7_1 t409 (t409.length : Int) x24_1 t395 t398 1048576 t402 t403 t404 t405 t406 = some r) ∧ zC (kq ≤ k) ∧ zC (Kd.R (Kd.int .i64) 3 w' w.heap.size (fun _ => True) (.slice Ao36 t409.length co36) t409) ∧ zC (Kd.R k61 61 w' w.heap.size (fun _ => True) (.slice Ao19 t395.length co19) t395) ∧ zC (Kd.R (Kd.int .u8) 43 w' w.heap.size (fun _ => True) (.slice Ao21 t398.length co21) t398) ∧ zC (w'.heap[gb393]? = some (.cells #[.int .u8 a1_0, .int .u8 a1_1, .int .u8 a1_2, .int .u16 a1_3, .int .u16 a1_4, .float .f64 a1_5] 26 (0, 0))) ∧ zC (w'.heap[gb407]? = some (.cells #[(.slice Ao19 t395.length co19), (.slice Ao21 t398.length co21)] 31 (0, 0))) ∧ zC (w'.heap[gb408]? = some (.cells #[.int .i64 1048576, .int .i64 t402, .int .u8 t403, .int .i64 t404, .int .i64 t405, .float .f64 t406] 35 (0, 0))) ∧ zC (Below w.heap.size w w'))
  case atStart => exact ⟨(0), (0), (by first | rfl | (simp; done) | (simp [*]; done)), (by first | rfl | (simp; done) | (simp [*]; done)), H', ⟨Nat.le_refl _⟩, ⟨by (with_reducible repeat (first | apply Kd.R_alloc | apply Kd.R_drewN | apply Kd.R_drew)); exact HO411.out⟩, ⟨by (with_reducible repeat (first | apply Kd.R_alloc | apply Kd.R_drewN | apply Kd.R_drew)); exact HO397.out⟩, ⟨by (with_reducible repeat (first | apply Kd.R_alloc | apply Kd.R_drewN | apply Kd.R_drew)); exact HO400.out⟩, ⟨by (with_reducible repeat (first | refine zA ?_ _ | refine zD ?_ | refine zB ?_ _)); exact BK393.out⟩, ⟨by (with_reducible repeat (first | refine zA ?_ _ | refine zD ?_ | refine zB ?_ _)); exact BK407.out⟩, ⟨by (with_reducible repeat (first | refine zA ?_ _ | refine zD ?_ | refine zB ?_ _)); exact BK408.out⟩, ⟨by repeat (first | (with_reducible first | exact HB.out | apply zH | apply zF | apply zI | refine zE ?_ GE393.out | refine zE ?_ GE407.out | refine zE ?_ GE408.out) | exact HB.out)⟩⟩
  clear H'; try clear c1
  try clear c2
  try clear p2
  try clear c3
  try clear c14
  try clear c15
  try clear c29
  try clear c30
  try clear c33
  try clear hcz31_0
  try clear hcz31_1
  try clear hcz31_2
  try clear hcz31_3
  try clear hcz31_4
  try clear hcz31_5
  try clear hcz34_0
  try clear hcz34_1
  try clear hfz31_0
  try clear hfz31_1
  try clear hfz31_2
  try clear hfz31_3
  try clear hfz31_4
  try clear hfz31_5
  try clear hfz34_0
  try clear hfz34_1
  obtain ⟨x7_1, x24_1, rfl, rfl, HA, HK1, HO_22, HO_408000, HO_408001, BK393, BK407, BK408, HB⟩ := hrel; cases gk with
  | zero => exact absurd HA.out (by simp [stanzalaw14_FirstWider.l0])
  | succ k1 =>
    have H := HA.out; clear HA; simp only [stanzalaw14_FirstWider.l0] at H; by_cases c37 : x24_1 < (t409.length : Int)
    rotate_left
    · rw [if_neg c37] at H
      have c37b0 : decide (x24_1 < (t409.length : Int)) = false := decide_eq_false c37
      clear c37; obtain rfl := Option.some.inj H
      go_wp2
      go_ret
      exact ⟨by first | rfl | (simp [errW_none, errW_some] <;> rfl) | (simp [*, errW_none, errW_some] <;> rfl), by repeat (first | (with_reducible first | exact HB.out | apply zH | apply zF | apply zI | refine zE ?_ GE393.out | refine zE ?_ GE407.out | refine zE ?_ GE408.out) | exact HB.out)⟩
    rw [if_pos c37] at H; have c37b0 : decide (x24_1 < (t409.length : Int)) = true := decide_eq_true c37
    clear c37; by_cases c38 : 0 ≤ x24_1
    rotate_left
    · rw [if_neg c38] at H
      exact absurd H (by simp)
    rw [if_pos c38] at H; have c38b0 : decide (0 ≤ x24_1) = true := decide_eq_true c38
    clear c38; by_cases c39 : x24_1 < (t409.length : Int)
    rotate_left
    · rw [if_neg c39] at H
      exact absurd H (by simp)
    rw [if_pos c39] at H; have c39b0 : decide (x24_1 < (t409.length : Int)) = true := decide_eq_true c39
    clear c39; replace H := Option.bind_eq_some_iff.mp H; obtain ⟨t413, A400, H⟩ := H; replace H : (if x7_1 = (rd t409 x24_1) then (if (t413.length : Int) = 0 then (if x7_1 < (rd t409 x24_1) then (if (t413.length : Int) = 1 then (if 0 < (t413.length : Int) then (if ((rd_T45 t413 0).f0) = x7_1 then (if ((rd_T45 t413 0).f1) = (rd t409 x24_1) then (if ((rd_T45 t413 0).f3) = 2 then (stanzalaw14_FirstWider.l0 k1 (rd t409 x24_1) t409 (t409.length : Int) (wrap64 (x24_1 + 1)) t395 t398 1048576 t402 t403 t404 t405 t406) else (some false)) else (some false)) else (some false)) else (none)) else (some false)) else (stanzalaw14_FirstWider.l0 k1 (rd t409 x24_1) t409 (t409.length : Int) (wrap64 (x24_1 + 1)) t395 t398 1048576 t402 t403 t404 t405 t406)) else (some false)) else (if x7_1 < (rd t409 x24_1) then (if (t413.length : Int) = 1 then (if 0 < (t413.length : Int) then (if ((rd_T45 t413 0).f0) = x7_1 then (if ((rd_T45 t413 0).f1) = (rd t409 x24_1) then (if ((rd_T45 t413 0).f3) = 2 then (stanzalaw14_FirstWider.l0 k1 (rd t409 x24_1) t409 (t409.length : Int) (wrap64 (x24_1 + 1)) t395 t398 1048576 t402 t403 t404 t405 t406) else (some false)) else (some false)) else (some false)) else (none)) else (some false)) else (stanzalaw14_FirstWider.l0 k1 (rd t409 x24_1) t409 (t409.length : Int) (wrap64 (x24_1 + 1)) t395 t398 1048576 t402 t403 t404 t405 t406))) = some r := H; have A40 := zC.mk A400; clear A400; by_cases c41 : x7_1 = (rd t409 x24_1)
    rotate_left
    · rw [if_neg c41] at H
      have c41b0 : (x7_1 == (rd t409 x24_1)) = false := beq_eq_false_iff_ne.mpr c41
      have c41b1 : (x7_1 != (rd t409 x24_1)) = true := bne_iff_ne.mpr c41
      by_cases c63 : x7_1 < (rd t409 x24_1)
      rotate_left
      · rw [if_neg c63] at H
        have c63b0 : decide (x7_1 < (rd t409 x24_1)) = false := decide_eq_false c63
        clear c63; have H' := zC.mk H
        clear H; have p412 : 0 ≤ (x24_1 : Int) := of_decide_eq_true (by first | (with_reducible assumption) | assumption)
        have q412 : x24_1 < (t409.length : Int) := of_decide_eq_true (by first | (with_reducible assumption) | assumption)
        obtain ⟨ad412, e412, hx412_0⟩ := Kd.at_int (Kd.R_reads' HO_22.out).2.2 x24_1 p412 q412; cases e412
        replace p412 := eq_true p412; replace q412 := eq_true q412; have hnb76 := NB407_393.out; have hnc76 := NB393_407.out; have hnb77 := NB407_408.out; have hnc77 := NB408_407.out; have hcz78_0 : wr.cell? ⟨gb407, 0, none⟩ = some (.slice Ao19 t395.length co19) := (zG BK407.out 0).trans rfl
        have hcz78_1 : wr.cell? ⟨gb407, 1, none⟩ = some (.slice Ao21 t398.length co21) := (zG BK407.out 1).trans rfl
        have hfz78_0 := zJ BK407.out 0; have hfz78_1 := zJ BK407.out 1; have hnb79 := NB408_393.out; have hnc79 := NB393_408.out; have hcz80_0 : wr.cell? ⟨gb408, 0, none⟩ = some (.int .i64 1048576) := (zG BK408.out 0).trans rfl
        have hcz80_1 : wr.cell? ⟨gb408, 1, none⟩ = some (.int .i64 t402) := (zG BK408.out 1).trans rfl
        have hcz80_2 : wr.cell? ⟨gb408, 2, none⟩ = some (.int .u8 t403) := (zG BK408.out 2).trans rfl
        have hcz80_3 : wr.cell? ⟨gb408, 3, none⟩ = some (.int .i64 t404) := (zG BK408.out 3).trans rfl
        have hcz80_4 : wr.cell? ⟨gb408, 4, none⟩ = some (.int .i64 t405) := (zG BK408.out 4).trans rfl
        have hcz80_5 : wr.cell? ⟨gb408, 5, none⟩ = some (.float .f64 t406) := (zG BK408.out 5).trans rfl
        have hfz80_0 := zJ BK408.out 0; have hfz80_1 := zJ BK408.out 1; have hfz80_2 := zJ BK408.out 2; have hfz80_3 := zJ BK408.out 3; have hfz80_4 := zJ BK408.out 4; have hfz80_5 := zJ BK408.out 5; go_wp2_with (first | ((with_reducible refine gate_callee (f := 17) rfl ?_); refine goesL_ (some 32) rfl rfl Try.func17 (by kernel_rfl) rfl #[.agg #[.slice Ao19 t395.length co19, .slice Ao21 t398.length co21], .int .i64 x7_1, .int .i64 (rd t409 x24_1), .agg #[.int .i64 1048576, .int .i64 t402, .int .u8 t403, .int .i64 t404, .int .i64 t405, .float .f64 t406]] rfl (by (try simp only [List.map_toArray, List.map_cons, List.map_nil]); first | done | rfl | (simp only [List.length_drop, List.length_take]; rfl)) ?_; (with_reducible refine (first_Break.calls k1 _ _ t395 _ _ t398 x7_1 (rd t409 x24_1) 1048576 t402 t403 t404 t405 t406 t413 _ ?side1 ?side2 ?side3 ?side4 A40.out).mono ?_); (case side1 => repeat (first | exact (Kd.R_reads' HO_408000.out).2.2 | (with_reducible refine Kd.C_alloc ?_ _) | (with_reducible refine Kd.C_drewN ?_ _) | (with_reducible refine Kd.C_drew ?_))); (case side2 => exact (Kd.R_reads' HO_408000.out).2.1); (case side3 => repeat (first | exact (Kd.R_reads' HO_408001.out).2.2 | (with_reducible refine Kd.C_alloc ?_ _) | (with_reducible refine Kd.C_drewN ?_ _) | (with_reducible refine Kd.C_drew ?_))); (case side4 => exact (Kd.R_reads' HO_408001.out).2.1); rintro e w81 ⟨v414, rfl, ho0, hb⟩; refine ⟨_, rfl, ?_⟩; have n0_ := zC.mk (Kd.R_below (by (with_reducible repeat (first | apply Kd.R_alloc | apply Kd.R_drewN | apply Kd.R_drew)); exact HO_22.out) hb); have n1_ := zC.mk (Kd.R_below (by (with_reducible repeat (first | apply Kd.R_alloc | apply Kd.R_drewN | apply Kd.R_drew)); exact HO_408000.out) hb); have n2_ := zC.mk (Kd.R_below (by (with_reducible repeat (first | apply Kd.R_alloc | apply Kd.R_drewN | apply Kd.R_drew)); exact HO_408001.out) hb); have n3_ := zC.mk (Kd.R_lower ho0 (zK (by repeat (first | (with_reducible first | exact HB.out | apply zH | apply zF | apply zI | refine zE ?_ GE393.out | refine zE ?_ GE407.out | refine zE ?_ GE408.out) | exact HB.out)))); have n4_ := zC.mk (zL (g := gb393) (o := .cells #[.int .u8 a1_0, .int .u8 a1_1, .int .u8 a1_2, .int .u16 a1_3, .int .u16 a1_4, .float .f64 a1_5] 26 (0, 0)) (by (with_reducible repeat (first | refine zA ?_ _ | refine zD ?_ | refine zB ?_ _)); exact BK393.out) hb); have n5_ := zC.mk (zL (g := gb407) (o := .cells #[.slice Ao19 t395.length co19, .slice Ao21 t398.length co21] 31 (0, 0)) (by (with_reducible repeat (first | refine zA ?_ _ | refine zD ?_ | refine zB ?_ _)); exact BK407.out) hb); have n6_ := zC.mk (zL (g := gb408) (o := .cells #[.int .i64 1048576, .int .i64 t402, .int .u8 t403, .int .i64 t404, .int .i64 t405, .float .f64 t406] 35 (0, 0)) (by (with_reducible repeat (first | refine zA ?_ _ | refine zD ?_ | refine zB ?_ _)); exact BK408.out) hb); have n7_ := zC.mk (below_step (by repeat (first | (with_reducible first | exact HB.out | apply zH | apply zF | apply zI | refine zE ?_ GE393.out | refine zE ?_ GE407.out | refine zE ?_ GE408.out) | exact HB.out)) hb); clear HO_22; clear HO_408000; clear HO_408001; clear BK393; clear BK407; clear BK408; clear HB; have HO_22 := n0_; have HO_408000 := n1_; have HO_408001 := n2_; have HO415 := n3_; have BK393 := n4_; have BK407 := n5_; have BK408 := n6_; have HB := n7_; clear n0_ n1_ n2_ n3_ n4_ n5_ n6_ n7_; (try clear hb); (try clear hb2); (try clear hk); (try clear hi); (try clear ho0)))
        go_roundg k1
        case measure => have := HK1.out; omega
        case rel => exact ⟨(rd t409 x24_1), (wrap64 (x24_1 + 1)), (by first | rfl | (simp; done) | (simp [*]; done)), (by first | rfl | (simp; done) | (simp [*]; done)), H', ⟨by have := HK1.out; omega⟩, ⟨by (with_reducible repeat (first | apply Kd.R_alloc | apply Kd.R_drewN | apply Kd.R_drew)); exact HO_22.out⟩, ⟨by (with_reducible repeat (first | apply Kd.R_alloc | apply Kd.R_drewN | apply Kd.R_drew)); exact HO_408000.out⟩, ⟨by (with_reducible repeat (first | apply Kd.R_alloc | apply Kd.R_drewN | apply Kd.R_drew)); exact HO_408001.out⟩, ⟨by (with_reducible repeat (first | refine zA ?_ _ | refine zD ?_ | refine zB ?_ _)); exact BK393.out⟩, ⟨by (with_reducible repeat (first | refine zA ?_ _ | refine zD ?_ | refine zB ?_ _)); exact BK407.out⟩, ⟨by (with_reducible repeat (first | refine zA ?_ _ | refine zD ?_ | refine zB ?_ _)); exact BK408.out⟩, ⟨by repeat (first | (with_reducible first | exact HB.out | apply zH | apply zF | apply zI | refine zE ?_ GE393.out | refine zE ?_ GE407.out | refine zE ?_ GE408.out) | exact HB.out)⟩⟩
      rw [if_pos c63] at H; have c63b0 : decide (x7_1 < (rd t409 x24_1)) = true := decide_eq_true c63
      clear c63; by_cases c64 : (t413.length : Int) = 1
      rotate_left
      · rw [if_neg c64] at H
        have c64b0 : ((t413.length : Int) == 1) = false := beq_eq_false_iff_ne.mpr c64
        have c64b1 : ((t413.length : Int) != 1) = true := bne_iff_ne.mpr c64
        exact absurd ((Option.some.inj H).trans hrt_.out) (by decide)
      rw [if_pos c64] at H; have c64b0 : ((t413.length : Int) == 1) = true := beq_iff_eq.mpr c64
      have c64b1 : ((t413.length : Int) != 1) = false := bne_eq_false_iff_eq.mpr c64
      clear c64; by_cases c65 : 0 < (t413.length : Int)
      rotate_left
      · rw [if_neg c65] at H
        exact absurd H (by simp)
      rw [if_pos c65] at H; have c65b0 : decide (0 < (t413.length : Int)) = true := decide_eq_true c65
      have c65b1 : decide (0 < t413.length) = true := decide_eq_true (by omega)
      clear c65; by_cases c66 : ((rd_T45 t413 0).f0) = x7_1
      rotate_left
      · rw [if_neg c66] at H
        have c66b0 : (((rd_T45 t413 0).f0) == x7_1) = false := beq_eq_false_iff_ne.mpr c66
        have c66b1 : (((rd_T45 t413 0).f0) != x7_1) = true := bne_iff_ne.mpr c66
        exact absurd ((Option.some.inj H).trans hrt_.out) (by decide)
      rw [if_pos c66] at H; have c66b0 : (((rd_T45 t413 0).f0) == x7_1) = true := beq_iff_eq.mpr c66
      have c66b1 : (((rd_T45 t413 0).f0) != x7_1) = false := bne_eq_false_iff_eq.mpr c66
      clear c66; by_cases c67 : ((rd_T45 t413 0).f1) = (rd t409 x24_1)
      rotate_left
      · rw [if_neg c67] at H
        have c67b0 : (((rd_T45 t413 0).f1) == (rd t409 x24_1)) = false := beq_eq_false_iff_ne.mpr c67
        have c67b1 : (((rd_T45 t413 0).f1) != (rd t409 x24_1)) = true := bne_iff_ne.mpr c67
        exact absurd ((Option.some.inj H).trans hrt_.out) (by decide)
      rw [if_pos c67] at H; have c67b0 : (((rd_T45 t413 0).f1) == (rd t409 x24_1)) = true := beq_iff_eq.mpr c67
      have c67b1 : (((rd_T45 t413 0).f1) != (rd t409 x24_1)) = false := bne_eq_false_iff_eq.mpr c67
      clear c67; by_cases c68 : ((rd_T45 t413 0).f3) = 2
      rotate_left
      · rw [if_neg c68] at H
        have c68b0 : (((rd_T45 t413 0).f3) == 2) = false := beq_eq_false_iff_ne.mpr c68
        have c68b1 : (((rd_T45 t413 0).f3) != 2) = true := bne_iff_ne.mpr c68
        exact absurd ((Option.some.inj H).trans hrt_.out) (by decide)
      rw [if_pos c68] at H; have c68b0 : (((rd_T45 t413 0).f3) == 2) = true := beq_iff_eq.mpr c68
      have c68b1 : (((rd_T45 t413 0).f3) != 2) = false := bne_eq_false_iff_eq.mpr c68
      clear c68; have H' := zC.mk H
      clear H; have p412 : 0 ≤ (x24_1 : Int) := of_decide_eq_true (by first | (with_reducible assumption) | assumption)
      have q412 : x24_1 < (t409.length : Int) := of_decide_eq_true (by first | (with_reducible assumption) | assumption)
      obtain ⟨ad412, e412, hx412_0⟩ := Kd.at_int (Kd.R_reads' HO_22.out).2.2 x24_1 p412 q412; cases e412
      replace p412 := eq_true p412; replace q412 := eq_true q412; have hnb69 := NB407_393.out; have hnc69 := NB393_407.out; have hnb70 := NB407_408.out; have hnc70 := NB408_407.out; have hcz71_0 : wr.cell? ⟨gb407, 0, none⟩ = some (.slice Ao19 t395.length co19) := (zG BK407.out 0).trans rfl
      have hcz71_1 : wr.cell? ⟨gb407, 1, none⟩ = some (.slice Ao21 t398.length co21) := (zG BK407.out 1).trans rfl
      have hfz71_0 := zJ BK407.out 0; have hfz71_1 := zJ BK407.out 1; have hnb72 := NB408_393.out; have hnc72 := NB393_408.out; have hcz73_0 : wr.cell? ⟨gb408, 0, none⟩ = some (.int .i64 1048576) := (zG BK408.out 0).trans rfl
      have hcz73_1 : wr.cell? ⟨gb408, 1, none⟩ = some (.int .i64 t402) := (zG BK408.out 1).trans rfl
      have hcz73_2 : wr.cell? ⟨gb408, 2, none⟩ = some (.int .u8 t403) := (zG BK408.out 2).trans rfl
      have hcz73_3 : wr.cell? ⟨gb408, 3, none⟩ = some (.int .i64 t404) := (zG BK408.out 3).trans rfl
      have hcz73_4 : wr.cell? ⟨gb408, 4, none⟩ = some (.int .i64 t405) := (zG BK408.out 4).trans rfl
      have hcz73_5 : wr.cell? ⟨gb408, 5, none⟩ = some (.float .f64 t406) := (zG BK408.out 5).trans rfl
      have hfz73_0 := zJ BK408.out 0; have hfz73_1 := zJ BK408.out 1; have hfz73_2 := zJ BK408.out 2; have hfz73_3 := zJ BK408.out 3; have hfz73_4 := zJ BK408.out 4; have hfz73_5 := zJ BK408.out 5; go_wp2_with (first | ((with_reducible refine gate_callee (f := 17) rfl ?_); refine goesL_ (some 32) rfl rfl Try.func17 (by kernel_rfl) rfl #[.agg #[.slice Ao19 t395.length co19, .slice Ao21 t398.length co21], .int .i64 x7_1, .int .i64 (rd t409 x24_1), .agg #[.int .i64 1048576, .int .i64 t402, .int .u8 t403, .int .i64 t404, .int .i64 t405, .float .f64 t406]] rfl (by (try simp only [List.map_toArray, List.map_cons, List.map_nil]); first | done | rfl | (simp only [List.length_drop, List.length_take]; rfl)) ?_; (with_reducible refine (first_Break.calls k1 _ _ t395 _ _ t398 x7_1 (rd t409 x24_1) 1048576 t402 t403 t404 t405 t406 t413 _ ?side1 ?side2 ?side3 ?side4 A40.out).mono ?_); (case side1 => repeat (first | exact (Kd.R_reads' HO_408000.out).2.2 | (with_reducible refine Kd.C_alloc ?_ _) | (with_reducible refine Kd.C_drewN ?_ _) | (with_reducible refine Kd.C_drew ?_))); (case side2 => exact (Kd.R_reads' HO_408000.out).2.1); (case side3 => repeat (first | exact (Kd.R_reads' HO_408001.out).2.2 | (with_reducible refine Kd.C_alloc ?_ _) | (with_reducible refine Kd.C_drewN ?_ _) | (with_reducible refine Kd.C_drew ?_))); (case side4 => exact (Kd.R_reads' HO_408001.out).2.1); rintro e w74 ⟨v414, rfl, ho0, hb⟩; refine ⟨_, rfl, ?_⟩; have n0_ := zC.mk (Kd.R_below (by (with_reducible repeat (first | apply Kd.R_alloc | apply Kd.R_drewN | apply Kd.R_drew)); exact HO_22.out) hb); have n1_ := zC.mk (Kd.R_below (by (with_reducible repeat (first | apply Kd.R_alloc | apply Kd.R_drewN | apply Kd.R_drew)); exact HO_408000.out) hb); have n2_ := zC.mk (Kd.R_below (by (with_reducible repeat (first | apply Kd.R_alloc | apply Kd.R_drewN | apply Kd.R_drew)); exact HO_408001.out) hb); have n3_ := zC.mk (Kd.R_lower ho0 (zK (by repeat (first | (with_reducible first | exact HB.out | apply zH | apply zF | apply zI | refine zE ?_ GE393.out | refine zE ?_ GE407.out | refine zE ?_ GE408.out) | exact HB.out)))); have n4_ := zC.mk (zL (g := gb393) (o := .cells #[.int .u8 a1_0, .int .u8 a1_1, .int .u8 a1_2, .int .u16 a1_3, .int .u16 a1_4, .float .f64 a1_5] 26 (0, 0)) (by (with_reducible repeat (first | refine zA ?_ _ | refine zD ?_ | refine zB ?_ _)); exact BK393.out) hb); have n5_ := zC.mk (zL (g := gb407) (o := .cells #[.slice Ao19 t395.length co19, .slice Ao21 t398.length co21] 31 (0, 0)) (by (with_reducible repeat (first | refine zA ?_ _ | refine zD ?_ | refine zB ?_ _)); exact BK407.out) hb); have n6_ := zC.mk (zL (g := gb408) (o := .cells #[.int .i64 1048576, .int .i64 t402, .int .u8 t403, .int .i64 t404, .int .i64 t405, .float .f64 t406] 35 (0, 0)) (by (with_reducible repeat (first | refine zA ?_ _ | refine zD ?_ | refine zB ?_ _)); exact BK408.out) hb); have n7_ := zC.mk (below_step (by repeat (first | (with_reducible first | exact HB.out | apply zH | apply zF | apply zI | refine zE ?_ GE393.out | refine zE ?_ GE407.out | refine zE ?_ GE408.out) | exact HB.out)) hb); clear HO_22; clear HO_408000; clear HO_408001; clear BK393; clear BK407; clear BK408; clear HB; have HO_22 := n0_; have HO_408000 := n1_; have HO_408001 := n2_; have HO415 := n3_; have BK393 := n4_; have BK407 := n5_; have BK408 := n6_; have HB := n7_; clear n0_ n1_ n2_ n3_ n4_ n5_ n6_ n7_; (try clear hb); (try clear hb2); (try clear hk); (try clear hi); (try clear ho0); obtain ⟨Ao75, co75, eo75⟩ := Kd.R_slice HO415.out; subst eo75; have p419 : 0 ≤ (0 : Int) := (by omega); have q419 : 0 < (t413.length : Int) := of_decide_eq_true (by first | (with_reducible assumption) | assumption); obtain ⟨ad419, e419, hx419_0, hx419_1, hx419_2, hx419_3⟩ := at_T45 (Kd.R_reads' HO415.out).2.2 0 p419 q419; cases e419; have qi419 : (0 < t413.length) = True := eq_true (by omega); (try rw [show ((0 : Int)).toNat = 0 from rfl] at hx419_0); (try rw [show 0 * 4 = 0 from rfl] at hx419_0); (try rw [Addr.add_zero'] at hx419_0); (try rw [show ((0 : Int)).toNat = 0 from rfl] at hx419_1); (try rw [show 0 * 4 = 0 from rfl] at hx419_1); (try rw [Addr.add_zero'] at hx419_1); (try rw [show ((0 : Int)).toNat = 0 from rfl] at hx419_2); (try rw [show 0 * 4 = 0 from rfl] at hx419_2); (try rw [Addr.add_zero'] at hx419_2); (try rw [show ((0 : Int)).toNat = 0 from rfl] at hx419_3); (try rw [show 0 * 4 = 0 from rfl] at hx419_3); (try rw [Addr.add_zero'] at hx419_3); replace p419 := eq_true p419; replace q419 := eq_true q419; have p420 : 0 ≤ (0 : Int) := (by omega); have q420 : 0 < (t413.length : Int) := of_decide_eq_true (by first | (with_reducible assumption) | assumption); obtain ⟨ad420, e420, hx420_0, hx420_1, hx420_2, hx420_3⟩ := at_T45 (Kd.R_reads' HO415.out).2.2 0 p420 q420; obtain rfl : ad419 = ad420 := (by injection e420); have qi420 : (0 < t413.length) = True := eq_true (by omega); (try rw [show ((0 : Int)).toNat = 0 from rfl] at hx420_0); (try rw [show 0 * 4 = 0 from rfl] at hx420_0); (try rw [Addr.add_zero'] at hx420_0); (try rw [show ((0 : Int)).toNat = 0 from rfl] at hx420_1); (try rw [show 0 * 4 = 0 from rfl] at hx420_1); (try rw [Addr.add_zero'] at hx420_1); (try rw [show ((0 : Int)).toNat = 0 from rfl] at hx420_2); (try rw [show 0 * 4 = 0 from rfl] at hx420_2); (try rw [Addr.add_zero'] at hx420_2); (try rw [show ((0 : Int)).toNat = 0 from rfl] at hx420_3); (try rw [show 0 * 4 = 0 from rfl] at hx420_3); (try rw [Addr.add_zero'] at hx420_3); replace p420 := eq_true p420; replace q420 := eq_true q420; have p421 : 0 ≤ (0 : Int) := (by omega); have q421 : 0 < (t413.length : Int) := of_decide_eq_true (by first | (with_reducible assumption) | assumption); obtain ⟨ad421, e421, hx421_0, hx421_1, hx421_2, hx421_3⟩ := at_T45 (Kd.R_reads' HO415.out).2.2 0 p421 q421; obtain rfl : ad419 = ad421 := (by injection e421); have qi421 : (0 < t413.length) = True := eq_true (by omega); (try rw [show ((0 : Int)).toNat = 0 from rfl] at hx421_0); (try rw [show 0 * 4 = 0 from rfl] at hx421_0); (try rw [Addr.add_zero'] at hx421_0); (try rw [show ((0 : Int)).toNat = 0 from rfl] at hx421_1); (try rw [show 0 * 4 = 0 from rfl] at hx421_1); (try rw [Addr.add_zero'] at hx421_1); (try rw [show ((0 : Int)).toNat = 0 from rfl] at hx421_2); (try rw [show 0 * 4 = 0 from rfl] at hx421_2); (try rw [Addr.add_zero'] at hx421_2); (try rw [show ((0 : Int)).toNat = 0 from rfl] at hx421_3); (try rw [show 0 * 4 = 0 from rfl] at hx421_3); (try rw [Addr.add_zero'] at hx421_3); replace p421 := eq_true p421; replace q421 := eq_true q421))
      go_roundg k1
      case measure => have := HK1.out; omega
      case rel => exact ⟨(rd t409 x24_1), (wrap64 (x24_1 + 1)), (by first | rfl | (simp; done) | (simp [*]; done)), (by first | rfl | (simp; done) | (simp [*]; done)), H', ⟨by have := HK1.out; omega⟩, ⟨by (with_reducible repeat (first | apply Kd.R_alloc | apply Kd.R_drewN | apply Kd.R_drew)); exact HO_22.out⟩, ⟨by (with_reducible repeat (first | apply Kd.R_alloc | apply Kd.R_drewN | apply Kd.R_drew)); exact HO_408000.out⟩, ⟨by (with_reducible repeat (first | apply Kd.R_alloc | apply Kd.R_drewN | apply Kd.R_drew)); exact HO_408001.out⟩, ⟨by (with_reducible repeat (first | refine zA ?_ _ | refine zD ?_ | refine zB ?_ _)); exact BK393.out⟩, ⟨by (with_reducible repeat (first | refine zA ?_ _ | refine zD ?_ | refine zB ?_ _)); exact BK407.out⟩, ⟨by (with_reducible repeat (first | refine zA ?_ _ | refine zD ?_ | refine zB ?_ _)); exact BK408.out⟩, ⟨by repeat (first | (with_reducible first | exact HB.out | apply zH | apply zF | apply zI | refine zE ?_ GE393.out | refine zE ?_ GE407.out | refine zE ?_ GE408.out) | exact HB.out)⟩⟩
    rw [if_pos c41] at H; have c41b0 : (x7_1 == (rd t409 x24_1)) = true := beq_iff_eq.mpr c41
    have c41b1 : (x7_1 != (rd t409 x24_1)) = false := bne_eq_false_iff_eq.mpr c41
    clear c41; by_cases c42 : (t413.length : Int) = 0
    rotate_left
    · rw [if_neg c42] at H
      have c42b0 : ((t413.length : Int) == 0) = false := beq_eq_false_iff_ne.mpr c42
      have c42b1 : ((t413.length : Int) != 0) = true := bne_iff_ne.mpr c42
      have c42b2 : ¬ (t413 = []) := fun h_ => c42 (by rw [h_]; rfl)
      exact absurd ((Option.some.inj H).trans hrt_.out) (by decide)
    rw [if_pos c42] at H; have c42b0 : ((t413.length : Int) == 0) = true := beq_iff_eq.mpr c42
    have c42b1 : ((t413.length : Int) != 0) = false := bne_eq_false_iff_eq.mpr c42
    clear c42; by_cases c43 : x7_1 < (rd t409 x24_1)
    rotate_left
    · rw [if_neg c43] at H
      have c43b0 : decide (x7_1 < (rd t409 x24_1)) = false := decide_eq_false c43
      clear c43; have H' := zC.mk H
      clear H; have p412 : 0 ≤ (x24_1 : Int) := of_decide_eq_true (by first | (with_reducible assumption) | assumption)
      have q412 : x24_1 < (t409.length : Int) := of_decide_eq_true (by first | (with_reducible assumption) | assumption)
      obtain ⟨ad412, e412, hx412_0⟩ := Kd.at_int (Kd.R_reads' HO_22.out).2.2 x24_1 p412 q412; cases e412
      replace p412 := eq_true p412; replace q412 := eq_true q412; have hnb56 := NB407_393.out; have hnc56 := NB393_407.out; have hnb57 := NB407_408.out; have hnc57 := NB408_407.out; have hcz58_0 : wr.cell? ⟨gb407, 0, none⟩ = some (.slice Ao19 t395.length co19) := (zG BK407.out 0).trans rfl
      have hcz58_1 : wr.cell? ⟨gb407, 1, none⟩ = some (.slice Ao21 t398.length co21) := (zG BK407.out 1).trans rfl
      have hfz58_0 := zJ BK407.out 0; have hfz58_1 := zJ BK407.out 1; have hnb59 := NB408_393.out; have hnc59 := NB393_408.out; have hcz60_0 : wr.cell? ⟨gb408, 0, none⟩ = some (.int .i64 1048576) := (zG BK408.out 0).trans rfl
      have hcz60_1 : wr.cell? ⟨gb408, 1, none⟩ = some (.int .i64 t402) := (zG BK408.out 1).trans rfl
      have hcz60_2 : wr.cell? ⟨gb408, 2, none⟩ = some (.int .u8 t403) := (zG BK408.out 2).trans rfl
      have hcz60_3 : wr.cell? ⟨gb408, 3, none⟩ = some (.int .i64 t404) := (zG BK408.out 3).trans rfl
      have hcz60_4 : wr.cell? ⟨gb408, 4, none⟩ = some (.int .i64 t405) := (zG BK408.out 4).trans rfl
      have hcz60_5 : wr.cell? ⟨gb408, 5, none⟩ = some (.float .f64 t406) := (zG BK408.out 5).trans rfl
      have hfz60_0 := zJ BK408.out 0; have hfz60_1 := zJ BK408.out 1; have hfz60_2 := zJ BK408.out 2; have hfz60_3 := zJ BK408.out 3; have hfz60_4 := zJ BK408.out 4; have hfz60_5 := zJ BK408.out 5; go_wp2_with (first | ((with_reducible refine gate_callee (f := 17) rfl ?_); refine goesL_ (some 32) rfl rfl Try.func17 (by kernel_rfl) rfl #[.agg #[.slice Ao19 t395.length co19, .slice Ao21 t398.length co21], .int .i64 x7_1, .int .i64 (rd t409 x24_1), .agg #[.int .i64 1048576, .int .i64 t402, .int .u8 t403, .int .i64 t404, .int .i64 t405, .float .f64 t406]] rfl (by (try simp only [List.map_toArray, List.map_cons, List.map_nil]); first | done | rfl | (simp only [List.length_drop, List.length_take]; rfl)) ?_; (with_reducible refine (first_Break.calls k1 _ _ t395 _ _ t398 x7_1 (rd t409 x24_1) 1048576 t402 t403 t404 t405 t406 t413 _ ?side1 ?side2 ?side3 ?side4 A40.out).mono ?_); (case side1 => repeat (first | exact (Kd.R_reads' HO_408000.out).2.2 | (with_reducible refine Kd.C_alloc ?_ _) | (with_reducible refine Kd.C_drewN ?_ _) | (with_reducible refine Kd.C_drew ?_))); (case side2 => exact (Kd.R_reads' HO_408000.out).2.1); (case side3 => repeat (first | exact (Kd.R_reads' HO_408001.out).2.2 | (with_reducible refine Kd.C_alloc ?_ _) | (with_reducible refine Kd.C_drewN ?_ _) | (with_reducible refine Kd.C_drew ?_))); (case side4 => exact (Kd.R_reads' HO_408001.out).2.1); rintro e w61 ⟨v414, rfl, ho0, hb⟩; refine ⟨_, rfl, ?_⟩; have n0_ := zC.mk (Kd.R_below (by (with_reducible repeat (first | apply Kd.R_alloc | apply Kd.R_drewN | apply Kd.R_drew)); exact HO_22.out) hb); have n1_ := zC.mk (Kd.R_below (by (with_reducible repeat (first | apply Kd.R_alloc | apply Kd.R_drewN | apply Kd.R_drew)); exact HO_408000.out) hb); have n2_ := zC.mk (Kd.R_below (by (with_reducible repeat (first | apply Kd.R_alloc | apply Kd.R_drewN | apply Kd.R_drew)); exact HO_408001.out) hb); have n3_ := zC.mk (Kd.R_lower ho0 (zK (by repeat (first | (with_reducible first | exact HB.out | apply zH | apply zF | apply zI | refine zE ?_ GE393.out | refine zE ?_ GE407.out | refine zE ?_ GE408.out) | exact HB.out)))); have n4_ := zC.mk (zL (g := gb393) (o := .cells #[.int .u8 a1_0, .int .u8 a1_1, .int .u8 a1_2, .int .u16 a1_3, .int .u16 a1_4, .float .f64 a1_5] 26 (0, 0)) (by (with_reducible repeat (first | refine zA ?_ _ | refine zD ?_ | refine zB ?_ _)); exact BK393.out) hb); have n5_ := zC.mk (zL (g := gb407) (o := .cells #[.slice Ao19 t395.length co19, .slice Ao21 t398.length co21] 31 (0, 0)) (by (with_reducible repeat (first | refine zA ?_ _ | refine zD ?_ | refine zB ?_ _)); exact BK407.out) hb); have n6_ := zC.mk (zL (g := gb408) (o := .cells #[.int .i64 1048576, .int .i64 t402, .int .u8 t403, .int .i64 t404, .int .i64 t405, .float .f64 t406] 35 (0, 0)) (by (with_reducible repeat (first | refine zA ?_ _ | refine zD ?_ | refine zB ?_ _)); exact BK408.out) hb); have n7_ := zC.mk (below_step (by repeat (first | (with_reducible first | exact HB.out | apply zH | apply zF | apply zI | refine zE ?_ GE393.out | refine zE ?_ GE407.out | refine zE ?_ GE408.out) | exact HB.out)) hb); clear HO_22; clear HO_408000; clear HO_408001; clear BK393; clear BK407; clear BK408; clear HB; have HO_22 := n0_; have HO_408000 := n1_; have HO_408001 := n2_; have HO415 := n3_; have BK393 := n4_; have BK407 := n5_; have BK408 := n6_; have HB := n7_; clear n0_ n1_ n2_ n3_ n4_ n5_ n6_ n7_; (try clear hb); (try clear hb2); (try clear hk); (try clear hi); (try clear ho0); obtain ⟨Ao62, co62, eo62⟩ := Kd.R_slice HO415.out; subst eo62))
      go_roundg k1
      case measure => have := HK1.out; omega
      case rel => exact ⟨(rd t409 x24_1), (wrap64 (x24_1 + 1)), (by first | rfl | (simp; done) | (simp [*]; done)), (by first | rfl | (simp; done) | (simp [*]; done)), H', ⟨by have := HK1.out; omega⟩, ⟨by (with_reducible repeat (first | apply Kd.R_alloc | apply Kd.R_drewN | apply Kd.R_drew)); exact HO_22.out⟩, ⟨by (with_reducible repeat (first | apply Kd.R_alloc | apply Kd.R_drewN | apply Kd.R_drew)); exact HO_408000.out⟩, ⟨by (with_reducible repeat (first | apply Kd.R_alloc | apply Kd.R_drewN | apply Kd.R_drew)); exact HO_408001.out⟩, ⟨by (with_reducible repeat (first | refine zA ?_ _ | refine zD ?_ | refine zB ?_ _)); exact BK393.out⟩, ⟨by (with_reducible repeat (first | refine zA ?_ _ | refine zD ?_ | refine zB ?_ _)); exact BK407.out⟩, ⟨by (with_reducible repeat (first | refine zA ?_ _ | refine zD ?_ | refine zB ?_ _)); exact BK408.out⟩, ⟨by repeat (first | (with_reducible first | exact HB.out | apply zH | apply zF | apply zI | refine zE ?_ GE393.out | refine zE ?_ GE407.out | refine zE ?_ GE408.out) | exact HB.out)⟩⟩
    rw [if_pos c43] at H; have c43b0 : decide (x7_1 < (rd t409 x24_1)) = true := decide_eq_true c43
    clear c43; by_cases c44 : (t413.length : Int) = 1
    rotate_left
    · rw [if_neg c44] at H
      have c44b0 : ((t413.length : Int) == 1) = false := beq_eq_false_iff_ne.mpr c44
      have c44b1 : ((t413.length : Int) != 1) = true := bne_iff_ne.mpr c44
      exact absurd ((Option.some.inj H).trans hrt_.out) (by decide)
    rw [if_pos c44] at H; have c44b0 : ((t413.length : Int) == 1) = true := beq_iff_eq.mpr c44
    have c44b1 : ((t413.length : Int) != 1) = false := bne_eq_false_iff_eq.mpr c44
    clear c44; by_cases c45 : 0 < (t413.length : Int)
    rotate_left
    · rw [if_neg c45] at H
      exact absurd H (by simp)
    rw [if_pos c45] at H; have c45b0 : decide (0 < (t413.length : Int)) = true := decide_eq_true c45
    have c45b1 : decide (0 < t413.length) = true := decide_eq_true (by omega)
    clear c45; by_cases c46 : ((rd_T45 t413 0).f0) = x7_1
    rotate_left
    · rw [if_neg c46] at H
      have c46b0 : (((rd_T45 t413 0).f0) == x7_1) = false := beq_eq_false_iff_ne.mpr c46
      have c46b1 : (((rd_T45 t413 0).f0) != x7_1) = true := bne_iff_ne.mpr c46
      exact absurd ((Option.some.inj H).trans hrt_.out) (by decide)
    rw [if_pos c46] at H; have c46b0 : (((rd_T45 t413 0).f0) == x7_1) = true := beq_iff_eq.mpr c46
    have c46b1 : (((rd_T45 t413 0).f0) != x7_1) = false := bne_eq_false_iff_eq.mpr c46
    clear c46; by_cases c47 : ((rd_T45 t413 0).f1) = (rd t409 x24_1)
    rotate_left
    · rw [if_neg c47] at H
      have c47b0 : (((rd_T45 t413 0).f1) == (rd t409 x24_1)) = false := beq_eq_false_iff_ne.mpr c47
      have c47b1 : (((rd_T45 t413 0).f1) != (rd t409 x24_1)) = true := bne_iff_ne.mpr c47
      exact absurd ((Option.some.inj H).trans hrt_.out) (by decide)
    rw [if_pos c47] at H; have c47b0 : (((rd_T45 t413 0).f1) == (rd t409 x24_1)) = true := beq_iff_eq.mpr c47
    have c47b1 : (((rd_T45 t413 0).f1) != (rd t409 x24_1)) = false := bne_eq_false_iff_eq.mpr c47
    clear c47; by_cases c48 : ((rd_T45 t413 0).f3) = 2
    rotate_left
    · rw [if_neg c48] at H
      have c48b0 : (((rd_T45 t413 0).f3) == 2) = false := beq_eq_false_iff_ne.mpr c48
      have c48b1 : (((rd_T45 t413 0).f3) != 2) = true := bne_iff_ne.mpr c48
      exact absurd ((Option.some.inj H).trans hrt_.out) (by decide)
    rw [if_pos c48] at H; have c48b0 : (((rd_T45 t413 0).f3) == 2) = true := beq_iff_eq.mpr c48
    have c48b1 : (((rd_T45 t413 0).f3) != 2) = false := bne_eq_false_iff_eq.mpr c48
    clear c48; have H' := zC.mk H
    clear H; have p412 : 0 ≤ (x24_1 : Int) := of_decide_eq_true (by first | (with_reducible assumption) | assumption)
    have q412 : x24_1 < (t409.length : Int) := of_decide_eq_true (by first | (with_reducible assumption) | assumption)
    obtain ⟨ad412, e412, hx412_0⟩ := Kd.at_int (Kd.R_reads' HO_22.out).2.2 x24_1 p412 q412; cases e412
    replace p412 := eq_true p412; replace q412 := eq_true q412; have hnb49 := NB407_393.out; have hnc49 := NB393_407.out; have hnb50 := NB407_408.out; have hnc50 := NB408_407.out; have hcz51_0 : wr.cell? ⟨gb407, 0, none⟩ = some (.slice Ao19 t395.length co19) := (zG BK407.out 0).trans rfl
    have hcz51_1 : wr.cell? ⟨gb407, 1, none⟩ = some (.slice Ao21 t398.length co21) := (zG BK407.out 1).trans rfl
    have hfz51_0 := zJ BK407.out 0; have hfz51_1 := zJ BK407.out 1; have hnb52 := NB408_393.out; have hnc52 := NB393_408.out; have hcz53_0 : wr.cell? ⟨gb408, 0, none⟩ = some (.int .i64 1048576) := (zG BK408.out 0).trans rfl
    have hcz53_1 : wr.cell? ⟨gb408, 1, none⟩ = some (.int .i64 t402) := (zG BK408.out 1).trans rfl
    have hcz53_2 : wr.cell? ⟨gb408, 2, none⟩ = some (.int .u8 t403) := (zG BK408.out 2).trans rfl
    have hcz53_3 : wr.cell? ⟨gb408, 3, none⟩ = some (.int .i64 t404) := (zG BK408.out 3).trans rfl
    have hcz53_4 : wr.cell? ⟨gb408, 4, none⟩ = some (.int .i64 t405) := (zG BK408.out 4).trans rfl
    have hcz53_5 : wr.cell? ⟨gb408, 5, none⟩ = some (.float .f64 t406) := (zG BK408.out 5).trans rfl
    have hfz53_0 := zJ BK408.out 0; have hfz53_1 := zJ BK408.out 1; have hfz53_2 := zJ BK408.out 2; have hfz53_3 := zJ BK408.out 3; have hfz53_4 := zJ BK408.out 4; have hfz53_5 := zJ BK408.out 5; go_wp2_with (first | ((with_reducible refine gate_callee (f := 17) rfl ?_); refine goesL_ (some 32) rfl rfl Try.func17 (by kernel_rfl) rfl #[.agg #[.slice Ao19 t395.length co19, .slice Ao21 t398.length co21], .int .i64 x7_1, .int .i64 (rd t409 x24_1), .agg #[.int .i64 1048576, .int .i64 t402, .int .u8 t403, .int .i64 t404, .int .i64 t405, .float .f64 t406]] rfl (by (try simp only [List.map_toArray, List.map_cons, List.map_nil]); first | done | rfl | (simp only [List.length_drop, List.length_take]; rfl)) ?_; (with_reducible refine (first_Break.calls k1 _ _ t395 _ _ t398 x7_1 (rd t409 x24_1) 1048576 t402 t403 t404 t405 t406 t413 _ ?side1 ?side2 ?side3 ?side4 A40.out).mono ?_); (case side1 => repeat (first | exact (Kd.R_reads' HO_408000.out).2.2 | (with_reducible refine Kd.C_alloc ?_ _) | (with_reducible refine Kd.C_drewN ?_ _) | (with_reducible refine Kd.C_drew ?_))); (case side2 => exact (Kd.R_reads' HO_408000.out).2.1); (case side3 => repeat (first | exact (Kd.R_reads' HO_408001.out).2.2 | (with_reducible refine Kd.C_alloc ?_ _) | (with_reducible refine Kd.C_drewN ?_ _) | (with_reducible refine Kd.C_drew ?_))); (case side4 => exact (Kd.R_reads' HO_408001.out).2.1); rintro e w54 ⟨v414, rfl, ho0, hb⟩; refine ⟨_, rfl, ?_⟩; have n0_ := zC.mk (Kd.R_below (by (with_reducible repeat (first | apply Kd.R_alloc | apply Kd.R_drewN | apply Kd.R_drew)); exact HO_22.out) hb); have n1_ := zC.mk (Kd.R_below (by (with_reducible repeat (first | apply Kd.R_alloc | apply Kd.R_drewN | apply Kd.R_drew)); exact HO_408000.out) hb); have n2_ := zC.mk (Kd.R_below (by (with_reducible repeat (first | apply Kd.R_alloc | apply Kd.R_drewN | apply Kd.R_drew)); exact HO_408001.out) hb); have n3_ := zC.mk (Kd.R_lower ho0 (zK (by repeat (first | (with_reducible first | exact HB.out | apply zH | apply zF | apply zI | refine zE ?_ GE393.out | refine zE ?_ GE407.out | refine zE ?_ GE408.out) | exact HB.out)))); have n4_ := zC.mk (zL (g := gb393) (o := .cells #[.int .u8 a1_0, .int .u8 a1_1, .int .u8 a1_2, .int .u16 a1_3, .int .u16 a1_4, .float .f64 a1_5] 26 (0, 0)) (by (with_reducible repeat (first | refine zA ?_ _ | refine zD ?_ | refine zB ?_ _)); exact BK393.out) hb); have n5_ := zC.mk (zL (g := gb407) (o := .cells #[.slice Ao19 t395.length co19, .slice Ao21 t398.length co21] 31 (0, 0)) (by (with_reducible repeat (first | refine zA ?_ _ | refine zD ?_ | refine zB ?_ _)); exact BK407.out) hb); have n6_ := zC.mk (zL (g := gb408) (o := .cells #[.int .i64 1048576, .int .i64 t402, .int .u8 t403, .int .i64 t404, .int .i64 t405, .float .f64 t406] 35 (0, 0)) (by (with_reducible repeat (first | refine zA ?_ _ | refine zD ?_ | refine zB ?_ _)); exact BK408.out) hb); have n7_ := zC.mk (below_step (by repeat (first | (with_reducible first | exact HB.out | apply zH | apply zF | apply zI | refine zE ?_ GE393.out | refine zE ?_ GE407.out | refine zE ?_ GE408.out) | exact HB.out)) hb); clear HO_22; clear HO_408000; clear HO_408001; clear BK393; clear BK407; clear BK408; clear HB; have HO_22 := n0_; have HO_408000 := n1_; have HO_408001 := n2_; have HO415 := n3_; have BK393 := n4_; have BK407 := n5_; have BK408 := n6_; have HB := n7_; clear n0_ n1_ n2_ n3_ n4_ n5_ n6_ n7_; (try clear hb); (try clear hb2); (try clear hk); (try clear hi); (try clear ho0); obtain ⟨Ao55, co55, eo55⟩ := Kd.R_slice HO415.out; subst eo55; have p416 : 0 ≤ (0 : Int) := (by omega); have q416 : 0 < (t413.length : Int) := of_decide_eq_true (by first | (with_reducible assumption) | assumption); obtain ⟨ad416, e416, hx416_0, hx416_1, hx416_2, hx416_3⟩ := at_T45 (Kd.R_reads' HO415.out).2.2 0 p416 q416; cases e416; have qi416 : (0 < t413.length) = True := eq_true (by omega); (try rw [show ((0 : Int)).toNat = 0 from rfl] at hx416_0); (try rw [show 0 * 4 = 0 from rfl] at hx416_0); (try rw [Addr.add_zero'] at hx416_0); (try rw [show ((0 : Int)).toNat = 0 from rfl] at hx416_1); (try rw [show 0 * 4 = 0 from rfl] at hx416_1); (try rw [Addr.add_zero'] at hx416_1); (try rw [show ((0 : Int)).toNat = 0 from rfl] at hx416_2); (try rw [show 0 * 4 = 0 from rfl] at hx416_2); (try rw [Addr.add_zero'] at hx416_2); (try rw [show ((0 : Int)).toNat = 0 from rfl] at hx416_3); (try rw [show 0 * 4 = 0 from rfl] at hx416_3); (try rw [Addr.add_zero'] at hx416_3); replace p416 := eq_true p416; replace q416 := eq_true q416; have p417 : 0 ≤ (0 : Int) := (by omega); have q417 : 0 < (t413.length : Int) := of_decide_eq_true (by first | (with_reducible assumption) | assumption); obtain ⟨ad417, e417, hx417_0, hx417_1, hx417_2, hx417_3⟩ := at_T45 (Kd.R_reads' HO415.out).2.2 0 p417 q417; obtain rfl : ad416 = ad417 := (by injection e417); have qi417 : (0 < t413.length) = True := eq_true (by omega); (try rw [show ((0 : Int)).toNat = 0 from rfl] at hx417_0); (try rw [show 0 * 4 = 0 from rfl] at hx417_0); (try rw [Addr.add_zero'] at hx417_0); (try rw [show ((0 : Int)).toNat = 0 from rfl] at hx417_1); (try rw [show 0 * 4 = 0 from rfl] at hx417_1); (try rw [Addr.add_zero'] at hx417_1); (try rw [show ((0 : Int)).toNat = 0 from rfl] at hx417_2); (try rw [show 0 * 4 = 0 from rfl] at hx417_2); (try rw [Addr.add_zero'] at hx417_2); (try rw [show ((0 : Int)).toNat = 0 from rfl] at hx417_3); (try rw [show 0 * 4 = 0 from rfl] at hx417_3); (try rw [Addr.add_zero'] at hx417_3); replace p417 := eq_true p417; replace q417 := eq_true q417; have p418 : 0 ≤ (0 : Int) := (by omega); have q418 : 0 < (t413.length : Int) := of_decide_eq_true (by first | (with_reducible assumption) | assumption); obtain ⟨ad418, e418, hx418_0, hx418_1, hx418_2, hx418_3⟩ := at_T45 (Kd.R_reads' HO415.out).2.2 0 p418 q418; obtain rfl : ad416 = ad418 := (by injection e418); have qi418 : (0 < t413.length) = True := eq_true (by omega); (try rw [show ((0 : Int)).toNat = 0 from rfl] at hx418_0); (try rw [show 0 * 4 = 0 from rfl] at hx418_0); (try rw [Addr.add_zero'] at hx418_0); (try rw [show ((0 : Int)).toNat = 0 from rfl] at hx418_1); (try rw [show 0 * 4 = 0 from rfl] at hx418_1); (try rw [Addr.add_zero'] at hx418_1); (try rw [show ((0 : Int)).toNat = 0 from rfl] at hx418_2); (try rw [show 0 * 4 = 0 from rfl] at hx418_2); (try rw [Addr.add_zero'] at hx418_2); (try rw [show ((0 : Int)).toNat = 0 from rfl] at hx418_3); (try rw [show 0 * 4 = 0 from rfl] at hx418_3); (try rw [Addr.add_zero'] at hx418_3); replace p418 := eq_true p418; replace q418 := eq_true q418))
    go_roundg k1
    case measure => have := HK1.out; omega
    case rel => exact ⟨(rd t409 x24_1), (wrap64 (x24_1 + 1)), (by first | rfl | (simp; done) | (simp [*]; done)), (by first | rfl | (simp; done) | (simp [*]; done)), H', ⟨by have := HK1.out; omega⟩, ⟨by (with_reducible repeat (first | apply Kd.R_alloc | apply Kd.R_drewN | apply Kd.R_drew)); exact HO_22.out⟩, ⟨by (with_reducible repeat (first | apply Kd.R_alloc | apply Kd.R_drewN | apply Kd.R_drew)); exact HO_408000.out⟩, ⟨by (with_reducible repeat (first | apply Kd.R_alloc | apply Kd.R_drewN | apply Kd.R_drew)); exact HO_408001.out⟩, ⟨by (with_reducible repeat (first | refine zA ?_ _ | refine zD ?_ | refine zB ?_ _)); exact BK393.out⟩, ⟨by (with_reducible repeat (first | refine zA ?_ _ | refine zD ?_ | refine zB ?_ _)); exact BK407.out⟩, ⟨by (with_reducible repeat (first | refine zA ?_ _ | refine zD ?_ | refine zB ?_ _)); exact BK408.out⟩, ⟨by repeat (first | (with_reducible first | exact HB.out | apply zH | apply zF | apply zI | refine zE ?_ GE393.out | refine zE ?_ GE407.out | refine zE ?_ GE408.out) | exact HB.out)⟩⟩
def stanzalaw14_FirstWider.Pure : Prop := ∀ (l0 : List (S49)) (a1_0 : Int) (a1_1 : Int) (a1_2 : Int) (a1_3 : Int) (a1_4 : Int) (a1_5 : Nat), (l0.length * 4 ≤ 140737488351232 ∧ ∀ y0 ∈ l0, ((Lit.int .u8 y0.f0).wf = true ∧ ((Lit.int .u8 y0.f1).wf = true ∧ ((Lit.int .u8 y0.f2).wf = true ∧ (Lit.int .u8 y0.f3).wf = true)))) → ((Lit.int .u8 a1_0).wf = true ∧ ((Lit.int .u8 a1_1).wf = true ∧ ((Lit.int .u8 a1_2).wf = true ∧ ((Lit.int .u16 a1_3).wf = true ∧ ((Lit.int .u16 a1_4).wf = true ∧ (Lit.float .f64 a1_5).wf = true))))) → ∃ k, stanzalaw14_FirstWider.f k l0 a1_0 a1_1 a1_2 a1_3 a1_4 a1_5 = some true
end Go.Proofs.Ytfeidhmkmbgnoaa.F
end
