/- Printed by a program: Lean functions that answer as the Go functions do, and the proofs of it. -/
import Derived.Test.YtfeidhmkmbgnoaaVFirstBreaks0
import Derived.Test.YtfeidhmkmbgnoaaVFirstBreaks1
import Derived.Test.YtfeidhmkmbgnoaaVFirstBreaks2
section
namespace Go.Proofs.Ytfeidhmkmbgnoaa.F
open Go.RowKit Go.Proofs.YtfeidhmkmbgnoaaW.PrintWords Go.Proofs.YtfeidhmkmbgnoaaW.PrintLast Go.Proofs.YtfeidhmkmbgnoaaW.PrintMore
attribute [local go_sem] max2_int min2_int max_two min_two max_three min_three max_four min_four   -- for this text's walks alone
set_option linter.unusedVariables false
set_option linter.unusedSimpArgs false
def stanzalaw14_FirstBreaks.l0 : Nat → Int → List Int → Int → Int → List (S61) → List Int → Int → Int → Int → Int → Int → Nat → Option (Bool)
  | 0, _, _, _, _, _, _, _, _, _, _, _, _ => none
  | k + 1, x7, x20, x21, x22, x351000, x351001, x352000, x352001, x352002, x352003, x352004, x352005 => if x22 < x21 then (if 0 ≤ x22 then (if x22 < (x20.length : Int) then ((first_Break.f k x351000 x351001 x7 (rd x20 x22) x352000 x352001 x352002 x352003 x352004 x352005).bind fun t356 => ((stanzaref13_First.f k x351000 x351001 x7 (rd x20 x22) x352000 x352001 x352002 x352003 x352004 x352005).bind fun t359 => ((stanzaref13_SameLines.f k t356 t359).bind fun t362 => (if t362 = true then (stanzalaw14_FirstBreaks.l0 k (rd x20 x22) x20 x21 (wrap64 (x22 + 1)) x351000 x351001 x352000 x352001 x352002 x352003 x352004 x352005) else (some false))))) else (none)) else (none)) else (some true)
def stanzalaw14_FirstBreaks.f (k : Nat) (l0 : List (S49)) (a1_0 : Int) (a1_1 : Int) (a1_2 : Int) (a1_3 : Int) (a1_4 : Int) (a1_5 : Nat) : Option (Bool) := (stanzalaw14_Awake.f k).bind fun t337 => (if t337 = true then (if (l0.length : Int) > 300 then (some true) else ((stanzahand03_Para.f k l0).bind fun bt338 => ((stanzahand03_Config.f a1_0 a1_1 a1_2 a1_3 a1_4 a1_5).bind fun bt344 => ((stanzaref10_Parts.f k bt338.1 bt338.2).bind fun t352 => (stanzalaw14_FirstBreaks.l0 k 0 t352 (t352.length : Int) 0 bt338.1 bt338.2 bt344.1 bt344.2.1 bt344.2.2.1 bt344.2.2.2.1 bt344.2.2.2.2.1 bt344.2.2.2.2.2))))) else (some false))
theorem stanzalaw14_FirstBreaks.mono_l : ∀ k, (∀ y0 y1 y2 y3 y4 y5 y6 y7 y8 y9 y10 y11, LeO (stanzalaw14_FirstBreaks.l0 k y0 y1 y2 y3 y4 y5 y6 y7 y8 y9 y10 y11) (stanzalaw14_FirstBreaks.l0 (k + 1) y0 y1 y2 y3 y4 y5 y6 y7 y8 y9 y10 y11))
  | 0 => fun _ _ _ _ _ _ _ _ _ _ _ _ r h => by simp [stanzalaw14_FirstBreaks.l0] at h
  | k + 1 => by
    have ih0 := stanzalaw14_FirstBreaks.mono_l k
    · intro y0 y1 y2 y3 y4 y5 y6 y7 y8 y9 y10 y11
      unfold stanzalaw14_FirstBreaks.l0
      repeat' first
      | (with_reducible exact ih0 _ _ _ _ _ _ _ _ _ _ _ _)
      | (with_reducible exact first_Break.mono _ _ _ _ _ _ _ _ _ _ _)
      | (with_reducible exact stanzahand03_Para.mono _ _)
      | (with_reducible exact stanzalaw14_Awake.mono _)
      | (with_reducible exact stanzaref10_Parts.mono _ _ _)
      | (with_reducible exact stanzaref13_First.mono _ _ _ _ _ _ _ _ _ _ _)
      | (with_reducible exact stanzaref13_SameLines.mono _ _ _)
      | (with_reducible exact LeO.refl _)
      | (with_reducible exact LeO.none _)
      | (with_reducible refine LeO.ite ?_ ?_)
      | (with_reducible refine LeO.bind ?_ (fun _ => ?_))
      | exact ih0 _ _ _ _ _ _ _ _ _ _ _ _
      | exact first_Break.mono _ _ _ _ _ _ _ _ _ _ _
      | exact stanzahand03_Para.mono _ _
      | exact stanzalaw14_Awake.mono _
      | exact stanzaref10_Parts.mono _ _ _
      | exact stanzaref13_First.mono _ _ _ _ _ _ _ _ _ _ _
      | exact stanzaref13_SameLines.mono _ _ _
      | exact LeO.none _
      | refine LeO.ite ?_ ?_
      | refine LeO.bind ?_ (fun _ => ?_)
theorem stanzalaw14_FirstBreaks.mono : ∀ a0 a1 a2 a3 a4 a5 a6 k, LeO (stanzalaw14_FirstBreaks.f k a0 a1 a2 a3 a4 a5 a6) (stanzalaw14_FirstBreaks.f (k + 1) a0 a1 a2 a3 a4 a5 a6) := by
  intro a0 a1 a2 a3 a4 a5 a6 k
  have ih0 := stanzalaw14_FirstBreaks.mono_l k; unfold stanzalaw14_FirstBreaks.f
  repeat' first
      | (with_reducible exact ih0 _ _ _ _ _ _ _ _ _ _ _ _)
      | (with_reducible exact first_Break.mono _ _ _ _ _ _ _ _ _ _ _)
      | (with_reducible exact stanzahand03_Para.mono _ _)
      | (with_reducible exact stanzalaw14_Awake.mono _)
      | (with_reducible exact stanzaref10_Parts.mono _ _ _)
      | (with_reducible exact stanzaref13_First.mono _ _ _ _ _ _ _ _ _ _ _)
      | (with_reducible exact stanzaref13_SameLines.mono _ _ _)
      | (with_reducible exact LeO.refl _)
      | (with_reducible exact LeO.none _)
      | (with_reducible refine LeO.ite ?_ ?_)
      | (with_reducible refine LeO.bind ?_ (fun _ => ?_))
      | exact ih0 _ _ _ _ _ _ _ _ _ _ _ _
      | exact first_Break.mono _ _ _ _ _ _ _ _ _ _ _
      | exact stanzahand03_Para.mono _ _
      | exact stanzalaw14_Awake.mono _
      | exact stanzaref10_Parts.mono _ _ _
      | exact stanzaref13_First.mono _ _ _ _ _ _ _ _ _ _ _
      | exact stanzaref13_SameLines.mono _ _ _
      | exact LeO.none _
      | refine LeO.ite ?_ ?_
      | refine LeO.bind ?_ (fun _ => ?_)
def stanzalaw14_FirstBreaks.T5 : Bool × List (List Nat × List Nat) := (true, [([], []), ([0], [0]), ([], []), ([2, 1], [2]), ([], []), ([], []), ([4, 1, 3, 0, 1, 4, 5], [1, 4]), ([5, 3, 6, 0, 1, 2, 3, 4, 5, 6], [3, 5])])
def stanzalaw14_FirstBreaks.B5 : List Nat := [0, 1, 0, 7, 0, 0, 63, 127]
theorem stanzalaw14_FirstBreaks.tab5 : rtab .any (opsOf Try.f3 5) = stanzalaw14_FirstBreaks.T5 := by kernel_rfl
theorem stanzalaw14_FirstBreaks.bits5 : waitsOk stanzalaw14_FirstBreaks.T5.2 stanzalaw14_FirstBreaks.B5 = true := by kernel_rfl
def stanzalaw14_FirstBreaks.T10 : Bool × List (List Nat × List Nat) := (true, [([], []), ([], []), ([], []), ([], []), ([0, 1, 2, 3], [0, 1, 2, 3]), ([], []), ([], []), ([], []), ([], []), ([5, 6, 7, 8, 4], [5, 6, 7, 8]), ([4, 9, 9], [4, 9]), ([10], [10])])
def stanzalaw14_FirstBreaks.B10 : List Nat := [0, 0, 0, 0, 15, 0, 0, 0, 0, 511, 1023, 2047]
theorem stanzalaw14_FirstBreaks.tab10 : rtab .any (opsOf Try.f3 10) = stanzalaw14_FirstBreaks.T10 := by kernel_rfl
theorem stanzalaw14_FirstBreaks.bits10 : waitsOk stanzalaw14_FirstBreaks.T10.2 stanzalaw14_FirstBreaks.B10 = true := by kernel_rfl
set_option maxHeartbeats 8000000 in
set_option maxRecDepth 100000 in
theorem stanzalaw14_FirstBreaks.calls (k : Nat) (A0 : Option Addr) (c0 : Nat) (l0 : List (S49)) (a1_0 : Int) (a1_1 : Int) (a1_2 : Int) (a1_3 : Int) (a1_4 : Int) (a1_5 : Nat) (r : Bool) (w : World) (hr0 : Kd.C k49 w A0 l0.length l0) (hc0 : l0.length ≤ c0) (h : stanzalaw14_FirstBreaks.f k l0 a1_0 a1_1 a1_2 a1_3 a1_4 a1_5 = some r) (hrt_ : zA (r = true)) :
    Calls Try.prog 3 #[.slice A0 l0.length c0, .agg #[.int .u8 a1_0, .int .u8 a1_1, .int .u8 a1_2, .int .u16 a1_3, .int .u16 a1_4, .float .f64 a1_5]] w fun e w' => e = .returned (.bool r) ∧ Below w.heap.size w w' := by
  have hu26 := Try.underlying26; have hu31 := Try.underlying31; have hu35 := Try.underlying35; have HR0 := zA.mk hr0; have HC0 := zA.mk hc0; clear hr0 hc0; have HB := zA.mk (Below.refl w.heap.size w); have H : ((stanzalaw14_Awake.f k).bind fun t337 => (if t337 = true then (if (l0.length : Int) > 300 then (some true) else ((stanzahand03_Para.f k l0).bind fun bt338 => ((stanzahand03_Config.f a1_0 a1_1 a1_2 a1_3 a1_4 a1_5).bind fun bt344 => ((stanzaref10_Parts.f k bt338.1 bt338.2).bind fun t352 => (stanzalaw14_FirstBreaks.l0 k 0 t352 (t352.length : Int) 0 bt338.1 bt338.2 bt344.1 bt344.2.1 bt344.2.2.1 bt344.2.2.2.1 bt344.2.2.2.2.1 bt344.2.2.2.2.2))))) else (some false))) = some r := h
  clear h; replace H := Option.bind_eq_some_iff.mp H; obtain ⟨t337, A30, H⟩ := H; replace H : (if t337 = true then (if (l0.length : Int) > 300 then (some true) else ((stanzahand03_Para.f k l0).bind fun bt338 => ((stanzahand03_Config.f a1_0 a1_1 a1_2 a1_3 a1_4 a1_5).bind fun bt344 => ((stanzaref10_Parts.f k bt338.1 bt338.2).bind fun t352 => (stanzalaw14_FirstBreaks.l0 k 0 t352 (t352.length : Int) 0 bt338.1 bt338.2 bt344.1 bt344.2.1 bt344.2.2.1 bt344.2.2.2.1 bt344.2.2.2.2.1 bt344.2.2.2.2.2))))) else (some false)) = some r := H
  have A3 := zA.mk A30; clear A30; by_cases c4 : t337 = true
  rotate_left
  · replace c4 := Bool.eq_false_iff.mpr c4
    subst c4; have H1 : (some false) = some r := by rw [if_neg (show ¬ (false = true) by decide)] at H; exact H
    clear H; have H := H1; clear H1; exact absurd ((Option.some.inj H).trans hrt_.out) (by decide)
  subst c4; have H1 : (if (l0.length : Int) > 300 then (some true) else ((stanzahand03_Para.f k l0).bind fun bt338 => ((stanzahand03_Config.f a1_0 a1_1 a1_2 a1_3 a1_4 a1_5).bind fun bt344 => ((stanzaref10_Parts.f k bt338.1 bt338.2).bind fun t352 => (stanzalaw14_FirstBreaks.l0 k 0 t352 (t352.length : Int) 0 bt338.1 bt338.2 bt344.1 bt344.2.1 bt344.2.2.1 bt344.2.2.2.1 bt344.2.2.2.2.1 bt344.2.2.2.2.2))))) = some r := by rw [if_pos rfl] at H; exact H
  clear H; have H := H1; clear H1; by_cases c5 : (l0.length : Int) > 300
  · rw [if_pos c5] at H
    have c5b0 : decide (300 < (l0.length : Int)) = true := decide_eq_true c5
    have c5b1 : decide (300 < l0.length) = true := decide_eq_true (by omega)
    clear c5; obtain rfl := Option.some.inj H
    go_enter Try.func3, Try.ntmps3
    go_wp2_with (first | ((with_reducible refine gate_dst (N := 3) rfl ?_); refine box_event ?hg (N := 3) ?hd (cs := #[.int .u8 a1_0, .int .u8 a1_1, .int .u8 a1_2, .int .u16 a1_3, .int .u16 a1_4, .float .f64 a1_5]) (t := 26) ?hr ?_; (case hd => rfl); (case hg => rfl); (case hr => first | (go_simp; done) | (go_simp; rfl)); intro gb336 hg w6 hbox hb; have n0_ := zA.mk (zM (by repeat (first | (with_reducible first | exact HB.out | apply zI | apply zE | apply zH) | exact HB.out)) hb); have n1_ := zA.mk (hbox); have n2_ := zA.mk ((by rw [hg]; exact (zK (by repeat (first | (with_reducible first | exact HB.out | apply zI | apply zE | apply zH) | exact HB.out))) : w.heap.size ≤ gb336)); have n3_ := zA.mk ((by rw [hg]; exact (zK (by repeat (first | (with_reducible first | exact HB.out | apply zI | apply zE | apply zH) | exact HB.out))) : w.heap.size ≤ gb336)); clear HB; have HB := n0_; have BK336 := n1_; have GW336 := n2_; have GE336 := n3_; clear n0_ n1_ n2_ n3_; clear hb hbox hg) | ((with_reducible refine gate_callee (f := 12) rfl ?_); refine goesL_ (some 10) rfl rfl Try.func12 (by kernel_rfl) rfl #[] rfl (by (try simp only [List.map_toArray, List.map_cons, List.map_nil]); first | done | rfl | (simp only [List.length_drop, List.length_take]; rfl)) ?_; (with_reducible refine (stanzalaw14_Awake.calls k  true _ A3.out (by first | exact ⟨rfl⟩ | exact hrt_)).mono ?_); rintro e w7 ⟨rfl, hb⟩; refine ⟨_, rfl, ?_⟩; have n0_ := zA.mk (zL (g := gb336) (o := .cells #[.int .u8 a1_0, .int .u8 a1_1, .int .u8 a1_2, .int .u16 a1_3, .int .u16 a1_4, .float .f64 a1_5] 26 (0, 0)) (by (with_reducible repeat (first | refine zB ?_ _ | refine zD ?_ | refine zC ?_ _)); exact BK336.out) hb); have n1_ := zA.mk (zM (by repeat (first | (with_reducible first | exact HB.out | apply zI | apply zE | apply zH | refine zF ?_ GE336.out) | exact HB.out)) hb); clear BK336; clear HB; have BK336 := n0_; have HB := n1_; clear n0_ n1_; (try clear hb); (try clear hb2); (try clear hk); (try clear hi)))
    go_ret
    exact ⟨by first | rfl | (simp [errW_none, errW_some] <;> rfl) | (simp [*, errW_none, errW_some] <;> rfl), by repeat (first | (with_reducible first | exact HB.out | apply zI | apply zE | apply zH | refine zF ?_ GE336.out) | exact HB.out)⟩
  rw [if_neg c5] at H; have c5b0 : decide (300 < (l0.length : Int)) = false := decide_eq_false c5
  have c5b1 : decide (300 < l0.length) = false := decide_eq_false (by omega)
  clear c5; replace H := Option.bind_eq_some_iff.mp H; obtain ⟨⟨t338, t341⟩, A80, H⟩ := H; replace H : ((stanzahand03_Config.f a1_0 a1_1 a1_2 a1_3 a1_4 a1_5).bind fun bt344 => ((stanzaref10_Parts.f k t338 t341).bind fun t352 => (stanzalaw14_FirstBreaks.l0 k 0 t352 (t352.length : Int) 0 t338 t341 bt344.1 bt344.2.1 bt344.2.2.1 bt344.2.2.2.1 bt344.2.2.2.2.1 bt344.2.2.2.2.2))) = some r := H
  have A8 := zA.mk A80; clear A80; replace H := Option.bind_eq_some_iff.mp H; obtain ⟨⟨t344, t345, t346, t347, t348, t349⟩, A90, H⟩ := H; replace H : ((stanzaref10_Parts.f k t338 t341).bind fun t352 => (stanzalaw14_FirstBreaks.l0 k 0 t352 (t352.length : Int) 0 t338 t341 t344 t345 t346 t347 t348 t349)) = some r := H
  have A9 := zA.mk A90; clear A90; replace H := Option.bind_eq_some_iff.mp H; obtain ⟨t352, A100, H⟩ := H; replace H : (stanzalaw14_FirstBreaks.l0 k 0 t352 (t352.length : Int) 0 t338 t341 t344 t345 t346 t347 t348 t349) = some r := H; have A10 := zA.mk A100; clear A100; have H' := zA.mk H
  clear H; go_enter Try.func3, Try.ntmps3
  try go_wp2_with (first | ((with_reducible refine gate_dst (N := 3) rfl ?_); refine box_event ?hg (N := 3) ?hd (cs := #[.int .u8 a1_0, .int .u8 a1_1, .int .u8 a1_2, .int .u16 a1_3, .int .u16 a1_4, .float .f64 a1_5]) (t := 26) ?hr ?_; (case hd => rfl); (case hg => rfl); (case hr => first | (go_simp; done) | (go_simp; rfl)); intro gb336 hg w11 hbox hb; have n0_ := zA.mk (zM (by repeat (first | (with_reducible first | exact HB.out | apply zI | apply zE | apply zH) | exact HB.out)) hb); have n1_ := zA.mk (hbox); have n2_ := zA.mk ((by rw [hg]; exact (zK (by repeat (first | (with_reducible first | exact HB.out | apply zI | apply zE | apply zH) | exact HB.out))) : w.heap.size ≤ gb336)); have n3_ := zA.mk ((by rw [hg]; exact (zK (by repeat (first | (with_reducible first | exact HB.out | apply zI | apply zE | apply zH) | exact HB.out))) : w.heap.size ≤ gb336)); clear HB; have HB := n0_; have BK336 := n1_; have GW336 := n2_; have GE336 := n3_; clear n0_ n1_ n2_ n3_; clear hb hbox hg) | ((with_reducible refine gate_callee (f := 12) rfl ?_); refine goesL_ (some 10) rfl rfl Try.func12 (by kernel_rfl) rfl #[] rfl (by (try simp only [List.map_toArray, List.map_cons, List.map_nil]); first | done | rfl | (simp only [List.length_drop, List.length_take]; rfl)) ?_; (with_reducible refine (stanzalaw14_Awake.calls k  true _ A3.out (by first | exact ⟨rfl⟩ | exact hrt_)).mono ?_); rintro e w12 ⟨rfl, hb⟩; refine ⟨_, rfl, ?_⟩; have n0_ := zA.mk (zL (g := gb336) (o := .cells #[.int .u8 a1_0, .int .u8 a1_1, .int .u8 a1_2, .int .u16 a1_3, .int .u16 a1_4, .float .f64 a1_5] 26 (0, 0)) (by (with_reducible repeat (first | refine zB ?_ _ | refine zD ?_ | refine zC ?_ _)); exact BK336.out) hb); have n1_ := zA.mk (zM (by repeat (first | (with_reducible first | exact HB.out | apply zI | apply zE | apply zH | refine zF ?_ GE336.out) | exact HB.out)) hb); clear BK336; clear HB; have BK336 := n0_; have HB := n1_; clear n0_ n1_; (try clear hb); (try clear hb2); (try clear hk); (try clear hi)))
  have n0_ := zA.mk (zD BK336.out); have n1_ := zA.mk (zH HB.out); clear BK336; clear HB; have BK336 := n0_; have HB := n1_; clear n0_ n1_; refine start_ (n := 8) (S := fun w' => w'.cell? ⟨gb336, 0, none⟩ = some (.int .u8 a1_0) ∧ w'.cell? ⟨gb336, 1, none⟩ = some (.int .u8 a1_1) ∧ w'.cell? ⟨gb336, 2, none⟩ = some (.int .u8 a1_2) ∧ w'.cell? ⟨gb336, 3, none⟩ = some (.int .u16 a1_3) ∧ w'.cell? ⟨gb336, 4, none⟩ = some (.int .u16 a1_4) ∧ w'.cell? ⟨gb336, 5, none⟩ = some (.float .f64 a1_5)) (ds := []) #[false, false, false, false, false, false, false, false] (by kernel_rfl) rfl rfl ⟨(zG BK336.out 0).trans rfl, (zG BK336.out 1).trans rfl, (zG BK336.out 2).trans rfl, (zG BK336.out 3).trans rfl, (zG BK336.out 4).trans rfl, (zG BK336.out 5).trans rfl⟩ (fun hHeld => ?_); refine with_tabW stanzalaw14_FirstBreaks.tab5 stanzalaw14_FirstBreaks.bits5 (fun HT_ HW_ => ?_)
  generalize w12.drew = w13 at BK336 HB hHeld ⊢
  refine pure_ (i := 0) (N := some 15) (v := ?_) (a' := ?_) (tf_ 1 8) rfl rfl (any_of HT_.out (by kernel_rfl)) (fun _ _ _ h => h) (Or.inl ⟨by rfl, ?_⟩) ?_ ?_
  rotate_left
  · intro w'
    go_simp
    with_reducible rfl
  rotate_left
  · simp only [Act.put, sA_, sB_, sC_, i64_w, i32_w]
    rfl
  refine take_ (i := 2) (N := some 17) (v := ?_) (a' := ?_) #[true, false, true, false, false, false, false, false] rfl rfl (take_ofW HT_.out HW_.out (by kernel_rfl)) (fun _ _ _ h => h) (Or.inl ⟨by rfl, ?_⟩) hHeld ?_ ?_
  rotate_left
  · rintro w' ⟨s0, s1, s2, s3, s4, s5⟩
    go_simp
    with_reducible rfl
  rotate_left
  · simp only [Act.put, sA_, sB_, sC_, i64_w, i32_w]
    rfl
  refine join_ (σ := Value × Value × Nat × Nat) 2 #[true, true, true, true, true, true, false, false] (fun s_ => [(16, .agg #[s_.1, s_.2.1]), (18, .agg #[.int .i64 t344, .int .i64 t345, .int .u8 t346, .int .i64 t347, .int .i64 t348, .float .f64 t349]), (5, .pointer (some ⟨s_.2.2.1, 0, none⟩)), (6, .pointer (some ⟨s_.2.2.2, 0, none⟩))]) (fun s_ w' => (w'.cell? ⟨gb336, 0, none⟩ = some (.int .u8 a1_0) ∧ w'.cell? ⟨gb336, 1, none⟩ = some (.int .u8 a1_1) ∧ w'.cell? ⟨gb336, 2, none⟩ = some (.int .u8 a1_2) ∧ w'.cell? ⟨gb336, 3, none⟩ = some (.int .u16 a1_3) ∧ w'.cell? ⟨gb336, 4, none⟩ = some (.int .u16 a1_4) ∧ w'.cell? ⟨gb336, 5, none⟩ = some (.float .f64 a1_5)) ∧ (Kd.R k61 61 w' w.heap.size (fun _ => True) s_.1 t338) ∧ (Kd.R (Kd.int .u8) 43 w' w.heap.size (fun _ => True) s_.2.1 t341) ∧ (w'.heap[gb336]? = some (.cells #[.int .u8 a1_0, .int .u8 a1_1, .int .u8 a1_2, .int .u16 a1_3, .int .u16 a1_4, .float .f64 a1_5] 26 (0, 0))) ∧ (w'.heap[s_.2.2.1]? = some (.cells #[.slice none 0 0, .slice none 0 0] 31 (0, 0))) ∧ (w'.heap[s_.2.2.2]? = some (.cells #[.int .i64 0, .int .i64 0, .int .u8 0, .int .i64 0, .int .i64 0, .float .f64 0] 35 (0, 0))) ∧ (w.heap.size ≤ s_.2.2.1) ∧ (w.heap.size ≤ s_.2.2.1) ∧ (gb336 ≠ s_.2.2.1) ∧ (s_.2.2.1 ≠ gb336) ∧ (s_.2.2.2 ≠ s_.2.2.1) ∧ (s_.2.2.1 ≠ s_.2.2.2) ∧ (w.heap.size ≤ s_.2.2.2) ∧ (w.heap.size ≤ s_.2.2.2) ∧ (gb336 ≠ s_.2.2.2) ∧ (s_.2.2.2 ≠ gb336) ∧ (Below w.heap.size w w')) ?_ ?_
  rotate_left
  · intro hJ1_3_4_5
    refine join_ (σ := Value × Value × Nat) 3 #[true, true, true, true, true, false, false, false] (fun s_ => [(16, .agg #[s_.1, s_.2.1]), (18, .agg #[.int .i64 t344, .int .i64 t345, .int .u8 t346, .int .i64 t347, .int .i64 t348, .float .f64 t349]), (5, .pointer (some ⟨s_.2.2, 0, none⟩))]) (fun s_ w' => (w'.cell? ⟨gb336, 0, none⟩ = some (.int .u8 a1_0) ∧ w'.cell? ⟨gb336, 1, none⟩ = some (.int .u8 a1_1) ∧ w'.cell? ⟨gb336, 2, none⟩ = some (.int .u8 a1_2) ∧ w'.cell? ⟨gb336, 3, none⟩ = some (.int .u16 a1_3) ∧ w'.cell? ⟨gb336, 4, none⟩ = some (.int .u16 a1_4) ∧ w'.cell? ⟨gb336, 5, none⟩ = some (.float .f64 a1_5)) ∧ (Kd.R k61 61 w' w.heap.size (fun _ => True) s_.1 t338) ∧ (Kd.R (Kd.int .u8) 43 w' w.heap.size (fun _ => True) s_.2.1 t341) ∧ (w'.heap[gb336]? = some (.cells #[.int .u8 a1_0, .int .u8 a1_1, .int .u8 a1_2, .int .u16 a1_3, .int .u16 a1_4, .float .f64 a1_5] 26 (0, 0))) ∧ (w'.heap[s_.2.2]? = some (.cells #[.slice none 0 0, .slice none 0 0] 31 (0, 0))) ∧ (w.heap.size ≤ s_.2.2) ∧ (w.heap.size ≤ s_.2.2) ∧ (gb336 ≠ s_.2.2) ∧ (s_.2.2 ≠ gb336) ∧ (Below w.heap.size w w')) ?_ ?_
    rotate_left
    · intro hJ1_3_4
      refine join_ (σ := Value × Value × Nat) 3 #[true, true, true, true, false, true, false, false] (fun s_ => [(16, .agg #[s_.1, s_.2.1]), (18, .agg #[.int .i64 t344, .int .i64 t345, .int .u8 t346, .int .i64 t347, .int .i64 t348, .float .f64 t349]), (6, .pointer (some ⟨s_.2.2, 0, none⟩))]) (fun s_ w' => (w'.cell? ⟨gb336, 0, none⟩ = some (.int .u8 a1_0) ∧ w'.cell? ⟨gb336, 1, none⟩ = some (.int .u8 a1_1) ∧ w'.cell? ⟨gb336, 2, none⟩ = some (.int .u8 a1_2) ∧ w'.cell? ⟨gb336, 3, none⟩ = some (.int .u16 a1_3) ∧ w'.cell? ⟨gb336, 4, none⟩ = some (.int .u16 a1_4) ∧ w'.cell? ⟨gb336, 5, none⟩ = some (.float .f64 a1_5)) ∧ (Kd.R k61 61 w' w.heap.size (fun _ => True) s_.1 t338) ∧ (Kd.R (Kd.int .u8) 43 w' w.heap.size (fun _ => True) s_.2.1 t341) ∧ (w'.heap[gb336]? = some (.cells #[.int .u8 a1_0, .int .u8 a1_1, .int .u8 a1_2, .int .u16 a1_3, .int .u16 a1_4, .float .f64 a1_5] 26 (0, 0))) ∧ (w'.heap[s_.2.2]? = some (.cells #[.int .i64 0, .int .i64 0, .int .u8 0, .int .i64 0, .int .i64 0, .float .f64 0] 35 (0, 0))) ∧ (w.heap.size ≤ s_.2.2) ∧ (w.heap.size ≤ s_.2.2) ∧ (gb336 ≠ s_.2.2) ∧ (s_.2.2 ≠ gb336) ∧ (Below w.heap.size w w')) ?_ ?_
      rotate_left
      · intro hJ1_3_5
        refine join_ (σ := Value × Value × Nat × Nat) 3 #[true, true, true, false, true, true, false, false] (fun s_ => [(16, .agg #[s_.1, s_.2.1]), (5, .pointer (some ⟨s_.2.2.1, 0, none⟩)), (6, .pointer (some ⟨s_.2.2.2, 0, none⟩))]) (fun s_ w' => (w'.cell? ⟨gb336, 0, none⟩ = some (.int .u8 a1_0) ∧ w'.cell? ⟨gb336, 1, none⟩ = some (.int .u8 a1_1) ∧ w'.cell? ⟨gb336, 2, none⟩ = some (.int .u8 a1_2) ∧ w'.cell? ⟨gb336, 3, none⟩ = some (.int .u16 a1_3) ∧ w'.cell? ⟨gb336, 4, none⟩ = some (.int .u16 a1_4) ∧ w'.cell? ⟨gb336, 5, none⟩ = some (.float .f64 a1_5)) ∧ (Kd.R k61 61 w' w.heap.size (fun _ => True) s_.1 t338) ∧ (Kd.R (Kd.int .u8) 43 w' w.heap.size (fun _ => True) s_.2.1 t341) ∧ (w'.heap[gb336]? = some (.cells #[.int .u8 a1_0, .int .u8 a1_1, .int .u8 a1_2, .int .u16 a1_3, .int .u16 a1_4, .float .f64 a1_5] 26 (0, 0))) ∧ (w'.heap[s_.2.2.1]? = some (.cells #[.slice none 0 0, .slice none 0 0] 31 (0, 0))) ∧ (w'.heap[s_.2.2.2]? = some (.cells #[.int .i64 0, .int .i64 0, .int .u8 0, .int .i64 0, .int .i64 0, .float .f64 0] 35 (0, 0))) ∧ (w.heap.size ≤ s_.2.2.1) ∧ (w.heap.size ≤ s_.2.2.1) ∧ (gb336 ≠ s_.2.2.1) ∧ (s_.2.2.1 ≠ gb336) ∧ (s_.2.2.2 ≠ s_.2.2.1) ∧ (s_.2.2.1 ≠ s_.2.2.2) ∧ (w.heap.size ≤ s_.2.2.2) ∧ (w.heap.size ≤ s_.2.2.2) ∧ (gb336 ≠ s_.2.2.2) ∧ (s_.2.2.2 ≠ gb336) ∧ (Below w.heap.size w w')) ?_ ?_
        rotate_left
        · intro hJ1_4_5
          refine join_ (σ := Value × Value) 4 #[true, true, true, true, false, false, false, false] (fun s_ => [(16, .agg #[s_.1, s_.2]), (18, .agg #[.int .i64 t344, .int .i64 t345, .int .u8 t346, .int .i64 t347, .int .i64 t348, .float .f64 t349])]) (fun s_ w' => (w'.cell? ⟨gb336, 0, none⟩ = some (.int .u8 a1_0) ∧ w'.cell? ⟨gb336, 1, none⟩ = some (.int .u8 a1_1) ∧ w'.cell? ⟨gb336, 2, none⟩ = some (.int .u8 a1_2) ∧ w'.cell? ⟨gb336, 3, none⟩ = some (.int .u16 a1_3) ∧ w'.cell? ⟨gb336, 4, none⟩ = some (.int .u16 a1_4) ∧ w'.cell? ⟨gb336, 5, none⟩ = some (.float .f64 a1_5)) ∧ (Kd.R k61 61 w' w.heap.size (fun _ => True) s_.1 t338) ∧ (Kd.R (Kd.int .u8) 43 w' w.heap.size (fun _ => True) s_.2 t341) ∧ (w'.heap[gb336]? = some (.cells #[.int .u8 a1_0, .int .u8 a1_1, .int .u8 a1_2, .int .u16 a1_3, .int .u16 a1_4, .float .f64 a1_5] 26 (0, 0))) ∧ (Below w.heap.size w w')) ?_ ?_
          rotate_left
          · intro hJ1_3
            refine join_ (σ := Value × Value × Nat) 4 #[true, true, true, false, true, false, false, false] (fun s_ => [(16, .agg #[s_.1, s_.2.1]), (5, .pointer (some ⟨s_.2.2, 0, none⟩))]) (fun s_ w' => (w'.cell? ⟨gb336, 0, none⟩ = some (.int .u8 a1_0) ∧ w'.cell? ⟨gb336, 1, none⟩ = some (.int .u8 a1_1) ∧ w'.cell? ⟨gb336, 2, none⟩ = some (.int .u8 a1_2) ∧ w'.cell? ⟨gb336, 3, none⟩ = some (.int .u16 a1_3) ∧ w'.cell? ⟨gb336, 4, none⟩ = some (.int .u16 a1_4) ∧ w'.cell? ⟨gb336, 5, none⟩ = some (.float .f64 a1_5)) ∧ (Kd.R k61 61 w' w.heap.size (fun _ => True) s_.1 t338) ∧ (Kd.R (Kd.int .u8) 43 w' w.heap.size (fun _ => True) s_.2.1 t341) ∧ (w'.heap[gb336]? = some (.cells #[.int .u8 a1_0, .int .u8 a1_1, .int .u8 a1_2, .int .u16 a1_3, .int .u16 a1_4, .float .f64 a1_5] 26 (0, 0))) ∧ (w'.heap[s_.2.2]? = some (.cells #[.slice none 0 0, .slice none 0 0] 31 (0, 0))) ∧ (w.heap.size ≤ s_.2.2) ∧ (w.heap.size ≤ s_.2.2) ∧ (gb336 ≠ s_.2.2) ∧ (s_.2.2 ≠ gb336) ∧ (Below w.heap.size w w')) ?_ ?_
            rotate_left
            · intro hJ1_4
              refine join_ (σ := Value × Value × Nat) 4 #[true, true, true, false, false, true, false, false] (fun s_ => [(16, .agg #[s_.1, s_.2.1]), (6, .pointer (some ⟨s_.2.2, 0, none⟩))]) (fun s_ w' => (w'.cell? ⟨gb336, 0, none⟩ = some (.int .u8 a1_0) ∧ w'.cell? ⟨gb336, 1, none⟩ = some (.int .u8 a1_1) ∧ w'.cell? ⟨gb336, 2, none⟩ = some (.int .u8 a1_2) ∧ w'.cell? ⟨gb336, 3, none⟩ = some (.int .u16 a1_3) ∧ w'.cell? ⟨gb336, 4, none⟩ = some (.int .u16 a1_4) ∧ w'.cell? ⟨gb336, 5, none⟩ = some (.float .f64 a1_5)) ∧ (Kd.R k61 61 w' w.heap.size (fun _ => True) s_.1 t338) ∧ (Kd.R (Kd.int .u8) 43 w' w.heap.size (fun _ => True) s_.2.1 t341) ∧ (w'.heap[gb336]? = some (.cells #[.int .u8 a1_0, .int .u8 a1_1, .int .u8 a1_2, .int .u16 a1_3, .int .u16 a1_4, .float .f64 a1_5] 26 (0, 0))) ∧ (w'.heap[s_.2.2]? = some (.cells #[.int .i64 0, .int .i64 0, .int .u8 0, .int .i64 0, .int .i64 0, .float .f64 0] 35 (0, 0))) ∧ (w.heap.size ≤ s_.2.2) ∧ (w.heap.size ≤ s_.2.2) ∧ (gb336 ≠ s_.2.2) ∧ (s_.2.2 ≠ gb336) ∧ (Below w.heap.size w w')) ?_ ?_
              rotate_left
              · intro hJ1_5
                refine join_ (σ := Nat × Nat) 4 #[true, false, true, false, true, true, false, false] (fun s_ => [(5, .pointer (some ⟨s_.1, 0, none⟩)), (6, .pointer (some ⟨s_.2, 0, none⟩))]) (fun s_ w' => (w'.cell? ⟨gb336, 0, none⟩ = some (.int .u8 a1_0) ∧ w'.cell? ⟨gb336, 1, none⟩ = some (.int .u8 a1_1) ∧ w'.cell? ⟨gb336, 2, none⟩ = some (.int .u8 a1_2) ∧ w'.cell? ⟨gb336, 3, none⟩ = some (.int .u16 a1_3) ∧ w'.cell? ⟨gb336, 4, none⟩ = some (.int .u16 a1_4) ∧ w'.cell? ⟨gb336, 5, none⟩ = some (.float .f64 a1_5)) ∧ (w'.heap[gb336]? = some (.cells #[.int .u8 a1_0, .int .u8 a1_1, .int .u8 a1_2, .int .u16 a1_3, .int .u16 a1_4, .float .f64 a1_5] 26 (0, 0))) ∧ (w'.heap[s_.1]? = some (.cells #[.slice none 0 0, .slice none 0 0] 31 (0, 0))) ∧ (w'.heap[s_.2]? = some (.cells #[.int .i64 0, .int .i64 0, .int .u8 0, .int .i64 0, .int .i64 0, .float .f64 0] 35 (0, 0))) ∧ (w.heap.size ≤ s_.1) ∧ (w.heap.size ≤ s_.1) ∧ (gb336 ≠ s_.1) ∧ (s_.1 ≠ gb336) ∧ (s_.2 ≠ s_.1) ∧ (s_.1 ≠ s_.2) ∧ (w.heap.size ≤ s_.2) ∧ (w.heap.size ≤ s_.2) ∧ (gb336 ≠ s_.2) ∧ (s_.2 ≠ gb336) ∧ (Below w.heap.size w w')) ?_ ?_
                rotate_left
                · intro hJ4_5
                  refine join_ (σ := Value × Value) 5 #[true, true, true, false, false, false, false, false] (fun s_ => [(16, .agg #[s_.1, s_.2])]) (fun s_ w' => (w'.cell? ⟨gb336, 0, none⟩ = some (.int .u8 a1_0) ∧ w'.cell? ⟨gb336, 1, none⟩ = some (.int .u8 a1_1) ∧ w'.cell? ⟨gb336, 2, none⟩ = some (.int .u8 a1_2) ∧ w'.cell? ⟨gb336, 3, none⟩ = some (.int .u16 a1_3) ∧ w'.cell? ⟨gb336, 4, none⟩ = some (.int .u16 a1_4) ∧ w'.cell? ⟨gb336, 5, none⟩ = some (.float .f64 a1_5)) ∧ (Kd.R k61 61 w' w.heap.size (fun _ => True) s_.1 t338) ∧ (Kd.R (Kd.int .u8) 43 w' w.heap.size (fun _ => True) s_.2 t341) ∧ (w'.heap[gb336]? = some (.cells #[.int .u8 a1_0, .int .u8 a1_1, .int .u8 a1_2, .int .u16 a1_3, .int .u16 a1_4, .float .f64 a1_5] 26 (0, 0))) ∧ (Below w.heap.size w w')) ?_ ?_
                  rotate_left
                  · intro hJ1
                    refine join_ (σ := Nat) 5 #[true, false, true, false, true, false, false, false] (fun s_ => [(5, .pointer (some ⟨s_, 0, none⟩))]) (fun s_ w' => (w'.cell? ⟨gb336, 0, none⟩ = some (.int .u8 a1_0) ∧ w'.cell? ⟨gb336, 1, none⟩ = some (.int .u8 a1_1) ∧ w'.cell? ⟨gb336, 2, none⟩ = some (.int .u8 a1_2) ∧ w'.cell? ⟨gb336, 3, none⟩ = some (.int .u16 a1_3) ∧ w'.cell? ⟨gb336, 4, none⟩ = some (.int .u16 a1_4) ∧ w'.cell? ⟨gb336, 5, none⟩ = some (.float .f64 a1_5)) ∧ (w'.heap[gb336]? = some (.cells #[.int .u8 a1_0, .int .u8 a1_1, .int .u8 a1_2, .int .u16 a1_3, .int .u16 a1_4, .float .f64 a1_5] 26 (0, 0))) ∧ (w'.heap[s_]? = some (.cells #[.slice none 0 0, .slice none 0 0] 31 (0, 0))) ∧ (w.heap.size ≤ s_) ∧ (w.heap.size ≤ s_) ∧ (gb336 ≠ s_) ∧ (s_ ≠ gb336) ∧ (Below w.heap.size w w')) ?_ ?_
                    rotate_left
                    · intro hJ4
                      refine join_ (σ := Nat) 5 #[true, false, true, false, false, true, false, false] (fun s_ => [(6, .pointer (some ⟨s_, 0, none⟩))]) (fun s_ w' => (w'.cell? ⟨gb336, 0, none⟩ = some (.int .u8 a1_0) ∧ w'.cell? ⟨gb336, 1, none⟩ = some (.int .u8 a1_1) ∧ w'.cell? ⟨gb336, 2, none⟩ = some (.int .u8 a1_2) ∧ w'.cell? ⟨gb336, 3, none⟩ = some (.int .u16 a1_3) ∧ w'.cell? ⟨gb336, 4, none⟩ = some (.int .u16 a1_4) ∧ w'.cell? ⟨gb336, 5, none⟩ = some (.float .f64 a1_5)) ∧ (w'.heap[gb336]? = some (.cells #[.int .u8 a1_0, .int .u8 a1_1, .int .u8 a1_2, .int .u16 a1_3, .int .u16 a1_4, .float .f64 a1_5] 26 (0, 0))) ∧ (w'.heap[s_]? = some (.cells #[.int .i64 0, .int .i64 0, .int .u8 0, .int .i64 0, .int .i64 0, .float .f64 0] 35 (0, 0))) ∧ (w.heap.size ≤ s_) ∧ (w.heap.size ≤ s_) ∧ (gb336 ≠ s_) ∧ (s_ ≠ gb336) ∧ (Below w.heap.size w w')) ?_ ?_
                      rotate_left
                      · intro hJ5
                        refine three_ (i := 1) (j := 4) (k := 5) (Ni := some 16) (Nj := some 5) (Nk := some 6) #[true, true, true, false, false, false, false, false] #[true, false, true, false, true, false, false, false] #[true, false, true, false, false, true, false, false] rfl rfl rfl rfl rfl rfl (three_of HT_.out (by kernel_rfl)) (by decide) (by decide) (by decide) (fun K hK => ?_) (fun K hK => ?_) (fun K hK => ?_)
                        · skip
                          refine goes_ Try.func13 (by kernel_rfl) rfl #[.slice A0 l0.length c0] (by rfl) rfl rfl (by (try simp only [List.map_toArray, List.map_cons, List.map_nil]); first | done | rfl | (simp only [List.length_drop, List.length_take]; rfl)) ?_
                          with_reducible refine (stanzahand03_Para.calls k _ _ l0 t338 t341 _ ?side1 ?side2 A8.out).mono ?_
                          (case side1 => repeat (first | exact (Kd.C_below HR0.out HB.out) | (with_reducible refine Kd.C_alloc ?_ _) | (with_reducible refine Kd.C_drewN ?_ _) | (with_reducible refine Kd.C_drew ?_)))
                          (case side2 => exact HC0.out)
                          rintro e w14 ⟨v339, v342, rfl, ho0, ho1, hb⟩
                          refine ⟨_, rfl, ?_⟩
                          have n0_ := zA.mk (Kd.R_lower ho0 (zK (by repeat (first | (with_reducible first | exact HB.out | apply zI | apply zE | apply zH | refine zF ?_ GE336.out) | exact HB.out))))
                          have n1_ := zA.mk (Kd.R_lower ho1 (zK (by repeat (first | (with_reducible first | exact HB.out | apply zI | apply zE | apply zH | refine zF ?_ GE336.out) | exact HB.out))))
                          have n2_ := zA.mk (zL (g := gb336) (o := .cells #[.int .u8 a1_0, .int .u8 a1_1, .int .u8 a1_2, .int .u16 a1_3, .int .u16 a1_4, .float .f64 a1_5] 26 (0, 0)) (by (with_reducible repeat (first | refine zB ?_ _ | refine zD ?_ | refine zC ?_ _)); exact BK336.out) hb)
                          have n3_ := zA.mk (zM (by repeat (first | (with_reducible first | exact HB.out | apply zI | apply zE | apply zH | refine zF ?_ GE336.out) | exact HB.out)) hb)
                          clear BK336 HB; have HO340 := n0_; have HO343 := n1_; have BK336 := n2_; have HB := n3_; clear n0_ n1_ n2_ n3_; (try clear hb)
                          (try clear hb2)
                          (try clear hk)
                          (try clear hi)
                          (try clear ho0)
                          (try clear ho1)
                          refine hK.out _ _ ⟨(zG BK336.out 0).trans rfl, (zG BK336.out 1).trans rfl, (zG BK336.out 2).trans rfl, (zG BK336.out 3).trans rfl, (zG BK336.out 4).trans rfl, (zG BK336.out 5).trans rfl⟩ (fun hHeld => ?_)
                          clear hK K; refine norm_ (a' := ?_) ?_ ?_
                          rotate_left
                          · show Act.put _ (some 16) _ = _
                            simp only [Act.put, sA_, sB_, sC_, i64_w, i32_w]; rfl
                          exact norm_ (by first | (simp only [putAll, Act.put, sA_, sB_, sC_]; done) | (simp only [putAll, Act.put, sA_, sB_, sC_]; rfl)) (hJ1 (v339, v342) _ ⟨hHeld, (by (with_reducible repeat (first | apply Kd.R_alloc | apply Kd.R_drewN | apply Kd.R_drew)); exact HO340.out), (by (with_reducible repeat (first | apply Kd.R_alloc | apply Kd.R_drewN | apply Kd.R_drew)); exact HO343.out), (by (with_reducible repeat (first | refine zB ?_ _ | refine zD ?_ | refine zC ?_ _)); exact BK336.out), (by repeat (first | (with_reducible first | exact HB.out | apply zI | apply zE | apply zH | refine zF ?_ GE336.out) | exact HB.out))⟩)
                        · skip
                          refine box_step ?hg (N := 5) ?hd (cs := #[.slice none 0 0, .slice none 0 0]) (t := 31) ?hr ?_; (case hd => rfl); (case hg => rfl); (case hr => first | (go_simp; done) | (go_simp; rfl))
                          intro gb350 hg w14 hbox hb
                          have n0_ := zA.mk (zL (g := gb336) (o := .cells #[.int .u8 a1_0, .int .u8 a1_1, .int .u8 a1_2, .int .u16 a1_3, .int .u16 a1_4, .float .f64 a1_5] 26 (0, 0)) (by (with_reducible repeat (first | refine zB ?_ _ | refine zD ?_ | refine zC ?_ _)); exact BK336.out) hb)
                          have n1_ := zA.mk (zM (by repeat (first | (with_reducible first | exact HB.out | apply zI | apply zE | apply zH | refine zF ?_ GE336.out) | exact HB.out)) hb)
                          have n2_ := zA.mk (hbox); have n3_ := zA.mk ((by rw [hg]; exact (zK (by repeat (first | (with_reducible first | exact HB.out | apply zI | apply zE | apply zH | refine zF ?_ GE336.out) | exact HB.out))) : w.heap.size ≤ gb350))
                          have n4_ := zA.mk ((by rw [hg]; exact (zK (by repeat (first | (with_reducible first | exact HB.out | apply zI | apply zE | apply zH | refine zF ?_ GE336.out) | exact HB.out))) : w.heap.size ≤ gb350))
                          have n5_ := zA.mk ((by rw [hg]; exact Nat.ne_of_lt (blk_lt (g := gb336) (o := .cells #[.int .u8 a1_0, .int .u8 a1_1, .int .u8 a1_2, .int .u16 a1_3, .int .u16 a1_4, .float .f64 a1_5] 26 (0, 0)) (by (with_reducible repeat (first | refine zB ?_ _ | refine zD ?_ | refine zC ?_ _)); exact BK336.out)) : gb336 ≠ gb350))
                          have n6_ := zA.mk ((by rw [hg]; exact Nat.ne_of_gt (blk_lt (g := gb336) (o := .cells #[.int .u8 a1_0, .int .u8 a1_1, .int .u8 a1_2, .int .u16 a1_3, .int .u16 a1_4, .float .f64 a1_5] 26 (0, 0)) (by (with_reducible repeat (first | refine zB ?_ _ | refine zD ?_ | refine zC ?_ _)); exact BK336.out)) : gb350 ≠ gb336))
                          clear BK336 HB; have BK336 := n0_; have HB := n1_; have BK350 := n2_; have GW350 := n3_; have GE350 := n4_; have NB336_350 := n5_; have NB350_336 := n6_; clear n0_ n1_ n2_ n3_ n4_ n5_ n6_; clear hb hbox hg; refine hK.out _ _ ⟨(zG BK336.out 0).trans rfl, (zG BK336.out 1).trans rfl, (zG BK336.out 2).trans rfl, (zG BK336.out 3).trans rfl, (zG BK336.out 4).trans rfl, (zG BK336.out 5).trans rfl⟩ (fun hHeld => ?_)
                          clear hK K; refine norm_ (a' := ?_) ?_ ?_
                          rotate_left
                          · show Act.put _ (some 5) _ = _
                            simp only [Act.put, sA_, sB_, sC_, i64_w, i32_w]; rfl
                          exact norm_ (by first | (simp only [putAll, Act.put, sA_, sB_, sC_]; done) | (simp only [putAll, Act.put, sA_, sB_, sC_]; rfl)) (hJ4 (gb350) _ ⟨hHeld, (by (with_reducible repeat (first | refine zB ?_ _ | refine zD ?_ | refine zC ?_ _)); exact BK336.out), (by (with_reducible repeat (first | refine zB ?_ _ | refine zD ?_ | refine zC ?_ _)); exact BK350.out), GW350.out, GE350.out, NB336_350.out, NB350_336.out, (by repeat (first | (with_reducible first | exact HB.out | apply zI | apply zE | apply zH | refine zF ?_ GE336.out | refine zF ?_ GE350.out) | exact HB.out))⟩)
                        skip
                        refine box_step ?hg (N := 6) ?hd (cs := #[.int .i64 0, .int .i64 0, .int .u8 0, .int .i64 0, .int .i64 0, .float .f64 0]) (t := 35) ?hr ?_; (case hd => rfl); (case hg => rfl); (case hr => first | (go_simp; done) | (go_simp; rfl))
                        intro gb351 hg w14 hbox hb
                        have n0_ := zA.mk (zL (g := gb336) (o := .cells #[.int .u8 a1_0, .int .u8 a1_1, .int .u8 a1_2, .int .u16 a1_3, .int .u16 a1_4, .float .f64 a1_5] 26 (0, 0)) (by (with_reducible repeat (first | refine zB ?_ _ | refine zD ?_ | refine zC ?_ _)); exact BK336.out) hb)
                        have n1_ := zA.mk (zM (by repeat (first | (with_reducible first | exact HB.out | apply zI | apply zE | apply zH | refine zF ?_ GE336.out) | exact HB.out)) hb)
                        have n2_ := zA.mk (hbox); have n3_ := zA.mk ((by rw [hg]; exact (zK (by repeat (first | (with_reducible first | exact HB.out | apply zI | apply zE | apply zH | refine zF ?_ GE336.out) | exact HB.out))) : w.heap.size ≤ gb351))
                        have n4_ := zA.mk ((by rw [hg]; exact (zK (by repeat (first | (with_reducible first | exact HB.out | apply zI | apply zE | apply zH | refine zF ?_ GE336.out) | exact HB.out))) : w.heap.size ≤ gb351))
                        have n5_ := zA.mk ((by rw [hg]; exact Nat.ne_of_lt (blk_lt (g := gb336) (o := .cells #[.int .u8 a1_0, .int .u8 a1_1, .int .u8 a1_2, .int .u16 a1_3, .int .u16 a1_4, .float .f64 a1_5] 26 (0, 0)) (by (with_reducible repeat (first | refine zB ?_ _ | refine zD ?_ | refine zC ?_ _)); exact BK336.out)) : gb336 ≠ gb351))
                        have n6_ := zA.mk ((by rw [hg]; exact Nat.ne_of_gt (blk_lt (g := gb336) (o := .cells #[.int .u8 a1_0, .int .u8 a1_1, .int .u8 a1_2, .int .u16 a1_3, .int .u16 a1_4, .float .f64 a1_5] 26 (0, 0)) (by (with_reducible repeat (first | refine zB ?_ _ | refine zD ?_ | refine zC ?_ _)); exact BK336.out)) : gb351 ≠ gb336))
                        clear BK336 HB; have BK336 := n0_; have HB := n1_; have BK351 := n2_; have GW351 := n3_; have GE351 := n4_; have NB336_351 := n5_; have NB351_336 := n6_; clear n0_ n1_ n2_ n3_ n4_ n5_ n6_; clear hb hbox hg; refine hK.out _ _ ⟨(zG BK336.out 0).trans rfl, (zG BK336.out 1).trans rfl, (zG BK336.out 2).trans rfl, (zG BK336.out 3).trans rfl, (zG BK336.out 4).trans rfl, (zG BK336.out 5).trans rfl⟩ (fun hHeld => ?_)
                        clear hK K; refine norm_ (a' := ?_) ?_ ?_
                        rotate_left
                        · show Act.put _ (some 6) _ = _
                          simp only [Act.put, sA_, sB_, sC_, i64_w, i32_w]; rfl
                        exact norm_ (by first | (simp only [putAll, Act.put, sA_, sB_, sC_]; done) | (simp only [putAll, Act.put, sA_, sB_, sC_]; rfl)) (hJ5 (gb351) _ ⟨hHeld, (by (with_reducible repeat (first | refine zB ?_ _ | refine zD ?_ | refine zC ?_ _)); exact BK336.out), (by (with_reducible repeat (first | refine zB ?_ _ | refine zD ?_ | refine zC ?_ _)); exact BK351.out), GW351.out, GE351.out, NB336_351.out, NB351_336.out, (by repeat (first | (with_reducible first | exact HB.out | apply zI | apply zE | apply zH | refine zF ?_ GE336.out | refine zF ?_ GE351.out) | exact HB.out))⟩)
                      skip
                      rintro gb351 w15 ⟨hS_, h0_, h1_, h2_, h3_, h4_, h5_, h6_⟩
                      have n0_ : zA (w15.heap[gb336]? = some (.cells #[.int .u8 a1_0, .int .u8 a1_1, .int .u8 a1_2, .int .u16 a1_3, .int .u16 a1_4, .float .f64 a1_5] 26 (0, 0))) := ⟨h0_⟩
                      have n1_ : zA (w15.heap[gb351]? = some (.cells #[.int .i64 0, .int .i64 0, .int .u8 0, .int .i64 0, .int .i64 0, .float .f64 0] 35 (0, 0))) := ⟨h1_⟩
                      have n2_ : zA (w.heap.size ≤ gb351) := ⟨h2_⟩
                      have n3_ : zA (w.heap.size ≤ gb351) := ⟨h3_⟩
                      have n4_ : zA (gb336 ≠ gb351) := ⟨h4_⟩
                      have n5_ : zA (gb351 ≠ gb336) := ⟨h5_⟩
                      have n6_ : zA (Below w.heap.size w w15) := ⟨h6_⟩
                      clear BK336 HB h0_ h1_ h2_ h3_ h4_ h5_ h6_; have BK336 := n0_; have BK351 := n1_; have GW351 := n2_; have GE351 := n3_; have NB336_351 := n4_; have NB351_336 := n5_; have HB := n6_; clear n0_ n1_ n2_ n3_ n4_ n5_ n6_; have hHeld : w15.cell? ⟨gb336, 0, none⟩ = some (.int .u8 a1_0) ∧ w15.cell? ⟨gb336, 1, none⟩ = some (.int .u8 a1_1) ∧ w15.cell? ⟨gb336, 2, none⟩ = some (.int .u8 a1_2) ∧ w15.cell? ⟨gb336, 3, none⟩ = some (.int .u16 a1_3) ∧ w15.cell? ⟨gb336, 4, none⟩ = some (.int .u16 a1_4) ∧ w15.cell? ⟨gb336, 5, none⟩ = some (.float .f64 a1_5) := hS_
                      refine norm_ (a' := ?_) ?_ ?_
                      rotate_left
                      · simp only [putAll, Act.put, sA_, sB_, sC_]
                        rfl
                      refine two_ (i := 1) (j := 4) (Ni := some 16) (Nj := some 5) #[true, true, true, false, false, true, false, false] #[true, false, true, false, true, true, false, false] rfl rfl rfl rfl (two_of HT_.out (by kernel_rfl)) (by decide) (by decide) (fun K hK => ?_) (fun K hK => ?_)
                      · skip
                        refine goes_ Try.func13 (by kernel_rfl) rfl #[.slice A0 l0.length c0] (by rfl) rfl rfl (by (try simp only [List.map_toArray, List.map_cons, List.map_nil]); first | done | rfl | (simp only [List.length_drop, List.length_take]; rfl)) ?_
                        with_reducible refine (stanzahand03_Para.calls k _ _ l0 t338 t341 _ ?side1 ?side2 A8.out).mono ?_
                        (case side1 => repeat (first | exact (Kd.C_below HR0.out HB.out) | (with_reducible refine Kd.C_alloc ?_ _) | (with_reducible refine Kd.C_drewN ?_ _) | (with_reducible refine Kd.C_drew ?_)))
                        (case side2 => exact HC0.out)
                        rintro e w16 ⟨v339, v342, rfl, ho0, ho1, hb⟩
                        refine ⟨_, rfl, ?_⟩
                        have n0_ := zA.mk (Kd.R_lower ho0 (zK (by repeat (first | (with_reducible first | exact HB.out | apply zI | apply zE | apply zH | refine zF ?_ GE336.out | refine zF ?_ GE351.out) | exact HB.out))))
                        have n1_ := zA.mk (Kd.R_lower ho1 (zK (by repeat (first | (with_reducible first | exact HB.out | apply zI | apply zE | apply zH | refine zF ?_ GE336.out | refine zF ?_ GE351.out) | exact HB.out))))
                        have n2_ := zA.mk (zL (g := gb336) (o := .cells #[.int .u8 a1_0, .int .u8 a1_1, .int .u8 a1_2, .int .u16 a1_3, .int .u16 a1_4, .float .f64 a1_5] 26 (0, 0)) (by (with_reducible repeat (first | refine zB ?_ _ | refine zD ?_ | refine zC ?_ _)); exact BK336.out) hb)
                        have n3_ := zA.mk (zL (g := gb351) (o := .cells #[.int .i64 0, .int .i64 0, .int .u8 0, .int .i64 0, .int .i64 0, .float .f64 0] 35 (0, 0)) (by (with_reducible repeat (first | refine zB ?_ _ | refine zD ?_ | refine zC ?_ _)); exact BK351.out) hb)
                        have n4_ := zA.mk (zM (by repeat (first | (with_reducible first | exact HB.out | apply zI | apply zE | apply zH | refine zF ?_ GE336.out | refine zF ?_ GE351.out) | exact HB.out)) hb)
                        clear BK336 BK351 HB; have HO340 := n0_; have HO343 := n1_; have BK336 := n2_; have BK351 := n3_; have HB := n4_; clear n0_ n1_ n2_ n3_ n4_; (try clear hb)
                        (try clear hb2)
                        (try clear hk)
                        (try clear hi)
                        (try clear ho0)
                        (try clear ho1)
                        refine hK.out _ _ ⟨(zG BK336.out 0).trans rfl, (zG BK336.out 1).trans rfl, (zG BK336.out 2).trans rfl, (zG BK336.out 3).trans rfl, (zG BK336.out 4).trans rfl, (zG BK336.out 5).trans rfl⟩ (fun hHeld => ?_)
                        clear hK K; refine norm_ (a' := ?_) ?_ ?_
                        rotate_left
                        · show Act.put _ (some 16) _ = _
                          simp only [Act.put, sA_, sB_, sC_, i64_w, i32_w]; rfl
                        exact norm_ (by first | (simp only [putAll, Act.put, sA_, sB_, sC_]; done) | (simp only [putAll, Act.put, sA_, sB_, sC_]; rfl)) (hJ1_5 (v339, v342, gb351) _ ⟨hHeld, (by (with_reducible repeat (first | apply Kd.R_alloc | apply Kd.R_drewN | apply Kd.R_drew)); exact HO340.out), (by (with_reducible repeat (first | apply Kd.R_alloc | apply Kd.R_drewN | apply Kd.R_drew)); exact HO343.out), (by (with_reducible repeat (first | refine zB ?_ _ | refine zD ?_ | refine zC ?_ _)); exact BK336.out), (by (with_reducible repeat (first | refine zB ?_ _ | refine zD ?_ | refine zC ?_ _)); exact BK351.out), GW351.out, GE351.out, NB336_351.out, NB351_336.out, (by repeat (first | (with_reducible first | exact HB.out | apply zI | apply zE | apply zH | refine zF ?_ GE336.out | refine zF ?_ GE351.out) | exact HB.out))⟩)
                      skip
                      refine box_step ?hg (N := 5) ?hd (cs := #[.slice none 0 0, .slice none 0 0]) (t := 31) ?hr ?_; (case hd => rfl); (case hg => rfl); (case hr => first | (go_simp; done) | (go_simp; rfl))
                      intro gb350 hg w16 hbox hb
                      have n0_ := zA.mk (zL (g := gb336) (o := .cells #[.int .u8 a1_0, .int .u8 a1_1, .int .u8 a1_2, .int .u16 a1_3, .int .u16 a1_4, .float .f64 a1_5] 26 (0, 0)) (by (with_reducible repeat (first | refine zB ?_ _ | refine zD ?_ | refine zC ?_ _)); exact BK336.out) hb)
                      have n1_ := zA.mk (zL (g := gb351) (o := .cells #[.int .i64 0, .int .i64 0, .int .u8 0, .int .i64 0, .int .i64 0, .float .f64 0] 35 (0, 0)) (by (with_reducible repeat (first | refine zB ?_ _ | refine zD ?_ | refine zC ?_ _)); exact BK351.out) hb)
                      have n2_ := zA.mk (zM (by repeat (first | (with_reducible first | exact HB.out | apply zI | apply zE | apply zH | refine zF ?_ GE336.out | refine zF ?_ GE351.out) | exact HB.out)) hb)
                      have n3_ := zA.mk (hbox); have n4_ := zA.mk ((by rw [hg]; exact (zK (by repeat (first | (with_reducible first | exact HB.out | apply zI | apply zE | apply zH | refine zF ?_ GE336.out | refine zF ?_ GE351.out) | exact HB.out))) : w.heap.size ≤ gb350))
                      have n5_ := zA.mk ((by rw [hg]; exact (zK (by repeat (first | (with_reducible first | exact HB.out | apply zI | apply zE | apply zH | refine zF ?_ GE336.out | refine zF ?_ GE351.out) | exact HB.out))) : w.heap.size ≤ gb350))
                      have n6_ := zA.mk ((by rw [hg]; exact Nat.ne_of_lt (blk_lt (g := gb336) (o := .cells #[.int .u8 a1_0, .int .u8 a1_1, .int .u8 a1_2, .int .u16 a1_3, .int .u16 a1_4, .float .f64 a1_5] 26 (0, 0)) (by (with_reducible repeat (first | refine zB ?_ _ | refine zD ?_ | refine zC ?_ _)); exact BK336.out)) : gb336 ≠ gb350))
                      have n7_ := zA.mk ((by rw [hg]; exact Nat.ne_of_gt (blk_lt (g := gb336) (o := .cells #[.int .u8 a1_0, .int .u8 a1_1, .int .u8 a1_2, .int .u16 a1_3, .int .u16 a1_4, .float .f64 a1_5] 26 (0, 0)) (by (with_reducible repeat (first | refine zB ?_ _ | refine zD ?_ | refine zC ?_ _)); exact BK336.out)) : gb350 ≠ gb336))
                      have n8_ := zA.mk ((by rw [hg]; exact Nat.ne_of_lt (blk_lt (g := gb351) (o := .cells #[.int .i64 0, .int .i64 0, .int .u8 0, .int .i64 0, .int .i64 0, .float .f64 0] 35 (0, 0)) (by (with_reducible repeat (first | refine zB ?_ _ | refine zD ?_ | refine zC ?_ _)); exact BK351.out)) : gb351 ≠ gb350))
                      have n9_ := zA.mk ((by rw [hg]; exact Nat.ne_of_gt (blk_lt (g := gb351) (o := .cells #[.int .i64 0, .int .i64 0, .int .u8 0, .int .i64 0, .int .i64 0, .float .f64 0] 35 (0, 0)) (by (with_reducible repeat (first | refine zB ?_ _ | refine zD ?_ | refine zC ?_ _)); exact BK351.out)) : gb350 ≠ gb351))
                      clear BK336 BK351 HB; have BK336 := n0_; have BK351 := n1_; have HB := n2_; have BK350 := n3_; have GW350 := n4_; have GE350 := n5_; have NB336_350 := n6_; have NB350_336 := n7_; have NB351_350 := n8_; have NB350_351 := n9_; clear n0_ n1_ n2_ n3_ n4_ n5_ n6_ n7_ n8_ n9_; clear hb hbox hg; refine hK.out _ _ ⟨(zG BK336.out 0).trans rfl, (zG BK336.out 1).trans rfl, (zG BK336.out 2).trans rfl, (zG BK336.out 3).trans rfl, (zG BK336.out 4).trans rfl, (zG BK336.out 5).trans rfl⟩ (fun hHeld => ?_)
                      clear hK K; refine norm_ (a' := ?_) ?_ ?_
                      rotate_left
                      · show Act.put _ (some 5) _ = _
                        simp only [Act.put, sA_, sB_, sC_, i64_w, i32_w]; rfl
                      exact norm_ (by first | (simp only [putAll, Act.put, sA_, sB_, sC_]; done) | (simp only [putAll, Act.put, sA_, sB_, sC_]; rfl)) (hJ4_5 (gb350, gb351) _ ⟨hHeld, (by (with_reducible repeat (first | refine zB ?_ _ | refine zD ?_ | refine zC ?_ _)); exact BK336.out), (by (with_reducible repeat (first | refine zB ?_ _ | refine zD ?_ | refine zC ?_ _)); exact BK350.out), (by (with_reducible repeat (first | refine zB ?_ _ | refine zD ?_ | refine zC ?_ _)); exact BK351.out), GW350.out, GE350.out, NB336_350.out, NB350_336.out, NB351_350.out, NB350_351.out, GW351.out, GE351.out, NB336_351.out, NB351_336.out, (by repeat (first | (with_reducible first | exact HB.out | apply zI | apply zE | apply zH | refine zF ?_ GE336.out | refine zF ?_ GE351.out | refine zF ?_ GE350.out) | exact HB.out))⟩)
                    skip
                    rintro gb350 w15 ⟨hS_, h0_, h1_, h2_, h3_, h4_, h5_, h6_⟩
                    have n0_ : zA (w15.heap[gb336]? = some (.cells #[.int .u8 a1_0, .int .u8 a1_1, .int .u8 a1_2, .int .u16 a1_3, .int .u16 a1_4, .float .f64 a1_5] 26 (0, 0))) := ⟨h0_⟩
                    have n1_ : zA (w15.heap[gb350]? = some (.cells #[.slice none 0 0, .slice none 0 0] 31 (0, 0))) := ⟨h1_⟩
                    have n2_ : zA (w.heap.size ≤ gb350) := ⟨h2_⟩
                    have n3_ : zA (w.heap.size ≤ gb350) := ⟨h3_⟩
                    have n4_ : zA (gb336 ≠ gb350) := ⟨h4_⟩
                    have n5_ : zA (gb350 ≠ gb336) := ⟨h5_⟩
                    have n6_ : zA (Below w.heap.size w w15) := ⟨h6_⟩
                    clear BK336 HB h0_ h1_ h2_ h3_ h4_ h5_ h6_; have BK336 := n0_; have BK350 := n1_; have GW350 := n2_; have GE350 := n3_; have NB336_350 := n4_; have NB350_336 := n5_; have HB := n6_; clear n0_ n1_ n2_ n3_ n4_ n5_ n6_; have hHeld : w15.cell? ⟨gb336, 0, none⟩ = some (.int .u8 a1_0) ∧ w15.cell? ⟨gb336, 1, none⟩ = some (.int .u8 a1_1) ∧ w15.cell? ⟨gb336, 2, none⟩ = some (.int .u8 a1_2) ∧ w15.cell? ⟨gb336, 3, none⟩ = some (.int .u16 a1_3) ∧ w15.cell? ⟨gb336, 4, none⟩ = some (.int .u16 a1_4) ∧ w15.cell? ⟨gb336, 5, none⟩ = some (.float .f64 a1_5) := hS_
                    refine norm_ (a' := ?_) ?_ ?_
                    rotate_left
                    · simp only [putAll, Act.put, sA_, sB_, sC_]
                      rfl
                    refine two_ (i := 1) (j := 5) (Ni := some 16) (Nj := some 6) #[true, true, true, false, true, false, false, false] #[true, false, true, false, true, true, false, false] rfl rfl rfl rfl (two_of HT_.out (by kernel_rfl)) (by decide) (by decide) (fun K hK => ?_) (fun K hK => ?_)
                    · skip
                      refine goes_ Try.func13 (by kernel_rfl) rfl #[.slice A0 l0.length c0] (by rfl) rfl rfl (by (try simp only [List.map_toArray, List.map_cons, List.map_nil]); first | done | rfl | (simp only [List.length_drop, List.length_take]; rfl)) ?_
                      with_reducible refine (stanzahand03_Para.calls k _ _ l0 t338 t341 _ ?side1 ?side2 A8.out).mono ?_
                      (case side1 => repeat (first | exact (Kd.C_below HR0.out HB.out) | (with_reducible refine Kd.C_alloc ?_ _) | (with_reducible refine Kd.C_drewN ?_ _) | (with_reducible refine Kd.C_drew ?_)))
                      (case side2 => exact HC0.out)
                      rintro e w16 ⟨v339, v342, rfl, ho0, ho1, hb⟩
                      refine ⟨_, rfl, ?_⟩
                      have n0_ := zA.mk (Kd.R_lower ho0 (zK (by repeat (first | (with_reducible first | exact HB.out | apply zI | apply zE | apply zH | refine zF ?_ GE336.out | refine zF ?_ GE350.out) | exact HB.out))))
                      have n1_ := zA.mk (Kd.R_lower ho1 (zK (by repeat (first | (with_reducible first | exact HB.out | apply zI | apply zE | apply zH | refine zF ?_ GE336.out | refine zF ?_ GE350.out) | exact HB.out))))
                      have n2_ := zA.mk (zL (g := gb336) (o := .cells #[.int .u8 a1_0, .int .u8 a1_1, .int .u8 a1_2, .int .u16 a1_3, .int .u16 a1_4, .float .f64 a1_5] 26 (0, 0)) (by (with_reducible repeat (first | refine zB ?_ _ | refine zD ?_ | refine zC ?_ _)); exact BK336.out) hb)
                      have n3_ := zA.mk (zL (g := gb350) (o := .cells #[.slice none 0 0, .slice none 0 0] 31 (0, 0)) (by (with_reducible repeat (first | refine zB ?_ _ | refine zD ?_ | refine zC ?_ _)); exact BK350.out) hb)
                      have n4_ := zA.mk (zM (by repeat (first | (with_reducible first | exact HB.out | apply zI | apply zE | apply zH | refine zF ?_ GE336.out | refine zF ?_ GE350.out) | exact HB.out)) hb)
                      clear BK336 BK350 HB; have HO340 := n0_; have HO343 := n1_; have BK336 := n2_; have BK350 := n3_; have HB := n4_; clear n0_ n1_ n2_ n3_ n4_; (try clear hb)
                      (try clear hb2)
                      (try clear hk)
                      (try clear hi)
                      (try clear ho0)
                      (try clear ho1)
                      refine hK.out _ _ ⟨(zG BK336.out 0).trans rfl, (zG BK336.out 1).trans rfl, (zG BK336.out 2).trans rfl, (zG BK336.out 3).trans rfl, (zG BK336.out 4).trans rfl, (zG BK336.out 5).trans rfl⟩ (fun hHeld => ?_)
                      clear hK K; refine norm_ (a' := ?_) ?_ ?_
                      rotate_left
                      · show Act.put _ (some 16) _ = _
                        simp only [Act.put, sA_, sB_, sC_, i64_w, i32_w]; rfl
                      exact norm_ (by first | (simp only [putAll, Act.put, sA_, sB_, sC_]; done) | (simp only [putAll, Act.put, sA_, sB_, sC_]; rfl)) (hJ1_4 (v339, v342, gb350) _ ⟨hHeld, (by (with_reducible repeat (first | apply Kd.R_alloc | apply Kd.R_drewN | apply Kd.R_drew)); exact HO340.out), (by (with_reducible repeat (first | apply Kd.R_alloc | apply Kd.R_drewN | apply Kd.R_drew)); exact HO343.out), (by (with_reducible repeat (first | refine zB ?_ _ | refine zD ?_ | refine zC ?_ _)); exact BK336.out), (by (with_reducible repeat (first | refine zB ?_ _ | refine zD ?_ | refine zC ?_ _)); exact BK350.out), GW350.out, GE350.out, NB336_350.out, NB350_336.out, (by repeat (first | (with_reducible first | exact HB.out | apply zI | apply zE | apply zH | refine zF ?_ GE336.out | refine zF ?_ GE350.out) | exact HB.out))⟩)
                    skip
                    refine box_step ?hg (N := 6) ?hd (cs := #[.int .i64 0, .int .i64 0, .int .u8 0, .int .i64 0, .int .i64 0, .float .f64 0]) (t := 35) ?hr ?_; (case hd => rfl); (case hg => rfl); (case hr => first | (go_simp; done) | (go_simp; rfl))
                    intro gb351 hg w16 hbox hb
                    have n0_ := zA.mk (zL (g := gb336) (o := .cells #[.int .u8 a1_0, .int .u8 a1_1, .int .u8 a1_2, .int .u16 a1_3, .int .u16 a1_4, .float .f64 a1_5] 26 (0, 0)) (by (with_reducible repeat (first | refine zB ?_ _ | refine zD ?_ | refine zC ?_ _)); exact BK336.out) hb)
                    have n1_ := zA.mk (zL (g := gb350) (o := .cells #[.slice none 0 0, .slice none 0 0] 31 (0, 0)) (by (with_reducible repeat (first | refine zB ?_ _ | refine zD ?_ | refine zC ?_ _)); exact BK350.out) hb)
                    have n2_ := zA.mk (zM (by repeat (first | (with_reducible first | exact HB.out | apply zI | apply zE | apply zH | refine zF ?_ GE336.out | refine zF ?_ GE350.out) | exact HB.out)) hb)
                    have n3_ := zA.mk (hbox); have n4_ := zA.mk ((by rw [hg]; exact (zK (by repeat (first | (with_reducible first | exact HB.out | apply zI | apply zE | apply zH | refine zF ?_ GE336.out | refine zF ?_ GE350.out) | exact HB.out))) : w.heap.size ≤ gb351))
                    have n5_ := zA.mk ((by rw [hg]; exact (zK (by repeat (first | (with_reducible first | exact HB.out | apply zI | apply zE | apply zH | refine zF ?_ GE336.out | refine zF ?_ GE350.out) | exact HB.out))) : w.heap.size ≤ gb351))
                    have n6_ := zA.mk ((by rw [hg]; exact Nat.ne_of_lt (blk_lt (g := gb336) (o := .cells #[.int .u8 a1_0, .int .u8 a1_1, .int .u8 a1_2, .int .u16 a1_3, .int .u16 a1_4, .float .f64 a1_5] 26 (0, 0)) (by (with_reducible repeat (first | refine zB ?_ _ | refine zD ?_ | refine zC ?_ _)); exact BK336.out)) : gb336 ≠ gb351))
                    have n7_ := zA.mk ((by rw [hg]; exact Nat.ne_of_gt (blk_lt (g := gb336) (o := .cells #[.int .u8 a1_0, .int .u8 a1_1, .int .u8 a1_2, .int .u16 a1_3, .int .u16 a1_4, .float .f64 a1_5] 26 (0, 0)) (by (with_reducible repeat (first | refine zB ?_ _ | refine zD ?_ | refine zC ?_ _)); exact BK336.out)) : gb351 ≠ gb336))
                    have n8_ := zA.mk ((by rw [hg]; exact Nat.ne_of_lt (blk_lt (g := gb350) (o := .cells #[.slice none 0 0, .slice none 0 0] 31 (0, 0)) (by (with_reducible repeat (first | refine zB ?_ _ | refine zD ?_ | refine zC ?_ _)); exact BK350.out)) : gb350 ≠ gb351))
                    have n9_ := zA.mk ((by rw [hg]; exact Nat.ne_of_gt (blk_lt (g := gb350) (o := .cells #[.slice none 0 0, .slice none 0 0] 31 (0, 0)) (by (with_reducible repeat (first | refine zB ?_ _ | refine zD ?_ | refine zC ?_ _)); exact BK350.out)) : gb351 ≠ gb350))
                    clear BK336 BK350 HB; have BK336 := n0_; have BK350 := n1_; have HB := n2_; have BK351 := n3_; have GW351 := n4_; have GE351 := n5_; have NB336_351 := n6_; have NB351_336 := n7_; have NB350_351 := n8_; have NB351_350 := n9_; clear n0_ n1_ n2_ n3_ n4_ n5_ n6_ n7_ n8_ n9_; clear hb hbox hg; refine hK.out _ _ ⟨(zG BK336.out 0).trans rfl, (zG BK336.out 1).trans rfl, (zG BK336.out 2).trans rfl, (zG BK336.out 3).trans rfl, (zG BK336.out 4).trans rfl, (zG BK336.out 5).trans rfl⟩ (fun hHeld => ?_)
                    clear hK K; refine norm_ (a' := ?_) ?_ ?_
                    rotate_left
                    · show Act.put _ (some 6) _ = _
                      simp only [Act.put, sA_, sB_, sC_, i64_w, i32_w]; rfl
                    exact norm_ (by first | (simp only [putAll, Act.put, sA_, sB_, sC_]; done) | (simp only [putAll, Act.put, sA_, sB_, sC_]; rfl)) (hJ4_5 (gb350, gb351) _ ⟨hHeld, (by (with_reducible repeat (first | refine zB ?_ _ | refine zD ?_ | refine zC ?_ _)); exact BK336.out), (by (with_reducible repeat (first | refine zB ?_ _ | refine zD ?_ | refine zC ?_ _)); exact BK350.out), (by (with_reducible repeat (first | refine zB ?_ _ | refine zD ?_ | refine zC ?_ _)); exact BK351.out), GW350.out, GE350.out, NB336_350.out, NB350_336.out, NB351_350.out, NB350_351.out, GW351.out, GE351.out, NB336_351.out, NB351_336.out, (by repeat (first | (with_reducible first | exact HB.out | apply zI | apply zE | apply zH | refine zF ?_ GE336.out | refine zF ?_ GE350.out | refine zF ?_ GE351.out) | exact HB.out))⟩)
                  skip
                  rintro ⟨v339, v342⟩ w15 ⟨hS_, h0_, h1_, h2_, h3_⟩
                  have n0_ : zA (Kd.R k61 61 w15 w.heap.size (fun _ => True) v339 t338) := ⟨h0_⟩
                  have n1_ : zA (Kd.R (Kd.int .u8) 43 w15 w.heap.size (fun _ => True) v342 t341) := ⟨h1_⟩
                  have n2_ : zA (w15.heap[gb336]? = some (.cells #[.int .u8 a1_0, .int .u8 a1_1, .int .u8 a1_2, .int .u16 a1_3, .int .u16 a1_4, .float .f64 a1_5] 26 (0, 0))) := ⟨h2_⟩
                  have n3_ : zA (Below w.heap.size w w15) := ⟨h3_⟩
                  clear BK336 HB h0_ h1_ h2_ h3_; have HO340 := n0_; have HO343 := n1_; have BK336 := n2_; have HB := n3_; clear n0_ n1_ n2_ n3_; have hHeld : w15.cell? ⟨gb336, 0, none⟩ = some (.int .u8 a1_0) ∧ w15.cell? ⟨gb336, 1, none⟩ = some (.int .u8 a1_1) ∧ w15.cell? ⟨gb336, 2, none⟩ = some (.int .u8 a1_2) ∧ w15.cell? ⟨gb336, 3, none⟩ = some (.int .u16 a1_3) ∧ w15.cell? ⟨gb336, 4, none⟩ = some (.int .u16 a1_4) ∧ w15.cell? ⟨gb336, 5, none⟩ = some (.float .f64 a1_5) := hS_
                  refine norm_ (a' := ?_) ?_ ?_
                  rotate_left
                  · simp only [putAll, Act.put, sA_, sB_, sC_]
                    rfl
                  refine three_ (i := 3) (j := 4) (k := 5) (Ni := some 18) (Nj := some 5) (Nk := some 6) #[true, true, true, true, false, false, false, false] #[true, true, true, false, true, false, false, false] #[true, true, true, false, false, true, false, false] rfl rfl rfl rfl rfl rfl (three_of HT_.out (by kernel_rfl)) (by decide) (by decide) (by decide) (fun K hK => ?_) (fun K hK => ?_) (fun K hK => ?_)
                  · skip
                    refine goes_ Try.func14 (by kernel_rfl) rfl #[.agg #[.int .u8 a1_0, .int .u8 a1_1, .int .u8 a1_2, .int .u16 a1_3, .int .u16 a1_4, .float .f64 a1_5]] (by rfl) rfl rfl (by (try simp only [List.map_toArray, List.map_cons, List.map_nil]); first | done | rfl | (simp only [List.length_drop, List.length_take]; rfl)) ?_
                    with_reducible refine (stanzahand03_Config.calls a1_0 a1_1 a1_2 a1_3 a1_4 a1_5 t344 t345 t346 t347 t348 t349 _ A9.out).mono ?_
                    rintro e w16 ⟨rfl, hb⟩
                    refine ⟨_, rfl, ?_⟩
                    have n0_ := zA.mk (Kd.R_below (by (with_reducible repeat (first | apply Kd.R_alloc | apply Kd.R_drewN | apply Kd.R_drew)); exact HO340.out) hb)
                    have n1_ := zA.mk (Kd.R_below (by (with_reducible repeat (first | apply Kd.R_alloc | apply Kd.R_drewN | apply Kd.R_drew)); exact HO343.out) hb)
                    have n2_ := zA.mk (zL (g := gb336) (o := .cells #[.int .u8 a1_0, .int .u8 a1_1, .int .u8 a1_2, .int .u16 a1_3, .int .u16 a1_4, .float .f64 a1_5] 26 (0, 0)) (by (with_reducible repeat (first | refine zB ?_ _ | refine zD ?_ | refine zC ?_ _)); exact BK336.out) hb)
                    have n3_ := zA.mk (zM (by repeat (first | (with_reducible first | exact HB.out | apply zI | apply zE | apply zH | refine zF ?_ GE336.out) | exact HB.out)) hb)
                    clear HO340 HO343 BK336 HB; have HO340 := n0_; have HO343 := n1_; have BK336 := n2_; have HB := n3_; clear n0_ n1_ n2_ n3_; (try clear hb)
                    (try clear hb2)
                    (try clear hk)
                    (try clear hi)
                    refine hK.out _ _ ⟨(zG BK336.out 0).trans rfl, (zG BK336.out 1).trans rfl, (zG BK336.out 2).trans rfl, (zG BK336.out 3).trans rfl, (zG BK336.out 4).trans rfl, (zG BK336.out 5).trans rfl⟩ (fun hHeld => ?_)
                    clear hK K; refine norm_ (a' := ?_) ?_ ?_
                    rotate_left
                    · show Act.put _ (some 18) _ = _
                      simp only [Act.put, sA_, sB_, sC_, i64_w, i32_w]; rfl
                    exact norm_ (by first | (simp only [putAll, Act.put, sA_, sB_, sC_]; done) | (simp only [putAll, Act.put, sA_, sB_, sC_]; rfl)) (hJ1_3 (v339, v342) _ ⟨hHeld, (by (with_reducible repeat (first | apply Kd.R_alloc | apply Kd.R_drewN | apply Kd.R_drew)); exact HO340.out), (by (with_reducible repeat (first | apply Kd.R_alloc | apply Kd.R_drewN | apply Kd.R_drew)); exact HO343.out), (by (with_reducible repeat (first | refine zB ?_ _ | refine zD ?_ | refine zC ?_ _)); exact BK336.out), (by repeat (first | (with_reducible first | exact HB.out | apply zI | apply zE | apply zH | refine zF ?_ GE336.out) | exact HB.out))⟩)
                  · skip
                    refine box_step ?hg (N := 5) ?hd (cs := #[.slice none 0 0, .slice none 0 0]) (t := 31) ?hr ?_; (case hd => rfl); (case hg => rfl); (case hr => first | (go_simp; done) | (go_simp; rfl))
                    intro gb350 hg w16 hbox hb
                    have n0_ := zA.mk (Kd.R_below (by (with_reducible repeat (first | apply Kd.R_alloc | apply Kd.R_drewN | apply Kd.R_drew)); exact HO340.out) hb)
                    have n1_ := zA.mk (Kd.R_below (by (with_reducible repeat (first | apply Kd.R_alloc | apply Kd.R_drewN | apply Kd.R_drew)); exact HO343.out) hb)
                    have n2_ := zA.mk (zL (g := gb336) (o := .cells #[.int .u8 a1_0, .int .u8 a1_1, .int .u8 a1_2, .int .u16 a1_3, .int .u16 a1_4, .float .f64 a1_5] 26 (0, 0)) (by (with_reducible repeat (first | refine zB ?_ _ | refine zD ?_ | refine zC ?_ _)); exact BK336.out) hb)
                    have n3_ := zA.mk (zM (by repeat (first | (with_reducible first | exact HB.out | apply zI | apply zE | apply zH | refine zF ?_ GE336.out) | exact HB.out)) hb)
                    have n4_ := zA.mk (hbox); have n5_ := zA.mk ((by rw [hg]; exact (zK (by repeat (first | (with_reducible first | exact HB.out | apply zI | apply zE | apply zH | refine zF ?_ GE336.out) | exact HB.out))) : w.heap.size ≤ gb350))
                    have n6_ := zA.mk ((by rw [hg]; exact (zK (by repeat (first | (with_reducible first | exact HB.out | apply zI | apply zE | apply zH | refine zF ?_ GE336.out) | exact HB.out))) : w.heap.size ≤ gb350))
                    have n7_ := zA.mk ((by rw [hg]; exact Nat.ne_of_lt (blk_lt (g := gb336) (o := .cells #[.int .u8 a1_0, .int .u8 a1_1, .int .u8 a1_2, .int .u16 a1_3, .int .u16 a1_4, .float .f64 a1_5] 26 (0, 0)) (by (with_reducible repeat (first | refine zB ?_ _ | refine zD ?_ | refine zC ?_ _)); exact BK336.out)) : gb336 ≠ gb350))
                    have n8_ := zA.mk ((by rw [hg]; exact Nat.ne_of_gt (blk_lt (g := gb336) (o := .cells #[.int .u8 a1_0, .int .u8 a1_1, .int .u8 a1_2, .int .u16 a1_3, .int .u16 a1_4, .float .f64 a1_5] 26 (0, 0)) (by (with_reducible repeat (first | refine zB ?_ _ | refine zD ?_ | refine zC ?_ _)); exact BK336.out)) : gb350 ≠ gb336))
                    clear HO340 HO343 BK336 HB; have HO340 := n0_; have HO343 := n1_; have BK336 := n2_; have HB := n3_; have BK350 := n4_; have GW350 := n5_; have GE350 := n6_; have NB336_350 := n7_; have NB350_336 := n8_; clear n0_ n1_ n2_ n3_ n4_ n5_ n6_ n7_ n8_; clear hb hbox hg; refine hK.out _ _ ⟨(zG BK336.out 0).trans rfl, (zG BK336.out 1).trans rfl, (zG BK336.out 2).trans rfl, (zG BK336.out 3).trans rfl, (zG BK336.out 4).trans rfl, (zG BK336.out 5).trans rfl⟩ (fun hHeld => ?_)
                    clear hK K; refine norm_ (a' := ?_) ?_ ?_
                    rotate_left
                    · show Act.put _ (some 5) _ = _
                      simp only [Act.put, sA_, sB_, sC_, i64_w, i32_w]; rfl
                    exact norm_ (by first | (simp only [putAll, Act.put, sA_, sB_, sC_]; done) | (simp only [putAll, Act.put, sA_, sB_, sC_]; rfl)) (hJ1_4 (v339, v342, gb350) _ ⟨hHeld, (by (with_reducible repeat (first | apply Kd.R_alloc | apply Kd.R_drewN | apply Kd.R_drew)); exact HO340.out), (by (with_reducible repeat (first | apply Kd.R_alloc | apply Kd.R_drewN | apply Kd.R_drew)); exact HO343.out), (by (with_reducible repeat (first | refine zB ?_ _ | refine zD ?_ | refine zC ?_ _)); exact BK336.out), (by (with_reducible repeat (first | refine zB ?_ _ | refine zD ?_ | refine zC ?_ _)); exact BK350.out), GW350.out, GE350.out, NB336_350.out, NB350_336.out, (by repeat (first | (with_reducible first | exact HB.out | apply zI | apply zE | apply zH | refine zF ?_ GE336.out | refine zF ?_ GE350.out) | exact HB.out))⟩)
                  skip
                  refine box_step ?hg (N := 6) ?hd (cs := #[.int .i64 0, .int .i64 0, .int .u8 0, .int .i64 0, .int .i64 0, .float .f64 0]) (t := 35) ?hr ?_; (case hd => rfl); (case hg => rfl); (case hr => first | (go_simp; done) | (go_simp; rfl))
                  intro gb351 hg w16 hbox hb
                  have n0_ := zA.mk (Kd.R_below (by (with_reducible repeat (first | apply Kd.R_alloc | apply Kd.R_drewN | apply Kd.R_drew)); exact HO340.out) hb)
                  have n1_ := zA.mk (Kd.R_below (by (with_reducible repeat (first | apply Kd.R_alloc | apply Kd.R_drewN | apply Kd.R_drew)); exact HO343.out) hb)
                  have n2_ := zA.mk (zL (g := gb336) (o := .cells #[.int .u8 a1_0, .int .u8 a1_1, .int .u8 a1_2, .int .u16 a1_3, .int .u16 a1_4, .float .f64 a1_5] 26 (0, 0)) (by (with_reducible repeat (first | refine zB ?_ _ | refine zD ?_ | refine zC ?_ _)); exact BK336.out) hb)
                  have n3_ := zA.mk (zM (by repeat (first | (with_reducible first | exact HB.out | apply zI | apply zE | apply zH | refine zF ?_ GE336.out) | exact HB.out)) hb)
                  have n4_ := zA.mk (hbox); have n5_ := zA.mk ((by rw [hg]; exact (zK (by repeat (first | (with_reducible first | exact HB.out | apply zI | apply zE | apply zH | refine zF ?_ GE336.out) | exact HB.out))) : w.heap.size ≤ gb351))
                  have n6_ := zA.mk ((by rw [hg]; exact (zK (by repeat (first | (with_reducible first | exact HB.out | apply zI | apply zE | apply zH | refine zF ?_ GE336.out) | exact HB.out))) : w.heap.size ≤ gb351))
                  have n7_ := zA.mk ((by rw [hg]; exact Nat.ne_of_lt (blk_lt (g := gb336) (o := .cells #[.int .u8 a1_0, .int .u8 a1_1, .int .u8 a1_2, .int .u16 a1_3, .int .u16 a1_4, .float .f64 a1_5] 26 (0, 0)) (by (with_reducible repeat (first | refine zB ?_ _ | refine zD ?_ | refine zC ?_ _)); exact BK336.out)) : gb336 ≠ gb351))
                  have n8_ := zA.mk ((by rw [hg]; exact Nat.ne_of_gt (blk_lt (g := gb336) (o := .cells #[.int .u8 a1_0, .int .u8 a1_1, .int .u8 a1_2, .int .u16 a1_3, .int .u16 a1_4, .float .f64 a1_5] 26 (0, 0)) (by (with_reducible repeat (first | refine zB ?_ _ | refine zD ?_ | refine zC ?_ _)); exact BK336.out)) : gb351 ≠ gb336))
                  clear HO340 HO343 BK336 HB; have HO340 := n0_; have HO343 := n1_; have BK336 := n2_; have HB := n3_; have BK351 := n4_; have GW351 := n5_; have GE351 := n6_; have NB336_351 := n7_; have NB351_336 := n8_; clear n0_ n1_ n2_ n3_ n4_ n5_ n6_ n7_ n8_; clear hb hbox hg; refine hK.out _ _ ⟨(zG BK336.out 0).trans rfl, (zG BK336.out 1).trans rfl, (zG BK336.out 2).trans rfl, (zG BK336.out 3).trans rfl, (zG BK336.out 4).trans rfl, (zG BK336.out 5).trans rfl⟩ (fun hHeld => ?_)
                  clear hK K; refine norm_ (a' := ?_) ?_ ?_
                  rotate_left
                  · show Act.put _ (some 6) _ = _
                    simp only [Act.put, sA_, sB_, sC_, i64_w, i32_w]; rfl
                  exact norm_ (by first | (simp only [putAll, Act.put, sA_, sB_, sC_]; done) | (simp only [putAll, Act.put, sA_, sB_, sC_]; rfl)) (hJ1_5 (v339, v342, gb351) _ ⟨hHeld, (by (with_reducible repeat (first | apply Kd.R_alloc | apply Kd.R_drewN | apply Kd.R_drew)); exact HO340.out), (by (with_reducible repeat (first | apply Kd.R_alloc | apply Kd.R_drewN | apply Kd.R_drew)); exact HO343.out), (by (with_reducible repeat (first | refine zB ?_ _ | refine zD ?_ | refine zC ?_ _)); exact BK336.out), (by (with_reducible repeat (first | refine zB ?_ _ | refine zD ?_ | refine zC ?_ _)); exact BK351.out), GW351.out, GE351.out, NB336_351.out, NB351_336.out, (by repeat (first | (with_reducible first | exact HB.out | apply zI | apply zE | apply zH | refine zF ?_ GE336.out | refine zF ?_ GE351.out) | exact HB.out))⟩)
                skip
                rintro ⟨gb350, gb351⟩ w16 ⟨hS_, h0_, h1_, h2_, h3_, h4_, h5_, h6_, h7_, h8_, h9_, h10_, h11_, h12_, h13_⟩
                have n0_ : zA (w16.heap[gb336]? = some (.cells #[.int .u8 a1_0, .int .u8 a1_1, .int .u8 a1_2, .int .u16 a1_3, .int .u16 a1_4, .float .f64 a1_5] 26 (0, 0))) := ⟨h0_⟩
                have n1_ : zA (w16.heap[gb350]? = some (.cells #[.slice none 0 0, .slice none 0 0] 31 (0, 0))) := ⟨h1_⟩
                have n2_ : zA (w16.heap[gb351]? = some (.cells #[.int .i64 0, .int .i64 0, .int .u8 0, .int .i64 0, .int .i64 0, .float .f64 0] 35 (0, 0))) := ⟨h2_⟩
                have n3_ : zA (w.heap.size ≤ gb350) := ⟨h3_⟩
                have n4_ : zA (w.heap.size ≤ gb350) := ⟨h4_⟩
                have n5_ : zA (gb336 ≠ gb350) := ⟨h5_⟩
                have n6_ : zA (gb350 ≠ gb336) := ⟨h6_⟩
                have n7_ : zA (gb351 ≠ gb350) := ⟨h7_⟩
                have n8_ : zA (gb350 ≠ gb351) := ⟨h8_⟩
                have n9_ : zA (w.heap.size ≤ gb351) := ⟨h9_⟩
                have n10_ : zA (w.heap.size ≤ gb351) := ⟨h10_⟩
                have n11_ : zA (gb336 ≠ gb351) := ⟨h11_⟩
                have n12_ : zA (gb351 ≠ gb336) := ⟨h12_⟩
                have n13_ : zA (Below w.heap.size w w16) := ⟨h13_⟩
                clear BK336 HB h0_ h1_ h2_ h3_ h4_ h5_ h6_ h7_ h8_ h9_ h10_ h11_ h12_ h13_; have BK336 := n0_; have BK350 := n1_; have BK351 := n2_; have GW350 := n3_; have GE350 := n4_; have NB336_350 := n5_; have NB350_336 := n6_; have NB351_350 := n7_; have NB350_351 := n8_; have GW351 := n9_; have GE351 := n10_; have NB336_351 := n11_; have NB351_336 := n12_; have HB := n13_; clear n0_ n1_ n2_ n3_ n4_ n5_ n6_ n7_ n8_ n9_ n10_ n11_ n12_ n13_; have hHeld : w16.cell? ⟨gb336, 0, none⟩ = some (.int .u8 a1_0) ∧ w16.cell? ⟨gb336, 1, none⟩ = some (.int .u8 a1_1) ∧ w16.cell? ⟨gb336, 2, none⟩ = some (.int .u8 a1_2) ∧ w16.cell? ⟨gb336, 3, none⟩ = some (.int .u16 a1_3) ∧ w16.cell? ⟨gb336, 4, none⟩ = some (.int .u16 a1_4) ∧ w16.cell? ⟨gb336, 5, none⟩ = some (.float .f64 a1_5) := hS_
                refine norm_ (a' := ?_) ?_ ?_
                rotate_left
                · simp only [putAll, Act.put, sA_, sB_, sC_]
                  rfl
                refine one_ (i := 1) (N := some 16) #[true, true, true, false, true, true, false, false] rfl rfl (one_of HT_.out (by kernel_rfl)) (by decide) (fun K hK => ?_)
                refine goes_ Try.func13 (by kernel_rfl) rfl #[.slice A0 l0.length c0] (by rfl) rfl rfl (by (try simp only [List.map_toArray, List.map_cons, List.map_nil]); first | done | rfl | (simp only [List.length_drop, List.length_take]; rfl)) ?_
                with_reducible refine (stanzahand03_Para.calls k _ _ l0 t338 t341 _ ?side1 ?side2 A8.out).mono ?_
                (case side1 => repeat (first | exact (Kd.C_below HR0.out HB.out) | (with_reducible refine Kd.C_alloc ?_ _) | (with_reducible refine Kd.C_drewN ?_ _) | (with_reducible refine Kd.C_drew ?_)))
                (case side2 => exact HC0.out)
                rintro e w17 ⟨v339, v342, rfl, ho0, ho1, hb⟩
                refine ⟨_, rfl, ?_⟩
                have n0_ := zA.mk (Kd.R_lower ho0 (zK (by repeat (first | (with_reducible first | exact HB.out | apply zI | apply zE | apply zH | refine zF ?_ GE336.out | refine zF ?_ GE350.out | refine zF ?_ GE351.out) | exact HB.out))))
                have n1_ := zA.mk (Kd.R_lower ho1 (zK (by repeat (first | (with_reducible first | exact HB.out | apply zI | apply zE | apply zH | refine zF ?_ GE336.out | refine zF ?_ GE350.out | refine zF ?_ GE351.out) | exact HB.out))))
                have n2_ := zA.mk (zL (g := gb336) (o := .cells #[.int .u8 a1_0, .int .u8 a1_1, .int .u8 a1_2, .int .u16 a1_3, .int .u16 a1_4, .float .f64 a1_5] 26 (0, 0)) (by (with_reducible repeat (first | refine zB ?_ _ | refine zD ?_ | refine zC ?_ _)); exact BK336.out) hb)
                have n3_ := zA.mk (zL (g := gb350) (o := .cells #[.slice none 0 0, .slice none 0 0] 31 (0, 0)) (by (with_reducible repeat (first | refine zB ?_ _ | refine zD ?_ | refine zC ?_ _)); exact BK350.out) hb)
                have n4_ := zA.mk (zL (g := gb351) (o := .cells #[.int .i64 0, .int .i64 0, .int .u8 0, .int .i64 0, .int .i64 0, .float .f64 0] 35 (0, 0)) (by (with_reducible repeat (first | refine zB ?_ _ | refine zD ?_ | refine zC ?_ _)); exact BK351.out) hb)
                have n5_ := zA.mk (zM (by repeat (first | (with_reducible first | exact HB.out | apply zI | apply zE | apply zH | refine zF ?_ GE336.out | refine zF ?_ GE350.out | refine zF ?_ GE351.out) | exact HB.out)) hb)
                clear BK336 BK350 BK351 HB; have HO340 := n0_; have HO343 := n1_; have BK336 := n2_; have BK350 := n3_; have BK351 := n4_; have HB := n5_; clear n0_ n1_ n2_ n3_ n4_ n5_; (try clear hb)
                (try clear hb2)
                (try clear hk)
                (try clear hi)
                (try clear ho0)
                (try clear ho1)
                refine hK.out _ _ ⟨(zG BK336.out 0).trans rfl, (zG BK336.out 1).trans rfl, (zG BK336.out 2).trans rfl, (zG BK336.out 3).trans rfl, (zG BK336.out 4).trans rfl, (zG BK336.out 5).trans rfl⟩ (fun hHeld => ?_)
                clear hK K; refine norm_ (a' := ?_) ?_ ?_
                rotate_left
                · show Act.put _ (some 16) _ = _
                  simp only [Act.put, sA_, sB_, sC_, i64_w, i32_w]; rfl
                exact norm_ (by first | (simp only [putAll, Act.put, sA_, sB_, sC_]; done) | (simp only [putAll, Act.put, sA_, sB_, sC_]; rfl)) (hJ1_4_5 (v339, v342, gb350, gb351) _ ⟨hHeld, (by (with_reducible repeat (first | apply Kd.R_alloc | apply Kd.R_drewN | apply Kd.R_drew)); exact HO340.out), (by (with_reducible repeat (first | apply Kd.R_alloc | apply Kd.R_drewN | apply Kd.R_drew)); exact HO343.out), (by (with_reducible repeat (first | refine zB ?_ _ | refine zD ?_ | refine zC ?_ _)); exact BK336.out), (by (with_reducible repeat (first | refine zB ?_ _ | refine zD ?_ | refine zC ?_ _)); exact BK350.out), (by (with_reducible repeat (first | refine zB ?_ _ | refine zD ?_ | refine zC ?_ _)); exact BK351.out), GW350.out, GE350.out, NB336_350.out, NB350_336.out, NB351_350.out, NB350_351.out, GW351.out, GE351.out, NB336_351.out, NB351_336.out, (by repeat (first | (with_reducible first | exact HB.out | apply zI | apply zE | apply zH | refine zF ?_ GE336.out | refine zF ?_ GE350.out | refine zF ?_ GE351.out) | exact HB.out))⟩)
              skip
              rintro ⟨v339, v342, gb351⟩ w16 ⟨hS_, h0_, h1_, h2_, h3_, h4_, h5_, h6_, h7_, h8_⟩
              have n0_ : zA (Kd.R k61 61 w16 w.heap.size (fun _ => True) v339 t338) := ⟨h0_⟩
              have n1_ : zA (Kd.R (Kd.int .u8) 43 w16 w.heap.size (fun _ => True) v342 t341) := ⟨h1_⟩
              have n2_ : zA (w16.heap[gb336]? = some (.cells #[.int .u8 a1_0, .int .u8 a1_1, .int .u8 a1_2, .int .u16 a1_3, .int .u16 a1_4, .float .f64 a1_5] 26 (0, 0))) := ⟨h2_⟩
              have n3_ : zA (w16.heap[gb351]? = some (.cells #[.int .i64 0, .int .i64 0, .int .u8 0, .int .i64 0, .int .i64 0, .float .f64 0] 35 (0, 0))) := ⟨h3_⟩
              have n4_ : zA (w.heap.size ≤ gb351) := ⟨h4_⟩
              have n5_ : zA (w.heap.size ≤ gb351) := ⟨h5_⟩
              have n6_ : zA (gb336 ≠ gb351) := ⟨h6_⟩
              have n7_ : zA (gb351 ≠ gb336) := ⟨h7_⟩
              have n8_ : zA (Below w.heap.size w w16) := ⟨h8_⟩
              clear BK336 HB h0_ h1_ h2_ h3_ h4_ h5_ h6_ h7_ h8_; have HO340 := n0_; have HO343 := n1_; have BK336 := n2_; have BK351 := n3_; have GW351 := n4_; have GE351 := n5_; have NB336_351 := n6_; have NB351_336 := n7_; have HB := n8_; clear n0_ n1_ n2_ n3_ n4_ n5_ n6_ n7_ n8_; have hHeld : w16.cell? ⟨gb336, 0, none⟩ = some (.int .u8 a1_0) ∧ w16.cell? ⟨gb336, 1, none⟩ = some (.int .u8 a1_1) ∧ w16.cell? ⟨gb336, 2, none⟩ = some (.int .u8 a1_2) ∧ w16.cell? ⟨gb336, 3, none⟩ = some (.int .u16 a1_3) ∧ w16.cell? ⟨gb336, 4, none⟩ = some (.int .u16 a1_4) ∧ w16.cell? ⟨gb336, 5, none⟩ = some (.float .f64 a1_5) := hS_
              refine norm_ (a' := ?_) ?_ ?_
              rotate_left
              · simp only [putAll, Act.put, sA_, sB_, sC_]
                rfl
              refine two_ (i := 3) (j := 4) (Ni := some 18) (Nj := some 5) #[true, true, true, true, false, true, false, false] #[true, true, true, false, true, true, false, false] rfl rfl rfl rfl (two_of HT_.out (by kernel_rfl)) (by decide) (by decide) (fun K hK => ?_) (fun K hK => ?_)
              · skip
                refine goes_ Try.func14 (by kernel_rfl) rfl #[.agg #[.int .u8 a1_0, .int .u8 a1_1, .int .u8 a1_2, .int .u16 a1_3, .int .u16 a1_4, .float .f64 a1_5]] (by rfl) rfl rfl (by (try simp only [List.map_toArray, List.map_cons, List.map_nil]); first | done | rfl | (simp only [List.length_drop, List.length_take]; rfl)) ?_
                with_reducible refine (stanzahand03_Config.calls a1_0 a1_1 a1_2 a1_3 a1_4 a1_5 t344 t345 t346 t347 t348 t349 _ A9.out).mono ?_
                rintro e w17 ⟨rfl, hb⟩
                refine ⟨_, rfl, ?_⟩
                have n0_ := zA.mk (Kd.R_below (by (with_reducible repeat (first | apply Kd.R_alloc | apply Kd.R_drewN | apply Kd.R_drew)); exact HO340.out) hb)
                have n1_ := zA.mk (Kd.R_below (by (with_reducible repeat (first | apply Kd.R_alloc | apply Kd.R_drewN | apply Kd.R_drew)); exact HO343.out) hb)
                have n2_ := zA.mk (zL (g := gb336) (o := .cells #[.int .u8 a1_0, .int .u8 a1_1, .int .u8 a1_2, .int .u16 a1_3, .int .u16 a1_4, .float .f64 a1_5] 26 (0, 0)) (by (with_reducible repeat (first | refine zB ?_ _ | refine zD ?_ | refine zC ?_ _)); exact BK336.out) hb)
                have n3_ := zA.mk (zL (g := gb351) (o := .cells #[.int .i64 0, .int .i64 0, .int .u8 0, .int .i64 0, .int .i64 0, .float .f64 0] 35 (0, 0)) (by (with_reducible repeat (first | refine zB ?_ _ | refine zD ?_ | refine zC ?_ _)); exact BK351.out) hb)
                have n4_ := zA.mk (zM (by repeat (first | (with_reducible first | exact HB.out | apply zI | apply zE | apply zH | refine zF ?_ GE336.out | refine zF ?_ GE351.out) | exact HB.out)) hb)
                clear HO340 HO343 BK336 BK351 HB; have HO340 := n0_; have HO343 := n1_; have BK336 := n2_; have BK351 := n3_; have HB := n4_; clear n0_ n1_ n2_ n3_ n4_; (try clear hb)
                (try clear hb2)
                (try clear hk)
                (try clear hi)
                refine hK.out _ _ ⟨(zG BK336.out 0).trans rfl, (zG BK336.out 1).trans rfl, (zG BK336.out 2).trans rfl, (zG BK336.out 3).trans rfl, (zG BK336.out 4).trans rfl, (zG BK336.out 5).trans rfl⟩ (fun hHeld => ?_)
                clear hK K; refine norm_ (a' := ?_) ?_ ?_
                rotate_left
                · show Act.put _ (some 18) _ = _
                  simp only [Act.put, sA_, sB_, sC_, i64_w, i32_w]; rfl
                exact norm_ (by first | (simp only [putAll, Act.put, sA_, sB_, sC_]; done) | (simp only [putAll, Act.put, sA_, sB_, sC_]; rfl)) (hJ1_3_5 (v339, v342, gb351) _ ⟨hHeld, (by (with_reducible repeat (first | apply Kd.R_alloc | apply Kd.R_drewN | apply Kd.R_drew)); exact HO340.out), (by (with_reducible repeat (first | apply Kd.R_alloc | apply Kd.R_drewN | apply Kd.R_drew)); exact HO343.out), (by (with_reducible repeat (first | refine zB ?_ _ | refine zD ?_ | refine zC ?_ _)); exact BK336.out), (by (with_reducible repeat (first | refine zB ?_ _ | refine zD ?_ | refine zC ?_ _)); exact BK351.out), GW351.out, GE351.out, NB336_351.out, NB351_336.out, (by repeat (first | (with_reducible first | exact HB.out | apply zI | apply zE | apply zH | refine zF ?_ GE336.out | refine zF ?_ GE351.out) | exact HB.out))⟩)
              skip
              refine box_step ?hg (N := 5) ?hd (cs := #[.slice none 0 0, .slice none 0 0]) (t := 31) ?hr ?_; (case hd => rfl); (case hg => rfl); (case hr => first | (go_simp; done) | (go_simp; rfl))
              intro gb350 hg w17 hbox hb
              have n0_ := zA.mk (Kd.R_below (by (with_reducible repeat (first | apply Kd.R_alloc | apply Kd.R_drewN | apply Kd.R_drew)); exact HO340.out) hb)
              have n1_ := zA.mk (Kd.R_below (by (with_reducible repeat (first | apply Kd.R_alloc | apply Kd.R_drewN | apply Kd.R_drew)); exact HO343.out) hb)
              have n2_ := zA.mk (zL (g := gb336) (o := .cells #[.int .u8 a1_0, .int .u8 a1_1, .int .u8 a1_2, .int .u16 a1_3, .int .u16 a1_4, .float .f64 a1_5] 26 (0, 0)) (by (with_reducible repeat (first | refine zB ?_ _ | refine zD ?_ | refine zC ?_ _)); exact BK336.out) hb)
              have n3_ := zA.mk (zL (g := gb351) (o := .cells #[.int .i64 0, .int .i64 0, .int .u8 0, .int .i64 0, .int .i64 0, .float .f64 0] 35 (0, 0)) (by (with_reducible repeat (first | refine zB ?_ _ | refine zD ?_ | refine zC ?_ _)); exact BK351.out) hb)
              have n4_ := zA.mk (zM (by repeat (first | (with_reducible first | exact HB.out | apply zI | apply zE | apply zH | refine zF ?_ GE336.out | refine zF ?_ GE351.out) | exact HB.out)) hb)
              have n5_ := zA.mk (hbox); have n6_ := zA.mk ((by rw [hg]; exact (zK (by repeat (first | (with_reducible first | exact HB.out | apply zI | apply zE | apply zH | refine zF ?_ GE336.out | refine zF ?_ GE351.out) | exact HB.out))) : w.heap.size ≤ gb350))
              have n7_ := zA.mk ((by rw [hg]; exact (zK (by repeat (first | (with_reducible first | exact HB.out | apply zI | apply zE | apply zH | refine zF ?_ GE336.out | refine zF ?_ GE351.out) | exact HB.out))) : w.heap.size ≤ gb350))
              have n8_ := zA.mk ((by rw [hg]; exact Nat.ne_of_lt (blk_lt (g := gb336) (o := .cells #[.int .u8 a1_0, .int .u8 a1_1, .int .u8 a1_2, .int .u16 a1_3, .int .u16 a1_4, .float .f64 a1_5] 26 (0, 0)) (by (with_reducible repeat (first | refine zB ?_ _ | refine zD ?_ | refine zC ?_ _)); exact BK336.out)) : gb336 ≠ gb350))
              have n9_ := zA.mk ((by rw [hg]; exact Nat.ne_of_gt (blk_lt (g := gb336) (o := .cells #[.int .u8 a1_0, .int .u8 a1_1, .int .u8 a1_2, .int .u16 a1_3, .int .u16 a1_4, .float .f64 a1_5] 26 (0, 0)) (by (with_reducible repeat (first | refine zB ?_ _ | refine zD ?_ | refine zC ?_ _)); exact BK336.out)) : gb350 ≠ gb336))
              have n10_ := zA.mk ((by rw [hg]; exact Nat.ne_of_lt (blk_lt (g := gb351) (o := .cells #[.int .i64 0, .int .i64 0, .int .u8 0, .int .i64 0, .int .i64 0, .float .f64 0] 35 (0, 0)) (by (with_reducible repeat (first | refine zB ?_ _ | refine zD ?_ | refine zC ?_ _)); exact BK351.out)) : gb351 ≠ gb350))
              have n11_ := zA.mk ((by rw [hg]; exact Nat.ne_of_gt (blk_lt (g := gb351) (o := .cells #[.int .i64 0, .int .i64 0, .int .u8 0, .int .i64 0, .int .i64 0, .float .f64 0] 35 (0, 0)) (by (with_reducible repeat (first | refine zB ?_ _ | refine zD ?_ | refine zC ?_ _)); exact BK351.out)) : gb350 ≠ gb351))
              clear HO340 HO343 BK336 BK351 HB; have HO340 := n0_; have HO343 := n1_; have BK336 := n2_; have BK351 := n3_; have HB := n4_; have BK350 := n5_; have GW350 := n6_; have GE350 := n7_; have NB336_350 := n8_; have NB350_336 := n9_; have NB351_350 := n10_; have NB350_351 := n11_; clear n0_ n1_ n2_ n3_ n4_ n5_ n6_ n7_ n8_ n9_ n10_ n11_; clear hb hbox hg; refine hK.out _ _ ⟨(zG BK336.out 0).trans rfl, (zG BK336.out 1).trans rfl, (zG BK336.out 2).trans rfl, (zG BK336.out 3).trans rfl, (zG BK336.out 4).trans rfl, (zG BK336.out 5).trans rfl⟩ (fun hHeld => ?_)
              clear hK K; refine norm_ (a' := ?_) ?_ ?_
              rotate_left
              · show Act.put _ (some 5) _ = _
                simp only [Act.put, sA_, sB_, sC_, i64_w, i32_w]; rfl
              exact norm_ (by first | (simp only [putAll, Act.put, sA_, sB_, sC_]; done) | (simp only [putAll, Act.put, sA_, sB_, sC_]; rfl)) (hJ1_4_5 (v339, v342, gb350, gb351) _ ⟨hHeld, (by (with_reducible repeat (first | apply Kd.R_alloc | apply Kd.R_drewN | apply Kd.R_drew)); exact HO340.out), (by (with_reducible repeat (first | apply Kd.R_alloc | apply Kd.R_drewN | apply Kd.R_drew)); exact HO343.out), (by (with_reducible repeat (first | refine zB ?_ _ | refine zD ?_ | refine zC ?_ _)); exact BK336.out), (by (with_reducible repeat (first | refine zB ?_ _ | refine zD ?_ | refine zC ?_ _)); exact BK350.out), (by (with_reducible repeat (first | refine zB ?_ _ | refine zD ?_ | refine zC ?_ _)); exact BK351.out), GW350.out, GE350.out, NB336_350.out, NB350_336.out, NB351_350.out, NB350_351.out, GW351.out, GE351.out, NB336_351.out, NB351_336.out, (by repeat (first | (with_reducible first | exact HB.out | apply zI | apply zE | apply zH | refine zF ?_ GE336.out | refine zF ?_ GE351.out | refine zF ?_ GE350.out) | exact HB.out))⟩)
            skip
            rintro ⟨v339, v342, gb350⟩ w16 ⟨hS_, h0_, h1_, h2_, h3_, h4_, h5_, h6_, h7_, h8_⟩
            have n0_ : zA (Kd.R k61 61 w16 w.heap.size (fun _ => True) v339 t338) := ⟨h0_⟩
            have n1_ : zA (Kd.R (Kd.int .u8) 43 w16 w.heap.size (fun _ => True) v342 t341) := ⟨h1_⟩
            have n2_ : zA (w16.heap[gb336]? = some (.cells #[.int .u8 a1_0, .int .u8 a1_1, .int .u8 a1_2, .int .u16 a1_3, .int .u16 a1_4, .float .f64 a1_5] 26 (0, 0))) := ⟨h2_⟩
            have n3_ : zA (w16.heap[gb350]? = some (.cells #[.slice none 0 0, .slice none 0 0] 31 (0, 0))) := ⟨h3_⟩
            have n4_ : zA (w.heap.size ≤ gb350) := ⟨h4_⟩
            have n5_ : zA (w.heap.size ≤ gb350) := ⟨h5_⟩
            have n6_ : zA (gb336 ≠ gb350) := ⟨h6_⟩
            have n7_ : zA (gb350 ≠ gb336) := ⟨h7_⟩
            have n8_ : zA (Below w.heap.size w w16) := ⟨h8_⟩
            clear BK336 HB h0_ h1_ h2_ h3_ h4_ h5_ h6_ h7_ h8_; have HO340 := n0_; have HO343 := n1_; have BK336 := n2_; have BK350 := n3_; have GW350 := n4_; have GE350 := n5_; have NB336_350 := n6_; have NB350_336 := n7_; have HB := n8_; clear n0_ n1_ n2_ n3_ n4_ n5_ n6_ n7_ n8_; have hHeld : w16.cell? ⟨gb336, 0, none⟩ = some (.int .u8 a1_0) ∧ w16.cell? ⟨gb336, 1, none⟩ = some (.int .u8 a1_1) ∧ w16.cell? ⟨gb336, 2, none⟩ = some (.int .u8 a1_2) ∧ w16.cell? ⟨gb336, 3, none⟩ = some (.int .u16 a1_3) ∧ w16.cell? ⟨gb336, 4, none⟩ = some (.int .u16 a1_4) ∧ w16.cell? ⟨gb336, 5, none⟩ = some (.float .f64 a1_5) := hS_
            refine norm_ (a' := ?_) ?_ ?_
            rotate_left
            · simp only [putAll, Act.put, sA_, sB_, sC_]
              rfl
            refine two_ (i := 3) (j := 5) (Ni := some 18) (Nj := some 6) #[true, true, true, true, true, false, false, false] #[true, true, true, false, true, true, false, false] rfl rfl rfl rfl (two_of HT_.out (by kernel_rfl)) (by decide) (by decide) (fun K hK => ?_) (fun K hK => ?_)
            · skip
              refine goes_ Try.func14 (by kernel_rfl) rfl #[.agg #[.int .u8 a1_0, .int .u8 a1_1, .int .u8 a1_2, .int .u16 a1_3, .int .u16 a1_4, .float .f64 a1_5]] (by rfl) rfl rfl (by (try simp only [List.map_toArray, List.map_cons, List.map_nil]); first | done | rfl | (simp only [List.length_drop, List.length_take]; rfl)) ?_
              with_reducible refine (stanzahand03_Config.calls a1_0 a1_1 a1_2 a1_3 a1_4 a1_5 t344 t345 t346 t347 t348 t349 _ A9.out).mono ?_
              rintro e w17 ⟨rfl, hb⟩
              refine ⟨_, rfl, ?_⟩
              have n0_ := zA.mk (Kd.R_below (by (with_reducible repeat (first | apply Kd.R_alloc | apply Kd.R_drewN | apply Kd.R_drew)); exact HO340.out) hb)
              have n1_ := zA.mk (Kd.R_below (by (with_reducible repeat (first | apply Kd.R_alloc | apply Kd.R_drewN | apply Kd.R_drew)); exact HO343.out) hb)
              have n2_ := zA.mk (zL (g := gb336) (o := .cells #[.int .u8 a1_0, .int .u8 a1_1, .int .u8 a1_2, .int .u16 a1_3, .int .u16 a1_4, .float .f64 a1_5] 26 (0, 0)) (by (with_reducible repeat (first | refine zB ?_ _ | refine zD ?_ | refine zC ?_ _)); exact BK336.out) hb)
              have n3_ := zA.mk (zL (g := gb350) (o := .cells #[.slice none 0 0, .slice none 0 0] 31 (0, 0)) (by (with_reducible repeat (first | refine zB ?_ _ | refine zD ?_ | refine zC ?_ _)); exact BK350.out) hb)
              have n4_ := zA.mk (zM (by repeat (first | (with_reducible first | exact HB.out | apply zI | apply zE | apply zH | refine zF ?_ GE336.out | refine zF ?_ GE350.out) | exact HB.out)) hb)
              clear HO340 HO343 BK336 BK350 HB; have HO340 := n0_; have HO343 := n1_; have BK336 := n2_; have BK350 := n3_; have HB := n4_; clear n0_ n1_ n2_ n3_ n4_; (try clear hb)
              (try clear hb2)
              (try clear hk)
              (try clear hi)
              refine hK.out _ _ ⟨(zG BK336.out 0).trans rfl, (zG BK336.out 1).trans rfl, (zG BK336.out 2).trans rfl, (zG BK336.out 3).trans rfl, (zG BK336.out 4).trans rfl, (zG BK336.out 5).trans rfl⟩ (fun hHeld => ?_)
              clear hK K; refine norm_ (a' := ?_) ?_ ?_
              rotate_left
              · show Act.put _ (some 18) _ = _
                simp only [Act.put, sA_, sB_, sC_, i64_w, i32_w]; rfl
              exact norm_ (by first | (simp only [putAll, Act.put, sA_, sB_, sC_]; done) | (simp only [putAll, Act.put, sA_, sB_, sC_]; rfl)) (hJ1_3_4 (v339, v342, gb350) _ ⟨hHeld, (by (with_reducible repeat (first | apply Kd.R_alloc | apply Kd.R_drewN | apply Kd.R_drew)); exact HO340.out), (by (with_reducible repeat (first | apply Kd.R_alloc | apply Kd.R_drewN | apply Kd.R_drew)); exact HO343.out), (by (with_reducible repeat (first | refine zB ?_ _ | refine zD ?_ | refine zC ?_ _)); exact BK336.out), (by (with_reducible repeat (first | refine zB ?_ _ | refine zD ?_ | refine zC ?_ _)); exact BK350.out), GW350.out, GE350.out, NB336_350.out, NB350_336.out, (by repeat (first | (with_reducible first | exact HB.out | apply zI | apply zE | apply zH | refine zF ?_ GE336.out | refine zF ?_ GE350.out) | exact HB.out))⟩)
            skip
            refine box_step ?hg (N := 6) ?hd (cs := #[.int .i64 0, .int .i64 0, .int .u8 0, .int .i64 0, .int .i64 0, .float .f64 0]) (t := 35) ?hr ?_; (case hd => rfl); (case hg => rfl); (case hr => first | (go_simp; done) | (go_simp; rfl))
            intro gb351 hg w17 hbox hb
            have n0_ := zA.mk (Kd.R_below (by (with_reducible repeat (first | apply Kd.R_alloc | apply Kd.R_drewN | apply Kd.R_drew)); exact HO340.out) hb)
            have n1_ := zA.mk (Kd.R_below (by (with_reducible repeat (first | apply Kd.R_alloc | apply Kd.R_drewN | apply Kd.R_drew)); exact HO343.out) hb)
            have n2_ := zA.mk (zL (g := gb336) (o := .cells #[.int .u8 a1_0, .int .u8 a1_1, .int .u8 a1_2, .int .u16 a1_3, .int .u16 a1_4, .float .f64 a1_5] 26 (0, 0)) (by (with_reducible repeat (first | refine zB ?_ _ | refine zD ?_ | refine zC ?_ _)); exact BK336.out) hb)
            have n3_ := zA.mk (zL (g := gb350) (o := .cells #[.slice none 0 0, .slice none 0 0] 31 (0, 0)) (by (with_reducible repeat (first | refine zB ?_ _ | refine zD ?_ | refine zC ?_ _)); exact BK350.out) hb)
            have n4_ := zA.mk (zM (by repeat (first | (with_reducible first | exact HB.out | apply zI | apply zE | apply zH | refine zF ?_ GE336.out | refine zF ?_ GE350.out) | exact HB.out)) hb)
            have n5_ := zA.mk (hbox); have n6_ := zA.mk ((by rw [hg]; exact (zK (by repeat (first | (with_reducible first | exact HB.out | apply zI | apply zE | apply zH | refine zF ?_ GE336.out | refine zF ?_ GE350.out) | exact HB.out))) : w.heap.size ≤ gb351))
            have n7_ := zA.mk ((by rw [hg]; exact (zK (by repeat (first | (with_reducible first | exact HB.out | apply zI | apply zE | apply zH | refine zF ?_ GE336.out | refine zF ?_ GE350.out) | exact HB.out))) : w.heap.size ≤ gb351))
            have n8_ := zA.mk ((by rw [hg]; exact Nat.ne_of_lt (blk_lt (g := gb336) (o := .cells #[.int .u8 a1_0, .int .u8 a1_1, .int .u8 a1_2, .int .u16 a1_3, .int .u16 a1_4, .float .f64 a1_5] 26 (0, 0)) (by (with_reducible repeat (first | refine zB ?_ _ | refine zD ?_ | refine zC ?_ _)); exact BK336.out)) : gb336 ≠ gb351))
            have n9_ := zA.mk ((by rw [hg]; exact Nat.ne_of_gt (blk_lt (g := gb336) (o := .cells #[.int .u8 a1_0, .int .u8 a1_1, .int .u8 a1_2, .int .u16 a1_3, .int .u16 a1_4, .float .f64 a1_5] 26 (0, 0)) (by (with_reducible repeat (first | refine zB ?_ _ | refine zD ?_ | refine zC ?_ _)); exact BK336.out)) : gb351 ≠ gb336))
            have n10_ := zA.mk ((by rw [hg]; exact Nat.ne_of_lt (blk_lt (g := gb350) (o := .cells #[.slice none 0 0, .slice none 0 0] 31 (0, 0)) (by (with_reducible repeat (first | refine zB ?_ _ | refine zD ?_ | refine zC ?_ _)); exact BK350.out)) : gb350 ≠ gb351))
            have n11_ := zA.mk ((by rw [hg]; exact Nat.ne_of_gt (blk_lt (g := gb350) (o := .cells #[.slice none 0 0, .slice none 0 0] 31 (0, 0)) (by (with_reducible repeat (first | refine zB ?_ _ | refine zD ?_ | refine zC ?_ _)); exact BK350.out)) : gb351 ≠ gb350))
            clear HO340 HO343 BK336 BK350 HB; have HO340 := n0_; have HO343 := n1_; have BK336 := n2_; have BK350 := n3_; have HB := n4_; have BK351 := n5_; have GW351 := n6_; have GE351 := n7_; have NB336_351 := n8_; have NB351_336 := n9_; have NB350_351 := n10_; have NB351_350 := n11_; clear n0_ n1_ n2_ n3_ n4_ n5_ n6_ n7_ n8_ n9_ n10_ n11_; clear hb hbox hg; refine hK.out _ _ ⟨(zG BK336.out 0).trans rfl, (zG BK336.out 1).trans rfl, (zG BK336.out 2).trans rfl, (zG BK336.out 3).trans rfl, (zG BK336.out 4).trans rfl, (zG BK336.out 5).trans rfl⟩ (fun hHeld => ?_)
            clear hK K; refine norm_ (a' := ?_) ?_ ?_
            rotate_left
            · show Act.put _ (some 6) _ = _
              simp only [Act.put, sA_, sB_, sC_, i64_w, i32_w]; rfl
            exact norm_ (by first | (simp only [putAll, Act.put, sA_, sB_, sC_]; done) | (simp only [putAll, Act.put, sA_, sB_, sC_]; rfl)) (hJ1_4_5 (v339, v342, gb350, gb351) _ ⟨hHeld, (by (with_reducible repeat (first | apply Kd.R_alloc | apply Kd.R_drewN | apply Kd.R_drew)); exact HO340.out), (by (with_reducible repeat (first | apply Kd.R_alloc | apply Kd.R_drewN | apply Kd.R_drew)); exact HO343.out), (by (with_reducible repeat (first | refine zB ?_ _ | refine zD ?_ | refine zC ?_ _)); exact BK336.out), (by (with_reducible repeat (first | refine zB ?_ _ | refine zD ?_ | refine zC ?_ _)); exact BK350.out), (by (with_reducible repeat (first | refine zB ?_ _ | refine zD ?_ | refine zC ?_ _)); exact BK351.out), GW350.out, GE350.out, NB336_350.out, NB350_336.out, NB351_350.out, NB350_351.out, GW351.out, GE351.out, NB336_351.out, NB351_336.out, (by repeat (first | (with_reducible first | exact HB.out | apply zI | apply zE | apply zH | refine zF ?_ GE336.out | refine zF ?_ GE350.out | refine zF ?_ GE351.out) | exact HB.out))⟩)
          skip
          rintro ⟨v339, v342⟩ w16 ⟨hS_, h0_, h1_, h2_, h3_⟩
          have n0_ : zA (Kd.R k61 61 w16 w.heap.size (fun _ => True) v339 t338) := ⟨h0_⟩
          have n1_ : zA (Kd.R (Kd.int .u8) 43 w16 w.heap.size (fun _ => True) v342 t341) := ⟨h1_⟩
          have n2_ : zA (w16.heap[gb336]? = some (.cells #[.int .u8 a1_0, .int .u8 a1_1, .int .u8 a1_2, .int .u16 a1_3, .int .u16 a1_4, .float .f64 a1_5] 26 (0, 0))) := ⟨h2_⟩
          have n3_ : zA (Below w.heap.size w w16) := ⟨h3_⟩
          clear BK336 HB h0_ h1_ h2_ h3_; have HO340 := n0_; have HO343 := n1_; have BK336 := n2_; have HB := n3_; clear n0_ n1_ n2_ n3_; have hHeld : w16.cell? ⟨gb336, 0, none⟩ = some (.int .u8 a1_0) ∧ w16.cell? ⟨gb336, 1, none⟩ = some (.int .u8 a1_1) ∧ w16.cell? ⟨gb336, 2, none⟩ = some (.int .u8 a1_2) ∧ w16.cell? ⟨gb336, 3, none⟩ = some (.int .u16 a1_3) ∧ w16.cell? ⟨gb336, 4, none⟩ = some (.int .u16 a1_4) ∧ w16.cell? ⟨gb336, 5, none⟩ = some (.float .f64 a1_5) := hS_
          refine norm_ (a' := ?_) ?_ ?_
          rotate_left
          · simp only [putAll, Act.put, sA_, sB_, sC_]
            rfl
          refine two_ (i := 4) (j := 5) (Ni := some 5) (Nj := some 6) #[true, true, true, true, true, false, false, false] #[true, true, true, true, false, true, false, false] rfl rfl rfl rfl (two_of HT_.out (by kernel_rfl)) (by decide) (by decide) (fun K hK => ?_) (fun K hK => ?_)
          · skip
            refine box_step ?hg (N := 5) ?hd (cs := #[.slice none 0 0, .slice none 0 0]) (t := 31) ?hr ?_; (case hd => rfl); (case hg => rfl); (case hr => first | (go_simp; done) | (go_simp; rfl))
            intro gb350 hg w17 hbox hb
            have n0_ := zA.mk (Kd.R_below (by (with_reducible repeat (first | apply Kd.R_alloc | apply Kd.R_drewN | apply Kd.R_drew)); exact HO340.out) hb)
            have n1_ := zA.mk (Kd.R_below (by (with_reducible repeat (first | apply Kd.R_alloc | apply Kd.R_drewN | apply Kd.R_drew)); exact HO343.out) hb)
            have n2_ := zA.mk (zL (g := gb336) (o := .cells #[.int .u8 a1_0, .int .u8 a1_1, .int .u8 a1_2, .int .u16 a1_3, .int .u16 a1_4, .float .f64 a1_5] 26 (0, 0)) (by (with_reducible repeat (first | refine zB ?_ _ | refine zD ?_ | refine zC ?_ _)); exact BK336.out) hb)
            have n3_ := zA.mk (zM (by repeat (first | (with_reducible first | exact HB.out | apply zI | apply zE | apply zH | refine zF ?_ GE336.out) | exact HB.out)) hb)
            have n4_ := zA.mk (hbox); have n5_ := zA.mk ((by rw [hg]; exact (zK (by repeat (first | (with_reducible first | exact HB.out | apply zI | apply zE | apply zH | refine zF ?_ GE336.out) | exact HB.out))) : w.heap.size ≤ gb350))
            have n6_ := zA.mk ((by rw [hg]; exact (zK (by repeat (first | (with_reducible first | exact HB.out | apply zI | apply zE | apply zH | refine zF ?_ GE336.out) | exact HB.out))) : w.heap.size ≤ gb350))
            have n7_ := zA.mk ((by rw [hg]; exact Nat.ne_of_lt (blk_lt (g := gb336) (o := .cells #[.int .u8 a1_0, .int .u8 a1_1, .int .u8 a1_2, .int .u16 a1_3, .int .u16 a1_4, .float .f64 a1_5] 26 (0, 0)) (by (with_reducible repeat (first | refine zB ?_ _ | refine zD ?_ | refine zC ?_ _)); exact BK336.out)) : gb336 ≠ gb350))
            have n8_ := zA.mk ((by rw [hg]; exact Nat.ne_of_gt (blk_lt (g := gb336) (o := .cells #[.int .u8 a1_0, .int .u8 a1_1, .int .u8 a1_2, .int .u16 a1_3, .int .u16 a1_4, .float .f64 a1_5] 26 (0, 0)) (by (with_reducible repeat (first | refine zB ?_ _ | refine zD ?_ | refine zC ?_ _)); exact BK336.out)) : gb350 ≠ gb336))
            clear HO340 HO343 BK336 HB; have HO340 := n0_; have HO343 := n1_; have BK336 := n2_; have HB := n3_; have BK350 := n4_; have GW350 := n5_; have GE350 := n6_; have NB336_350 := n7_; have NB350_336 := n8_; clear n0_ n1_ n2_ n3_ n4_ n5_ n6_ n7_ n8_; clear hb hbox hg; refine hK.out _ _ ⟨(zG BK336.out 0).trans rfl, (zG BK336.out 1).trans rfl, (zG BK336.out 2).trans rfl, (zG BK336.out 3).trans rfl, (zG BK336.out 4).trans rfl, (zG BK336.out 5).trans rfl⟩ (fun hHeld => ?_)
            clear hK K; refine norm_ (a' := ?_) ?_ ?_
            rotate_left
            · show Act.put _ (some 5) _ = _
              simp only [Act.put, sA_, sB_, sC_, i64_w, i32_w]; rfl
            exact norm_ (by first | (simp only [putAll, Act.put, sA_, sB_, sC_]; done) | (simp only [putAll, Act.put, sA_, sB_, sC_]; rfl)) (hJ1_3_4 (v339, v342, gb350) _ ⟨hHeld, (by (with_reducible repeat (first | apply Kd.R_alloc | apply Kd.R_drewN | apply Kd.R_drew)); exact HO340.out), (by (with_reducible repeat (first | apply Kd.R_alloc | apply Kd.R_drewN | apply Kd.R_drew)); exact HO343.out), (by (with_reducible repeat (first | refine zB ?_ _ | refine zD ?_ | refine zC ?_ _)); exact BK336.out), (by (with_reducible repeat (first | refine zB ?_ _ | refine zD ?_ | refine zC ?_ _)); exact BK350.out), GW350.out, GE350.out, NB336_350.out, NB350_336.out, (by repeat (first | (with_reducible first | exact HB.out | apply zI | apply zE | apply zH | refine zF ?_ GE336.out | refine zF ?_ GE350.out) | exact HB.out))⟩)
          skip
          refine box_step ?hg (N := 6) ?hd (cs := #[.int .i64 0, .int .i64 0, .int .u8 0, .int .i64 0, .int .i64 0, .float .f64 0]) (t := 35) ?hr ?_; (case hd => rfl); (case hg => rfl); (case hr => first | (go_simp; done) | (go_simp; rfl))
          intro gb351 hg w17 hbox hb
          have n0_ := zA.mk (Kd.R_below (by (with_reducible repeat (first | apply Kd.R_alloc | apply Kd.R_drewN | apply Kd.R_drew)); exact HO340.out) hb)
          have n1_ := zA.mk (Kd.R_below (by (with_reducible repeat (first | apply Kd.R_alloc | apply Kd.R_drewN | apply Kd.R_drew)); exact HO343.out) hb)
          have n2_ := zA.mk (zL (g := gb336) (o := .cells #[.int .u8 a1_0, .int .u8 a1_1, .int .u8 a1_2, .int .u16 a1_3, .int .u16 a1_4, .float .f64 a1_5] 26 (0, 0)) (by (with_reducible repeat (first | refine zB ?_ _ | refine zD ?_ | refine zC ?_ _)); exact BK336.out) hb)
          have n3_ := zA.mk (zM (by repeat (first | (with_reducible first | exact HB.out | apply zI | apply zE | apply zH | refine zF ?_ GE336.out) | exact HB.out)) hb)
          have n4_ := zA.mk (hbox); have n5_ := zA.mk ((by rw [hg]; exact (zK (by repeat (first | (with_reducible first | exact HB.out | apply zI | apply zE | apply zH | refine zF ?_ GE336.out) | exact HB.out))) : w.heap.size ≤ gb351))
          have n6_ := zA.mk ((by rw [hg]; exact (zK (by repeat (first | (with_reducible first | exact HB.out | apply zI | apply zE | apply zH | refine zF ?_ GE336.out) | exact HB.out))) : w.heap.size ≤ gb351))
          have n7_ := zA.mk ((by rw [hg]; exact Nat.ne_of_lt (blk_lt (g := gb336) (o := .cells #[.int .u8 a1_0, .int .u8 a1_1, .int .u8 a1_2, .int .u16 a1_3, .int .u16 a1_4, .float .f64 a1_5] 26 (0, 0)) (by (with_reducible repeat (first | refine zB ?_ _ | refine zD ?_ | refine zC ?_ _)); exact BK336.out)) : gb336 ≠ gb351))
          have n8_ := zA.mk ((by rw [hg]; exact Nat.ne_of_gt (blk_lt (g := gb336) (o := .cells #[.int .u8 a1_0, .int .u8 a1_1, .int .u8 a1_2, .int .u16 a1_3, .int .u16 a1_4, .float .f64 a1_5] 26 (0, 0)) (by (with_reducible repeat (first | refine zB ?_ _ | refine zD ?_ | refine zC ?_ _)); exact BK336.out)) : gb351 ≠ gb336))
          clear HO340 HO343 BK336 HB; have HO340 := n0_; have HO343 := n1_; have BK336 := n2_; have HB := n3_; have BK351 := n4_; have GW351 := n5_; have GE351 := n6_; have NB336_351 := n7_; have NB351_336 := n8_; clear n0_ n1_ n2_ n3_ n4_ n5_ n6_ n7_ n8_; clear hb hbox hg; refine hK.out _ _ ⟨(zG BK336.out 0).trans rfl, (zG BK336.out 1).trans rfl, (zG BK336.out 2).trans rfl, (zG BK336.out 3).trans rfl, (zG BK336.out 4).trans rfl, (zG BK336.out 5).trans rfl⟩ (fun hHeld => ?_)
          clear hK K; refine norm_ (a' := ?_) ?_ ?_
          rotate_left
          · show Act.put _ (some 6) _ = _
            simp only [Act.put, sA_, sB_, sC_, i64_w, i32_w]; rfl
          exact norm_ (by first | (simp only [putAll, Act.put, sA_, sB_, sC_]; done) | (simp only [putAll, Act.put, sA_, sB_, sC_]; rfl)) (hJ1_3_5 (v339, v342, gb351) _ ⟨hHeld, (by (with_reducible repeat (first | apply Kd.R_alloc | apply Kd.R_drewN | apply Kd.R_drew)); exact HO340.out), (by (with_reducible repeat (first | apply Kd.R_alloc | apply Kd.R_drewN | apply Kd.R_drew)); exact HO343.out), (by (with_reducible repeat (first | refine zB ?_ _ | refine zD ?_ | refine zC ?_ _)); exact BK336.out), (by (with_reducible repeat (first | refine zB ?_ _ | refine zD ?_ | refine zC ?_ _)); exact BK351.out), GW351.out, GE351.out, NB336_351.out, NB351_336.out, (by repeat (first | (with_reducible first | exact HB.out | apply zI | apply zE | apply zH | refine zF ?_ GE336.out | refine zF ?_ GE351.out) | exact HB.out))⟩)
        skip
        rintro ⟨v339, v342, gb350, gb351⟩ w17 ⟨hS_, h0_, h1_, h2_, h3_, h4_, h5_, h6_, h7_, h8_, h9_, h10_, h11_, h12_, h13_, h14_, h15_⟩
        have n0_ : zA (Kd.R k61 61 w17 w.heap.size (fun _ => True) v339 t338) := ⟨h0_⟩
        have n1_ : zA (Kd.R (Kd.int .u8) 43 w17 w.heap.size (fun _ => True) v342 t341) := ⟨h1_⟩
        have n2_ : zA (w17.heap[gb336]? = some (.cells #[.int .u8 a1_0, .int .u8 a1_1, .int .u8 a1_2, .int .u16 a1_3, .int .u16 a1_4, .float .f64 a1_5] 26 (0, 0))) := ⟨h2_⟩
        have n3_ : zA (w17.heap[gb350]? = some (.cells #[.slice none 0 0, .slice none 0 0] 31 (0, 0))) := ⟨h3_⟩
        have n4_ : zA (w17.heap[gb351]? = some (.cells #[.int .i64 0, .int .i64 0, .int .u8 0, .int .i64 0, .int .i64 0, .float .f64 0] 35 (0, 0))) := ⟨h4_⟩
        have n5_ : zA (w.heap.size ≤ gb350) := ⟨h5_⟩
        have n6_ : zA (w.heap.size ≤ gb350) := ⟨h6_⟩
        have n7_ : zA (gb336 ≠ gb350) := ⟨h7_⟩
        have n8_ : zA (gb350 ≠ gb336) := ⟨h8_⟩
        have n9_ : zA (gb351 ≠ gb350) := ⟨h9_⟩
        have n10_ : zA (gb350 ≠ gb351) := ⟨h10_⟩
        have n11_ : zA (w.heap.size ≤ gb351) := ⟨h11_⟩
        have n12_ : zA (w.heap.size ≤ gb351) := ⟨h12_⟩
        have n13_ : zA (gb336 ≠ gb351) := ⟨h13_⟩
        have n14_ : zA (gb351 ≠ gb336) := ⟨h14_⟩
        have n15_ : zA (Below w.heap.size w w17) := ⟨h15_⟩
        clear BK336 HB h0_ h1_ h2_ h3_ h4_ h5_ h6_ h7_ h8_ h9_ h10_ h11_ h12_ h13_ h14_ h15_; have HO340 := n0_; have HO343 := n1_; have BK336 := n2_; have BK350 := n3_; have BK351 := n4_; have GW350 := n5_; have GE350 := n6_; have NB336_350 := n7_; have NB350_336 := n8_; have NB351_350 := n9_; have NB350_351 := n10_; have GW351 := n11_; have GE351 := n12_; have NB336_351 := n13_; have NB351_336 := n14_; have HB := n15_; clear n0_ n1_ n2_ n3_ n4_ n5_ n6_ n7_ n8_ n9_ n10_ n11_ n12_ n13_ n14_ n15_; have hHeld : w17.cell? ⟨gb336, 0, none⟩ = some (.int .u8 a1_0) ∧ w17.cell? ⟨gb336, 1, none⟩ = some (.int .u8 a1_1) ∧ w17.cell? ⟨gb336, 2, none⟩ = some (.int .u8 a1_2) ∧ w17.cell? ⟨gb336, 3, none⟩ = some (.int .u16 a1_3) ∧ w17.cell? ⟨gb336, 4, none⟩ = some (.int .u16 a1_4) ∧ w17.cell? ⟨gb336, 5, none⟩ = some (.float .f64 a1_5) := hS_
        refine norm_ (a' := ?_) ?_ ?_
        rotate_left
        · simp only [putAll, Act.put, sA_, sB_, sC_]
          rfl
        refine one_ (i := 3) (N := some 18) #[true, true, true, true, true, true, false, false] rfl rfl (one_of HT_.out (by kernel_rfl)) (by decide) (fun K hK => ?_)
        refine goes_ Try.func14 (by kernel_rfl) rfl #[.agg #[.int .u8 a1_0, .int .u8 a1_1, .int .u8 a1_2, .int .u16 a1_3, .int .u16 a1_4, .float .f64 a1_5]] (by rfl) rfl rfl (by (try simp only [List.map_toArray, List.map_cons, List.map_nil]); first | done | rfl | (simp only [List.length_drop, List.length_take]; rfl)) ?_
        with_reducible refine (stanzahand03_Config.calls a1_0 a1_1 a1_2 a1_3 a1_4 a1_5 t344 t345 t346 t347 t348 t349 _ A9.out).mono ?_
        rintro e w18 ⟨rfl, hb⟩
        refine ⟨_, rfl, ?_⟩
        have n0_ := zA.mk (Kd.R_below (by (with_reducible repeat (first | apply Kd.R_alloc | apply Kd.R_drewN | apply Kd.R_drew)); exact HO340.out) hb)
        have n1_ := zA.mk (Kd.R_below (by (with_reducible repeat (first | apply Kd.R_alloc | apply Kd.R_drewN | apply Kd.R_drew)); exact HO343.out) hb)
        have n2_ := zA.mk (zL (g := gb336) (o := .cells #[.int .u8 a1_0, .int .u8 a1_1, .int .u8 a1_2, .int .u16 a1_3, .int .u16 a1_4, .float .f64 a1_5] 26 (0, 0)) (by (with_reducible repeat (first | refine zB ?_ _ | refine zD ?_ | refine zC ?_ _)); exact BK336.out) hb)
        have n3_ := zA.mk (zL (g := gb350) (o := .cells #[.slice none 0 0, .slice none 0 0] 31 (0, 0)) (by (with_reducible repeat (first | refine zB ?_ _ | refine zD ?_ | refine zC ?_ _)); exact BK350.out) hb)
        have n4_ := zA.mk (zL (g := gb351) (o := .cells #[.int .i64 0, .int .i64 0, .int .u8 0, .int .i64 0, .int .i64 0, .float .f64 0] 35 (0, 0)) (by (with_reducible repeat (first | refine zB ?_ _ | refine zD ?_ | refine zC ?_ _)); exact BK351.out) hb)
        have n5_ := zA.mk (zM (by repeat (first | (with_reducible first | exact HB.out | apply zI | apply zE | apply zH | refine zF ?_ GE336.out | refine zF ?_ GE350.out | refine zF ?_ GE351.out) | exact HB.out)) hb)
        clear HO340 HO343 BK336 BK350 BK351 HB; have HO340 := n0_; have HO343 := n1_; have BK336 := n2_; have BK350 := n3_; have BK351 := n4_; have HB := n5_; clear n0_ n1_ n2_ n3_ n4_ n5_; (try clear hb)
        (try clear hb2)
        (try clear hk)
        (try clear hi)
        refine hK.out _ _ ⟨(zG BK336.out 0).trans rfl, (zG BK336.out 1).trans rfl, (zG BK336.out 2).trans rfl, (zG BK336.out 3).trans rfl, (zG BK336.out 4).trans rfl, (zG BK336.out 5).trans rfl⟩ (fun hHeld => ?_)
        clear hK K; refine norm_ (a' := ?_) ?_ ?_
        rotate_left
        · show Act.put _ (some 18) _ = _
          simp only [Act.put, sA_, sB_, sC_, i64_w, i32_w]; rfl
        exact norm_ (by first | (simp only [putAll, Act.put, sA_, sB_, sC_]; done) | (simp only [putAll, Act.put, sA_, sB_, sC_]; rfl)) (hJ1_3_4_5 (v339, v342, gb350, gb351) _ ⟨hHeld, (by (with_reducible repeat (first | apply Kd.R_alloc | apply Kd.R_drewN | apply Kd.R_drew)); exact HO340.out), (by (with_reducible repeat (first | apply Kd.R_alloc | apply Kd.R_drewN | apply Kd.R_drew)); exact HO343.out), (by (with_reducible repeat (first | refine zB ?_ _ | refine zD ?_ | refine zC ?_ _)); exact BK336.out), (by (with_reducible repeat (first | refine zB ?_ _ | refine zD ?_ | refine zC ?_ _)); exact BK350.out), (by (with_reducible repeat (first | refine zB ?_ _ | refine zD ?_ | refine zC ?_ _)); exact BK351.out), GW350.out, GE350.out, NB336_350.out, NB350_336.out, NB351_350.out, NB350_351.out, GW351.out, GE351.out, NB336_351.out, NB351_336.out, (by repeat (first | (with_reducible first | exact HB.out | apply zI | apply zE | apply zH | refine zF ?_ GE336.out | refine zF ?_ GE350.out | refine zF ?_ GE351.out) | exact HB.out))⟩)
      skip
      rintro ⟨v339, v342, gb351⟩ w17 ⟨hS_, h0_, h1_, h2_, h3_, h4_, h5_, h6_, h7_, h8_⟩
      have n0_ : zA (Kd.R k61 61 w17 w.heap.size (fun _ => True) v339 t338) := ⟨h0_⟩
      have n1_ : zA (Kd.R (Kd.int .u8) 43 w17 w.heap.size (fun _ => True) v342 t341) := ⟨h1_⟩
      have n2_ : zA (w17.heap[gb336]? = some (.cells #[.int .u8 a1_0, .int .u8 a1_1, .int .u8 a1_2, .int .u16 a1_3, .int .u16 a1_4, .float .f64 a1_5] 26 (0, 0))) := ⟨h2_⟩
      have n3_ : zA (w17.heap[gb351]? = some (.cells #[.int .i64 0, .int .i64 0, .int .u8 0, .int .i64 0, .int .i64 0, .float .f64 0] 35 (0, 0))) := ⟨h3_⟩
      have n4_ : zA (w.heap.size ≤ gb351) := ⟨h4_⟩
      have n5_ : zA (w.heap.size ≤ gb351) := ⟨h5_⟩
      have n6_ : zA (gb336 ≠ gb351) := ⟨h6_⟩
      have n7_ : zA (gb351 ≠ gb336) := ⟨h7_⟩
      have n8_ : zA (Below w.heap.size w w17) := ⟨h8_⟩
      clear BK336 HB h0_ h1_ h2_ h3_ h4_ h5_ h6_ h7_ h8_; have HO340 := n0_; have HO343 := n1_; have BK336 := n2_; have BK351 := n3_; have GW351 := n4_; have GE351 := n5_; have NB336_351 := n6_; have NB351_336 := n7_; have HB := n8_; clear n0_ n1_ n2_ n3_ n4_ n5_ n6_ n7_ n8_; have hHeld : w17.cell? ⟨gb336, 0, none⟩ = some (.int .u8 a1_0) ∧ w17.cell? ⟨gb336, 1, none⟩ = some (.int .u8 a1_1) ∧ w17.cell? ⟨gb336, 2, none⟩ = some (.int .u8 a1_2) ∧ w17.cell? ⟨gb336, 3, none⟩ = some (.int .u16 a1_3) ∧ w17.cell? ⟨gb336, 4, none⟩ = some (.int .u16 a1_4) ∧ w17.cell? ⟨gb336, 5, none⟩ = some (.float .f64 a1_5) := hS_
      refine norm_ (a' := ?_) ?_ ?_
      rotate_left
      · simp only [putAll, Act.put, sA_, sB_, sC_]
        rfl
      refine one_ (i := 4) (N := some 5) #[true, true, true, true, true, true, false, false] rfl rfl (one_of HT_.out (by kernel_rfl)) (by decide) (fun K hK => ?_)
      refine box_step ?hg (N := 5) ?hd (cs := #[.slice none 0 0, .slice none 0 0]) (t := 31) ?hr ?_; (case hd => rfl); (case hg => rfl); (case hr => first | (go_simp; done) | (go_simp; rfl))
      intro gb350 hg w18 hbox hb
      have n0_ := zA.mk (Kd.R_below (by (with_reducible repeat (first | apply Kd.R_alloc | apply Kd.R_drewN | apply Kd.R_drew)); exact HO340.out) hb)
      have n1_ := zA.mk (Kd.R_below (by (with_reducible repeat (first | apply Kd.R_alloc | apply Kd.R_drewN | apply Kd.R_drew)); exact HO343.out) hb)
      have n2_ := zA.mk (zL (g := gb336) (o := .cells #[.int .u8 a1_0, .int .u8 a1_1, .int .u8 a1_2, .int .u16 a1_3, .int .u16 a1_4, .float .f64 a1_5] 26 (0, 0)) (by (with_reducible repeat (first | refine zB ?_ _ | refine zD ?_ | refine zC ?_ _)); exact BK336.out) hb)
      have n3_ := zA.mk (zL (g := gb351) (o := .cells #[.int .i64 0, .int .i64 0, .int .u8 0, .int .i64 0, .int .i64 0, .float .f64 0] 35 (0, 0)) (by (with_reducible repeat (first | refine zB ?_ _ | refine zD ?_ | refine zC ?_ _)); exact BK351.out) hb)
      have n4_ := zA.mk (zM (by repeat (first | (with_reducible first | exact HB.out | apply zI | apply zE | apply zH | refine zF ?_ GE336.out | refine zF ?_ GE351.out) | exact HB.out)) hb)
      have n5_ := zA.mk (hbox); have n6_ := zA.mk ((by rw [hg]; exact (zK (by repeat (first | (with_reducible first | exact HB.out | apply zI | apply zE | apply zH | refine zF ?_ GE336.out | refine zF ?_ GE351.out) | exact HB.out))) : w.heap.size ≤ gb350))
      have n7_ := zA.mk ((by rw [hg]; exact (zK (by repeat (first | (with_reducible first | exact HB.out | apply zI | apply zE | apply zH | refine zF ?_ GE336.out | refine zF ?_ GE351.out) | exact HB.out))) : w.heap.size ≤ gb350))
      have n8_ := zA.mk ((by rw [hg]; exact Nat.ne_of_lt (blk_lt (g := gb336) (o := .cells #[.int .u8 a1_0, .int .u8 a1_1, .int .u8 a1_2, .int .u16 a1_3, .int .u16 a1_4, .float .f64 a1_5] 26 (0, 0)) (by (with_reducible repeat (first | refine zB ?_ _ | refine zD ?_ | refine zC ?_ _)); exact BK336.out)) : gb336 ≠ gb350))
      have n9_ := zA.mk ((by rw [hg]; exact Nat.ne_of_gt (blk_lt (g := gb336) (o := .cells #[.int .u8 a1_0, .int .u8 a1_1, .int .u8 a1_2, .int .u16 a1_3, .int .u16 a1_4, .float .f64 a1_5] 26 (0, 0)) (by (with_reducible repeat (first | refine zB ?_ _ | refine zD ?_ | refine zC ?_ _)); exact BK336.out)) : gb350 ≠ gb336))
      have n10_ := zA.mk ((by rw [hg]; exact Nat.ne_of_lt (blk_lt (g := gb351) (o := .cells #[.int .i64 0, .int .i64 0, .int .u8 0, .int .i64 0, .int .i64 0, .float .f64 0] 35 (0, 0)) (by (with_reducible repeat (first | refine zB ?_ _ | refine zD ?_ | refine zC ?_ _)); exact BK351.out)) : gb351 ≠ gb350))
      have n11_ := zA.mk ((by rw [hg]; exact Nat.ne_of_gt (blk_lt (g := gb351) (o := .cells #[.int .i64 0, .int .i64 0, .int .u8 0, .int .i64 0, .int .i64 0, .float .f64 0] 35 (0, 0)) (by (with_reducible repeat (first | refine zB ?_ _ | refine zD ?_ | refine zC ?_ _)); exact BK351.out)) : gb350 ≠ gb351))
      clear HO340 HO343 BK336 BK351 HB; have HO340 := n0_; have HO343 := n1_; have BK336 := n2_; have BK351 := n3_; have HB := n4_; have BK350 := n5_; have GW350 := n6_; have GE350 := n7_; have NB336_350 := n8_; have NB350_336 := n9_; have NB351_350 := n10_; have NB350_351 := n11_; clear n0_ n1_ n2_ n3_ n4_ n5_ n6_ n7_ n8_ n9_ n10_ n11_; clear hb hbox hg; refine hK.out _ _ ⟨(zG BK336.out 0).trans rfl, (zG BK336.out 1).trans rfl, (zG BK336.out 2).trans rfl, (zG BK336.out 3).trans rfl, (zG BK336.out 4).trans rfl, (zG BK336.out 5).trans rfl⟩ (fun hHeld => ?_)
      clear hK K; refine norm_ (a' := ?_) ?_ ?_
      rotate_left
      · show Act.put _ (some 5) _ = _
        simp only [Act.put, sA_, sB_, sC_, i64_w, i32_w]; rfl
      exact norm_ (by first | (simp only [putAll, Act.put, sA_, sB_, sC_]; done) | (simp only [putAll, Act.put, sA_, sB_, sC_]; rfl)) (hJ1_3_4_5 (v339, v342, gb350, gb351) _ ⟨hHeld, (by (with_reducible repeat (first | apply Kd.R_alloc | apply Kd.R_drewN | apply Kd.R_drew)); exact HO340.out), (by (with_reducible repeat (first | apply Kd.R_alloc | apply Kd.R_drewN | apply Kd.R_drew)); exact HO343.out), (by (with_reducible repeat (first | refine zB ?_ _ | refine zD ?_ | refine zC ?_ _)); exact BK336.out), (by (with_reducible repeat (first | refine zB ?_ _ | refine zD ?_ | refine zC ?_ _)); exact BK350.out), (by (with_reducible repeat (first | refine zB ?_ _ | refine zD ?_ | refine zC ?_ _)); exact BK351.out), GW350.out, GE350.out, NB336_350.out, NB350_336.out, NB351_350.out, NB350_351.out, GW351.out, GE351.out, NB336_351.out, NB351_336.out, (by repeat (first | (with_reducible first | exact HB.out | apply zI | apply zE | apply zH | refine zF ?_ GE336.out | refine zF ?_ GE351.out | refine zF ?_ GE350.out) | exact HB.out))⟩)
    skip
    rintro ⟨v339, v342, gb350⟩ w17 ⟨hS_, h0_, h1_, h2_, h3_, h4_, h5_, h6_, h7_, h8_⟩
    have n0_ : zA (Kd.R k61 61 w17 w.heap.size (fun _ => True) v339 t338) := ⟨h0_⟩
    have n1_ : zA (Kd.R (Kd.int .u8) 43 w17 w.heap.size (fun _ => True) v342 t341) := ⟨h1_⟩
    have n2_ : zA (w17.heap[gb336]? = some (.cells #[.int .u8 a1_0, .int .u8 a1_1, .int .u8 a1_2, .int .u16 a1_3, .int .u16 a1_4, .float .f64 a1_5] 26 (0, 0))) := ⟨h2_⟩
    have n3_ : zA (w17.heap[gb350]? = some (.cells #[.slice none 0 0, .slice none 0 0] 31 (0, 0))) := ⟨h3_⟩
    have n4_ : zA (w.heap.size ≤ gb350) := ⟨h4_⟩
    have n5_ : zA (w.heap.size ≤ gb350) := ⟨h5_⟩
    have n6_ : zA (gb336 ≠ gb350) := ⟨h6_⟩
    have n7_ : zA (gb350 ≠ gb336) := ⟨h7_⟩
    have n8_ : zA (Below w.heap.size w w17) := ⟨h8_⟩
    clear BK336 HB h0_ h1_ h2_ h3_ h4_ h5_ h6_ h7_ h8_; have HO340 := n0_; have HO343 := n1_; have BK336 := n2_; have BK350 := n3_; have GW350 := n4_; have GE350 := n5_; have NB336_350 := n6_; have NB350_336 := n7_; have HB := n8_; clear n0_ n1_ n2_ n3_ n4_ n5_ n6_ n7_ n8_; have hHeld : w17.cell? ⟨gb336, 0, none⟩ = some (.int .u8 a1_0) ∧ w17.cell? ⟨gb336, 1, none⟩ = some (.int .u8 a1_1) ∧ w17.cell? ⟨gb336, 2, none⟩ = some (.int .u8 a1_2) ∧ w17.cell? ⟨gb336, 3, none⟩ = some (.int .u16 a1_3) ∧ w17.cell? ⟨gb336, 4, none⟩ = some (.int .u16 a1_4) ∧ w17.cell? ⟨gb336, 5, none⟩ = some (.float .f64 a1_5) := hS_
    refine norm_ (a' := ?_) ?_ ?_
    rotate_left
    · simp only [putAll, Act.put, sA_, sB_, sC_]
      rfl
    refine one_ (i := 5) (N := some 6) #[true, true, true, true, true, true, false, false] rfl rfl (one_of HT_.out (by kernel_rfl)) (by decide) (fun K hK => ?_)
    refine box_step ?hg (N := 6) ?hd (cs := #[.int .i64 0, .int .i64 0, .int .u8 0, .int .i64 0, .int .i64 0, .float .f64 0]) (t := 35) ?hr ?_; (case hd => rfl); (case hg => rfl); (case hr => first | (go_simp; done) | (go_simp; rfl))
    intro gb351 hg w18 hbox hb
    have n0_ := zA.mk (Kd.R_below (by (with_reducible repeat (first | apply Kd.R_alloc | apply Kd.R_drewN | apply Kd.R_drew)); exact HO340.out) hb)
    have n1_ := zA.mk (Kd.R_below (by (with_reducible repeat (first | apply Kd.R_alloc | apply Kd.R_drewN | apply Kd.R_drew)); exact HO343.out) hb)
    have n2_ := zA.mk (zL (g := gb336) (o := .cells #[.int .u8 a1_0, .int .u8 a1_1, .int .u8 a1_2, .int .u16 a1_3, .int .u16 a1_4, .float .f64 a1_5] 26 (0, 0)) (by (with_reducible repeat (first | refine zB ?_ _ | refine zD ?_ | refine zC ?_ _)); exact BK336.out) hb)
    have n3_ := zA.mk (zL (g := gb350) (o := .cells #[.slice none 0 0, .slice none 0 0] 31 (0, 0)) (by (with_reducible repeat (first | refine zB ?_ _ | refine zD ?_ | refine zC ?_ _)); exact BK350.out) hb)
    have n4_ := zA.mk (zM (by repeat (first | (with_reducible first | exact HB.out | apply zI | apply zE | apply zH | refine zF ?_ GE336.out | refine zF ?_ GE350.out) | exact HB.out)) hb)
    have n5_ := zA.mk (hbox); have n6_ := zA.mk ((by rw [hg]; exact (zK (by repeat (first | (with_reducible first | exact HB.out | apply zI | apply zE | apply zH | refine zF ?_ GE336.out | refine zF ?_ GE350.out) | exact HB.out))) : w.heap.size ≤ gb351))
    have n7_ := zA.mk ((by rw [hg]; exact (zK (by repeat (first | (with_reducible first | exact HB.out | apply zI | apply zE | apply zH | refine zF ?_ GE336.out | refine zF ?_ GE350.out) | exact HB.out))) : w.heap.size ≤ gb351))
    have n8_ := zA.mk ((by rw [hg]; exact Nat.ne_of_lt (blk_lt (g := gb336) (o := .cells #[.int .u8 a1_0, .int .u8 a1_1, .int .u8 a1_2, .int .u16 a1_3, .int .u16 a1_4, .float .f64 a1_5] 26 (0, 0)) (by (with_reducible repeat (first | refine zB ?_ _ | refine zD ?_ | refine zC ?_ _)); exact BK336.out)) : gb336 ≠ gb351))
    have n9_ := zA.mk ((by rw [hg]; exact Nat.ne_of_gt (blk_lt (g := gb336) (o := .cells #[.int .u8 a1_0, .int .u8 a1_1, .int .u8 a1_2, .int .u16 a1_3, .int .u16 a1_4, .float .f64 a1_5] 26 (0, 0)) (by (with_reducible repeat (first | refine zB ?_ _ | refine zD ?_ | refine zC ?_ _)); exact BK336.out)) : gb351 ≠ gb336))
    have n10_ := zA.mk ((by rw [hg]; exact Nat.ne_of_lt (blk_lt (g := gb350) (o := .cells #[.slice none 0 0, .slice none 0 0] 31 (0, 0)) (by (with_reducible repeat (first | refine zB ?_ _ | refine zD ?_ | refine zC ?_ _)); exact BK350.out)) : gb350 ≠ gb351))
    have n11_ := zA.mk ((by rw [hg]; exact Nat.ne_of_gt (blk_lt (g := gb350) (o := .cells #[.slice none 0 0, .slice none 0 0] 31 (0, 0)) (by (with_reducible repeat (first | refine zB ?_ _ | refine zD ?_ | refine zC ?_ _)); exact BK350.out)) : gb351 ≠ gb350))
    clear HO340 HO343 BK336 BK350 HB; have HO340 := n0_; have HO343 := n1_; have BK336 := n2_; have BK350 := n3_; have HB := n4_; have BK351 := n5_; have GW351 := n6_; have GE351 := n7_; have NB336_351 := n8_; have NB351_336 := n9_; have NB350_351 := n10_; have NB351_350 := n11_; clear n0_ n1_ n2_ n3_ n4_ n5_ n6_ n7_ n8_ n9_ n10_ n11_; clear hb hbox hg; refine hK.out _ _ ⟨(zG BK336.out 0).trans rfl, (zG BK336.out 1).trans rfl, (zG BK336.out 2).trans rfl, (zG BK336.out 3).trans rfl, (zG BK336.out 4).trans rfl, (zG BK336.out 5).trans rfl⟩ (fun hHeld => ?_)
    clear hK K; refine norm_ (a' := ?_) ?_ ?_
    rotate_left
    · show Act.put _ (some 6) _ = _
      simp only [Act.put, sA_, sB_, sC_, i64_w, i32_w]; rfl
    exact norm_ (by first | (simp only [putAll, Act.put, sA_, sB_, sC_]; done) | (simp only [putAll, Act.put, sA_, sB_, sC_]; rfl)) (hJ1_3_4_5 (v339, v342, gb350, gb351) _ ⟨hHeld, (by (with_reducible repeat (first | apply Kd.R_alloc | apply Kd.R_drewN | apply Kd.R_drew)); exact HO340.out), (by (with_reducible repeat (first | apply Kd.R_alloc | apply Kd.R_drewN | apply Kd.R_drew)); exact HO343.out), (by (with_reducible repeat (first | refine zB ?_ _ | refine zD ?_ | refine zC ?_ _)); exact BK336.out), (by (with_reducible repeat (first | refine zB ?_ _ | refine zD ?_ | refine zC ?_ _)); exact BK350.out), (by (with_reducible repeat (first | refine zB ?_ _ | refine zD ?_ | refine zC ?_ _)); exact BK351.out), GW350.out, GE350.out, NB336_350.out, NB350_336.out, NB351_350.out, NB350_351.out, GW351.out, GE351.out, NB336_351.out, NB351_336.out, (by repeat (first | (with_reducible first | exact HB.out | apply zI | apply zE | apply zH | refine zF ?_ GE336.out | refine zF ?_ GE350.out | refine zF ?_ GE351.out) | exact HB.out))⟩)
  rintro ⟨v339, v342, gb350, gb351⟩ w18 ⟨hS_, h0_, h1_, h2_, h3_, h4_, h5_, h6_, h7_, h8_, h9_, h10_, h11_, h12_, h13_, h14_, h15_⟩
  have n0_ : zA (Kd.R k61 61 w18 w.heap.size (fun _ => True) v339 t338) := ⟨h0_⟩
  have n1_ : zA (Kd.R (Kd.int .u8) 43 w18 w.heap.size (fun _ => True) v342 t341) := ⟨h1_⟩
  have n2_ : zA (w18.heap[gb336]? = some (.cells #[.int .u8 a1_0, .int .u8 a1_1, .int .u8 a1_2, .int .u16 a1_3, .int .u16 a1_4, .float .f64 a1_5] 26 (0, 0))) := ⟨h2_⟩
  have n3_ : zA (w18.heap[gb350]? = some (.cells #[.slice none 0 0, .slice none 0 0] 31 (0, 0))) := ⟨h3_⟩
  have n4_ : zA (w18.heap[gb351]? = some (.cells #[.int .i64 0, .int .i64 0, .int .u8 0, .int .i64 0, .int .i64 0, .float .f64 0] 35 (0, 0))) := ⟨h4_⟩
  have n5_ : zA (w.heap.size ≤ gb350) := ⟨h5_⟩
  have n6_ : zA (w.heap.size ≤ gb350) := ⟨h6_⟩
  have n7_ : zA (gb336 ≠ gb350) := ⟨h7_⟩
  have n8_ : zA (gb350 ≠ gb336) := ⟨h8_⟩
  have n9_ : zA (gb351 ≠ gb350) := ⟨h9_⟩
  have n10_ : zA (gb350 ≠ gb351) := ⟨h10_⟩
  have n11_ : zA (w.heap.size ≤ gb351) := ⟨h11_⟩
  have n12_ : zA (w.heap.size ≤ gb351) := ⟨h12_⟩
  have n13_ : zA (gb336 ≠ gb351) := ⟨h13_⟩
  have n14_ : zA (gb351 ≠ gb336) := ⟨h14_⟩
  have n15_ : zA (Below w.heap.size w w18) := ⟨h15_⟩
  clear BK336 HB h0_ h1_ h2_ h3_ h4_ h5_ h6_ h7_ h8_ h9_ h10_ h11_ h12_ h13_ h14_ h15_; have HO340 := n0_; have HO343 := n1_; have BK336 := n2_; have BK350 := n3_; have BK351 := n4_; have GW350 := n5_; have GE350 := n6_; have NB336_350 := n7_; have NB350_336 := n8_; have NB351_350 := n9_; have NB350_351 := n10_; have GW351 := n11_; have GE351 := n12_; have NB336_351 := n13_; have NB351_336 := n14_; have HB := n15_; clear n0_ n1_ n2_ n3_ n4_ n5_ n6_ n7_ n8_ n9_ n10_ n11_ n12_ n13_ n14_ n15_; have hHeld : w18.cell? ⟨gb336, 0, none⟩ = some (.int .u8 a1_0) ∧ w18.cell? ⟨gb336, 1, none⟩ = some (.int .u8 a1_1) ∧ w18.cell? ⟨gb336, 2, none⟩ = some (.int .u8 a1_2) ∧ w18.cell? ⟨gb336, 3, none⟩ = some (.int .u16 a1_3) ∧ w18.cell? ⟨gb336, 4, none⟩ = some (.int .u16 a1_4) ∧ w18.cell? ⟨gb336, 5, none⟩ = some (.float .f64 a1_5) := hS_
  obtain ⟨Ao19, co19, eo19⟩ := Kd.R_slice HO340.out; (first | subst eo19 | (injection eo19 with f1_ f2_ f3_; have f4_ := f1_.symm; have f5_ := f3_.symm; clear f1_ f2_ f3_; subst f4_; subst f5_))
  obtain ⟨Ao21, co21, eo21⟩ := Kd.R_slice HO343.out; (first | subst eo21 | (injection eo21 with f1_ f2_ f3_; have f4_ := f1_.symm; have f5_ := f3_.symm; clear f1_ f2_ f3_; subst f4_; subst f5_))
  refine norm_ (a' := ?_) ?_ ?_
  rotate_left
  · simp only [putAll, Act.put, sA_, sB_, sC_]
    rfl
  refine one_ (i := 6) (N := none) #[true, true, true, true, true, true, true, false] rfl rfl (one_of HT_.out (by kernel_rfl)) (by decide) (fun K hK => ?_)
  have hs20 : w18.cell? ⟨gb350, 0, none⟩ = some (.slice none 0 0) := (zG BK350.out 0).trans rfl
  have hfs20 := zJ BK350.out 0; have hns20_0 := NB336_350.out; have hns20_2 := NB351_350.out; have hms20_0 := NB350_336.out; have hms20_2 := NB350_351.out; have hs22 : w18.cell? ⟨gb350, 1, none⟩ = some (.slice none 0 0) := (zG BK350.out 1).trans rfl
  have hfs22 := zJ BK350.out 1; have hns22_0 := NB336_350.out; have hns22_2 := NB351_350.out; have hms22_0 := NB350_336.out; have hms22_2 := NB350_351.out; refine skip_ (w1 := ?_) (by rfl) rfl ?_ ?_
  rotate_left
  · go_simp
    rfl
  refine hK.out _ _ ⟨((cell_far (p := ⟨gb350, _, none⟩) NB336_350.out _).trans (((cell_far (p := ⟨gb350, _, none⟩) NB336_350.out _).trans (hHeld.1)))), ((cell_far (p := ⟨gb350, _, none⟩) NB336_350.out _).trans (((cell_far (p := ⟨gb350, _, none⟩) NB336_350.out _).trans (hHeld.2.1)))), ((cell_far (p := ⟨gb350, _, none⟩) NB336_350.out _).trans (((cell_far (p := ⟨gb350, _, none⟩) NB336_350.out _).trans (hHeld.2.2.1)))), ((cell_far (p := ⟨gb350, _, none⟩) NB336_350.out _).trans (((cell_far (p := ⟨gb350, _, none⟩) NB336_350.out _).trans (hHeld.2.2.2.1)))), ((cell_far (p := ⟨gb350, _, none⟩) NB336_350.out _).trans (((cell_far (p := ⟨gb350, _, none⟩) NB336_350.out _).trans (hHeld.2.2.2.2.1)))), ((cell_far (p := ⟨gb350, _, none⟩) NB336_350.out _).trans (((cell_far (p := ⟨gb350, _, none⟩) NB336_350.out _).trans (hHeld.2.2.2.2.2))))⟩ (fun hHeld => ?_)
  clear hK K; refine one_ (i := 7) (N := none) #[true, true, true, true, true, true, true, true] rfl rfl (one_of HT_.out (by kernel_rfl)) (by decide) (fun K hK => ?_)
  have hs23 : w18.cell? ⟨gb351, 0, none⟩ = some (.int .i64 0) := (zG BK351.out 0).trans rfl
  have hfs23 := zJ BK351.out 0; have hns23_0 := NB336_351.out; have hns23_1 := NB350_351.out; have hms23_0 := NB351_336.out; have hms23_1 := NB351_350.out; have hs24 : w18.cell? ⟨gb351, 1, none⟩ = some (.int .i64 0) := (zG BK351.out 1).trans rfl
  have hfs24 := zJ BK351.out 1; have hns24_0 := NB336_351.out; have hns24_1 := NB350_351.out; have hms24_0 := NB351_336.out; have hms24_1 := NB351_350.out; have hs25 : w18.cell? ⟨gb351, 2, none⟩ = some (.int .u8 0) := (zG BK351.out 2).trans rfl
  have hfs25 := zJ BK351.out 2; have hns25_0 := NB336_351.out; have hns25_1 := NB350_351.out; have hms25_0 := NB351_336.out; have hms25_1 := NB351_350.out; have hs26 : w18.cell? ⟨gb351, 3, none⟩ = some (.int .i64 0) := (zG BK351.out 3).trans rfl
  have hfs26 := zJ BK351.out 3; have hns26_0 := NB336_351.out; have hns26_1 := NB350_351.out; have hms26_0 := NB351_336.out; have hms26_1 := NB351_350.out; have hs27 : w18.cell? ⟨gb351, 4, none⟩ = some (.int .i64 0) := (zG BK351.out 4).trans rfl
  have hfs27 := zJ BK351.out 4; have hns27_0 := NB336_351.out; have hns27_1 := NB350_351.out; have hms27_0 := NB351_336.out; have hms27_1 := NB351_350.out; have hs28 : w18.cell? ⟨gb351, 5, none⟩ = some (.float .f64 0) := (zG BK351.out 5).trans rfl
  have hfs28 := zJ BK351.out 5; have hns28_0 := NB336_351.out; have hns28_1 := NB350_351.out; have hms28_0 := NB351_336.out; have hms28_1 := NB351_350.out; refine skip_ (w1 := ?_) (by rfl) rfl ?_ ?_
  rotate_left
  · go_simp
    rfl
  refine hK.out _ _ ⟨((cell_far (p := ⟨gb351, _, none⟩) NB336_351.out _).trans (((cell_far (p := ⟨gb351, _, none⟩) NB336_351.out _).trans (((cell_far (p := ⟨gb351, _, none⟩) NB336_351.out _).trans (((cell_far (p := ⟨gb351, _, none⟩) NB336_351.out _).trans (((cell_far (p := ⟨gb351, _, none⟩) NB336_351.out _).trans (((cell_far (p := ⟨gb351, _, none⟩) NB336_351.out _).trans (hHeld.1)))))))))))), ((cell_far (p := ⟨gb351, _, none⟩) NB336_351.out _).trans (((cell_far (p := ⟨gb351, _, none⟩) NB336_351.out _).trans (((cell_far (p := ⟨gb351, _, none⟩) NB336_351.out _).trans (((cell_far (p := ⟨gb351, _, none⟩) NB336_351.out _).trans (((cell_far (p := ⟨gb351, _, none⟩) NB336_351.out _).trans (((cell_far (p := ⟨gb351, _, none⟩) NB336_351.out _).trans (hHeld.2.1)))))))))))), ((cell_far (p := ⟨gb351, _, none⟩) NB336_351.out _).trans (((cell_far (p := ⟨gb351, _, none⟩) NB336_351.out _).trans (((cell_far (p := ⟨gb351, _, none⟩) NB336_351.out _).trans (((cell_far (p := ⟨gb351, _, none⟩) NB336_351.out _).trans (((cell_far (p := ⟨gb351, _, none⟩) NB336_351.out _).trans (((cell_far (p := ⟨gb351, _, none⟩) NB336_351.out _).trans (hHeld.2.2.1)))))))))))), ((cell_far (p := ⟨gb351, _, none⟩) NB336_351.out _).trans (((cell_far (p := ⟨gb351, _, none⟩) NB336_351.out _).trans (((cell_far (p := ⟨gb351, _, none⟩) NB336_351.out _).trans (((cell_far (p := ⟨gb351, _, none⟩) NB336_351.out _).trans (((cell_far (p := ⟨gb351, _, none⟩) NB336_351.out _).trans (((cell_far (p := ⟨gb351, _, none⟩) NB336_351.out _).trans (hHeld.2.2.2.1)))))))))))), ((cell_far (p := ⟨gb351, _, none⟩) NB336_351.out _).trans (((cell_far (p := ⟨gb351, _, none⟩) NB336_351.out _).trans (((cell_far (p := ⟨gb351, _, none⟩) NB336_351.out _).trans (((cell_far (p := ⟨gb351, _, none⟩) NB336_351.out _).trans (((cell_far (p := ⟨gb351, _, none⟩) NB336_351.out _).trans (((cell_far (p := ⟨gb351, _, none⟩) NB336_351.out _).trans (hHeld.2.2.2.2.1)))))))))))), ((cell_far (p := ⟨gb351, _, none⟩) NB336_351.out _).trans (((cell_far (p := ⟨gb351, _, none⟩) NB336_351.out _).trans (((cell_far (p := ⟨gb351, _, none⟩) NB336_351.out _).trans (((cell_far (p := ⟨gb351, _, none⟩) NB336_351.out _).trans (((cell_far (p := ⟨gb351, _, none⟩) NB336_351.out _).trans (((cell_far (p := ⟨gb351, _, none⟩) NB336_351.out _).trans (hHeld.2.2.2.2.2))))))))))))⟩ (fun hHeld => ?_)
  clear hK K; refine done_ (done_of HT_.out (by kernel_rfl)) ?_
  have hnb29 := NB350_336.out; have hnc29 := NB336_350.out; have hnb30 := NB350_351.out; have hnc30 := NB351_350.out; have hcz31_0 : w18.cell? ⟨gb350, 0, none⟩ = some (.slice none 0 0) := (zG BK350.out 0).trans rfl
  have hcz31_1 : w18.cell? ⟨gb350, 1, none⟩ = some (.slice none 0 0) := (zG BK350.out 1).trans rfl
  have hfz31_0 := zJ BK350.out 0; have hfz31_1 := zJ BK350.out 1; try go_wp2_with (first | ((with_reducible refine gate_callee (f := 15) rfl ?_); refine goesL_ (some 20) rfl rfl Try.func15 (by kernel_rfl) rfl #[.agg #[.slice Ao19 t338.length co19, .slice Ao21 t341.length co21]] rfl (by (try simp only [List.map_toArray, List.map_cons, List.map_nil]); first | done | rfl | (simp only [List.length_drop, List.length_take]; rfl)) ?_; (with_reducible refine (stanzaref10_Parts.calls k _ _ t338 _ _ t341 t352 _ ?side1 ?side2 ?side3 ?side4 A10.out).mono ?_); (case side1 => refine (Kd.R_reads' (e := 61) (base := w.heap.size) (ok := fun k_ => True) (n := t338.length) (c := co19) ?_).2.2; exact (by (with_reducible repeat (first | apply Kd.R_alloc | apply Kd.R_drewN | apply Kd.R_drew)); exact (Kd.R_mono (Kd.R_mono (Kd.R_far (p := ⟨gb351, 5, none⟩) (Kd.R_far (p := ⟨gb351, 4, none⟩) (Kd.R_far (p := ⟨gb351, 3, none⟩) (Kd.R_far (p := ⟨gb351, 2, none⟩) (Kd.R_far (p := ⟨gb351, 1, none⟩) (Kd.R_far (p := ⟨gb351, 0, none⟩) (Kd.R_far (p := ⟨gb350, 1, none⟩) (Kd.R_far (p := ⟨gb350, 0, none⟩) (Kd.R_types (Kd.R_types HO340.out BK350.out (by decide)) BK351.out (by decide)) (fun _ hk => hk.1.2) (.slice Ao19 t338.length co19)) (fun _ hk => hk.1.2) (.slice Ao21 t341.length co21)) (fun _ hk => hk.2) (.int .i64 t344)) (fun _ hk => hk.2) (.int .i64 t345)) (fun _ hk => hk.2) (.int .u8 t346)) (fun _ hk => hk.2) (.int .i64 t347)) (fun _ hk => hk.2) (.int .i64 t348)) (fun _ hk => hk.2) (.float .f64 t349)) (fun _ h_ => h_.1)) (fun _ h_ => h_.1)))); (case side2 => exact (Kd.R_reads' HO340.out).2.1); (case side3 => refine (Kd.R_reads' (e := 43) (base := w.heap.size) (ok := fun k_ => True) (n := t341.length) (c := co21) ?_).2.2; exact (by (with_reducible repeat (first | apply Kd.R_alloc | apply Kd.R_drewN | apply Kd.R_drew)); exact (Kd.R_mono (Kd.R_mono (Kd.R_far (p := ⟨gb351, 5, none⟩) (Kd.R_far (p := ⟨gb351, 4, none⟩) (Kd.R_far (p := ⟨gb351, 3, none⟩) (Kd.R_far (p := ⟨gb351, 2, none⟩) (Kd.R_far (p := ⟨gb351, 1, none⟩) (Kd.R_far (p := ⟨gb351, 0, none⟩) (Kd.R_far (p := ⟨gb350, 1, none⟩) (Kd.R_far (p := ⟨gb350, 0, none⟩) (Kd.R_types (Kd.R_types HO343.out BK350.out (by decide)) BK351.out (by decide)) (fun _ hk => hk.1.2) (.slice Ao19 t338.length co19)) (fun _ hk => hk.1.2) (.slice Ao21 t341.length co21)) (fun _ hk => hk.2) (.int .i64 t344)) (fun _ hk => hk.2) (.int .i64 t345)) (fun _ hk => hk.2) (.int .u8 t346)) (fun _ hk => hk.2) (.int .i64 t347)) (fun _ hk => hk.2) (.int .i64 t348)) (fun _ hk => hk.2) (.float .f64 t349)) (fun _ h_ => h_.1)) (fun _ h_ => h_.1)))); (case side4 => exact (Kd.R_reads' HO343.out).2.1); rintro e w32 ⟨v353, rfl, ho0, hb⟩; refine ⟨_, rfl, ?_⟩; have n0_ := zA.mk (Kd.R_below (by (with_reducible repeat (first | apply Kd.R_alloc | apply Kd.R_drewN | apply Kd.R_drew)); exact (Kd.R_mono (Kd.R_mono (Kd.R_far (p := ⟨gb351, 5, none⟩) (Kd.R_far (p := ⟨gb351, 4, none⟩) (Kd.R_far (p := ⟨gb351, 3, none⟩) (Kd.R_far (p := ⟨gb351, 2, none⟩) (Kd.R_far (p := ⟨gb351, 1, none⟩) (Kd.R_far (p := ⟨gb351, 0, none⟩) (Kd.R_far (p := ⟨gb350, 1, none⟩) (Kd.R_far (p := ⟨gb350, 0, none⟩) (Kd.R_types (Kd.R_types HO340.out BK350.out (by decide)) BK351.out (by decide)) (fun _ hk => hk.1.2) (.slice Ao19 t338.length co19)) (fun _ hk => hk.1.2) (.slice Ao21 t341.length co21)) (fun _ hk => hk.2) (.int .i64 t344)) (fun _ hk => hk.2) (.int .i64 t345)) (fun _ hk => hk.2) (.int .u8 t346)) (fun _ hk => hk.2) (.int .i64 t347)) (fun _ hk => hk.2) (.int .i64 t348)) (fun _ hk => hk.2) (.float .f64 t349)) (fun _ h_ => h_.1)) (fun _ h_ => h_.1))) hb); have n1_ := zA.mk (Kd.R_below (by (with_reducible repeat (first | apply Kd.R_alloc | apply Kd.R_drewN | apply Kd.R_drew)); exact (Kd.R_mono (Kd.R_mono (Kd.R_far (p := ⟨gb351, 5, none⟩) (Kd.R_far (p := ⟨gb351, 4, none⟩) (Kd.R_far (p := ⟨gb351, 3, none⟩) (Kd.R_far (p := ⟨gb351, 2, none⟩) (Kd.R_far (p := ⟨gb351, 1, none⟩) (Kd.R_far (p := ⟨gb351, 0, none⟩) (Kd.R_far (p := ⟨gb350, 1, none⟩) (Kd.R_far (p := ⟨gb350, 0, none⟩) (Kd.R_types (Kd.R_types HO343.out BK350.out (by decide)) BK351.out (by decide)) (fun _ hk => hk.1.2) (.slice Ao19 t338.length co19)) (fun _ hk => hk.1.2) (.slice Ao21 t341.length co21)) (fun _ hk => hk.2) (.int .i64 t344)) (fun _ hk => hk.2) (.int .i64 t345)) (fun _ hk => hk.2) (.int .u8 t346)) (fun _ hk => hk.2) (.int .i64 t347)) (fun _ hk => hk.2) (.int .i64 t348)) (fun _ hk => hk.2) (.float .f64 t349)) (fun _ h_ => h_.1)) (fun _ h_ => h_.1))) hb); have n2_ := zA.mk (Kd.R_lower ho0 (zK (by repeat (first | (with_reducible first | exact HB.out | apply zI | apply zE | apply zH | refine zF ?_ GE336.out | refine zF ?_ GE350.out | refine zF ?_ GE351.out) | exact HB.out)))); have n3_ := zA.mk (zL (g := gb336) (o := .cells #[.int .u8 a1_0, .int .u8 a1_1, .int .u8 a1_2, .int .u16 a1_3, .int .u16 a1_4, .float .f64 a1_5] 26 (0, 0)) (by (with_reducible repeat (first | refine zB ?_ _ | refine zD ?_ | refine zC ?_ _)); refine blk_far ?_ NB336_351.out _; (with_reducible repeat (first | refine zB ?_ _ | refine zD ?_ | refine zC ?_ _)); refine blk_far ?_ NB336_351.out _; (with_reducible repeat (first | refine zB ?_ _ | refine zD ?_ | refine zC ?_ _)); refine blk_far ?_ NB336_351.out _; (with_reducible repeat (first | refine zB ?_ _ | refine zD ?_ | refine zC ?_ _)); refine blk_far ?_ NB336_351.out _; (with_reducible repeat (first | refine zB ?_ _ | refine zD ?_ | refine zC ?_ _)); refine blk_far ?_ NB336_351.out _; (with_reducible repeat (first | refine zB ?_ _ | refine zD ?_ | refine zC ?_ _)); refine blk_far ?_ NB336_351.out _; (with_reducible repeat (first | refine zB ?_ _ | refine zD ?_ | refine zC ?_ _)); refine blk_far ?_ NB336_350.out _; (with_reducible repeat (first | refine zB ?_ _ | refine zD ?_ | refine zC ?_ _)); refine blk_far ?_ NB336_350.out _; (with_reducible repeat (first | refine zB ?_ _ | refine zD ?_ | refine zC ?_ _)); exact BK336.out) hb); have n4_ := zA.mk (zL (g := gb350) (o := .cells #[.slice Ao19 t338.length co19, .slice Ao21 t341.length co21] 31 (0, 0)) (by (with_reducible repeat (first | refine zB ?_ _ | refine zD ?_ | refine zC ?_ _)); refine blk_far ?_ NB350_351.out _; (with_reducible repeat (first | refine zB ?_ _ | refine zD ?_ | refine zC ?_ _)); refine blk_far ?_ NB350_351.out _; (with_reducible repeat (first | refine zB ?_ _ | refine zD ?_ | refine zC ?_ _)); refine blk_far ?_ NB350_351.out _; (with_reducible repeat (first | refine zB ?_ _ | refine zD ?_ | refine zC ?_ _)); refine blk_far ?_ NB350_351.out _; (with_reducible repeat (first | refine zB ?_ _ | refine zD ?_ | refine zC ?_ _)); refine blk_far ?_ NB350_351.out _; (with_reducible repeat (first | refine zB ?_ _ | refine zD ?_ | refine zC ?_ _)); refine blk_far ?_ NB350_351.out _; (with_reducible repeat (first | refine zB ?_ _ | refine zD ?_ | refine zC ?_ _)); refine blk_put (cs := #[.slice Ao19 t338.length co19, .slice none 0 0]) ?_ 1 _ rfl; (with_reducible repeat (first | refine zB ?_ _ | refine zD ?_ | refine zC ?_ _)); refine blk_put (cs := #[.slice none 0 0, .slice none 0 0]) ?_ 0 _ rfl; (with_reducible repeat (first | refine zB ?_ _ | refine zD ?_ | refine zC ?_ _)); exact BK350.out) hb); have n5_ := zA.mk (zL (g := gb351) (o := .cells #[.int .i64 t344, .int .i64 t345, .int .u8 t346, .int .i64 t347, .int .i64 t348, .float .f64 t349] 35 (0, 0)) (by (with_reducible repeat (first | refine zB ?_ _ | refine zD ?_ | refine zC ?_ _)); refine blk_put (cs := #[.int .i64 t344, .int .i64 t345, .int .u8 t346, .int .i64 t347, .int .i64 t348, .float .f64 0]) ?_ 5 _ rfl; (with_reducible repeat (first | refine zB ?_ _ | refine zD ?_ | refine zC ?_ _)); refine blk_put (cs := #[.int .i64 t344, .int .i64 t345, .int .u8 t346, .int .i64 t347, .int .i64 0, .float .f64 0]) ?_ 4 _ rfl; (with_reducible repeat (first | refine zB ?_ _ | refine zD ?_ | refine zC ?_ _)); refine blk_put (cs := #[.int .i64 t344, .int .i64 t345, .int .u8 t346, .int .i64 0, .int .i64 0, .float .f64 0]) ?_ 3 _ rfl; (with_reducible repeat (first | refine zB ?_ _ | refine zD ?_ | refine zC ?_ _)); refine blk_put (cs := #[.int .i64 t344, .int .i64 t345, .int .u8 0, .int .i64 0, .int .i64 0, .float .f64 0]) ?_ 2 _ rfl; (with_reducible repeat (first | refine zB ?_ _ | refine zD ?_ | refine zC ?_ _)); refine blk_put (cs := #[.int .i64 t344, .int .i64 0, .int .u8 0, .int .i64 0, .int .i64 0, .float .f64 0]) ?_ 1 _ rfl; (with_reducible repeat (first | refine zB ?_ _ | refine zD ?_ | refine zC ?_ _)); refine blk_put (cs := #[.int .i64 0, .int .i64 0, .int .u8 0, .int .i64 0, .int .i64 0, .float .f64 0]) ?_ 0 _ rfl; (with_reducible repeat (first | refine zB ?_ _ | refine zD ?_ | refine zC ?_ _)); refine blk_far ?_ NB351_350.out _; (with_reducible repeat (first | refine zB ?_ _ | refine zD ?_ | refine zC ?_ _)); refine blk_far ?_ NB351_350.out _; (with_reducible repeat (first | refine zB ?_ _ | refine zD ?_ | refine zC ?_ _)); exact BK351.out) hb); have n6_ := zA.mk (zM (by repeat (first | (with_reducible first | exact HB.out | apply zI | apply zE | apply zH | refine zF ?_ GE336.out | refine zF ?_ GE350.out | refine zF ?_ GE351.out) | exact HB.out)) hb); clear HO340; clear HO343; clear BK336; clear BK350; clear BK351; clear HB; have HO340 := n0_; have HO343 := n1_; have HO354 := n2_; have BK336 := n3_; have BK350 := n4_; have BK351 := n5_; have HB := n6_; clear n0_ n1_ n2_ n3_ n4_ n5_ n6_; (try clear hb); (try clear hb2); (try clear hk); (try clear hi); (try clear ho0); obtain ⟨Ao33, co33, eo33⟩ := Kd.R_slice HO354.out; subst eo33))
  go_loopg [7, 22] k (fun kq v7 v22 w' => ∃ (x7_1 : Int) (x22_1 : Int), v7 = .int .i64 x7_1 ∧ v22 = .int .i64 x22_1 ∧ zA (stanzalaw14_FirstBreaks.l0 kq x7_1 t352 (t352.length : Int) x22_1 t338 t341 t344 t345 t346 t347 t348 t349 = some r) ∧ zA (kq ≤ k) ∧ zA (Kd.R (Kd.int .i64) 3 w' w.heap.size (fun _ => True) (.slice Ao33 t352.length co33) t352) ∧ zA (Kd.R k61 61 w' w.heap.size (fun _ => True) (.slice Ao19 t338.length co19) t338) ∧ zA (Kd.R (Kd.int .u8) 43 w' w.heap.size (fun _ => True) (.slice Ao21 t341.length co21) t341) ∧ zA (w'.heap[gb336]? = some (.cells #[.int .u8 a1_0, .int .u8 a1_1, .int .u8 a1_2, .int .u16 a1_3, .int .u16 a1_4, .float .f64 a1_5] 26 (0, 0))) ∧ zA (w'.heap[gb350]? = some (.cells #[(.slice Ao19 t338.length co19), (.slice Ao21 t341.length co21)] 31 (0, 0))) ∧ zA (w'.heap[gb351]? = some (.cells #[.int .i64 t344, .int .i64 t345, .int .u8 t346, .int .i64 t347, .int .i64 t348, .float .f64 t349] 35 (0, 0))) ∧ zA (Below w.heap.size w w'))
  case atStart => exact ⟨(0), (0), (by first | rfl | (simp; done) | (simp [*]; done)), (by first | rfl | (simp; done) | (simp [*]; done)), H', ⟨Nat.le_refl _⟩, ⟨by (with_reducible repeat (first | apply Kd.R_alloc | apply Kd.R_drewN | apply Kd.R_drew)); exact HO354.out⟩, ⟨by (with_reducible repeat (first | apply Kd.R_alloc | apply Kd.R_drewN | apply Kd.R_drew)); exact HO340.out⟩, ⟨by (with_reducible repeat (first | apply Kd.R_alloc | apply Kd.R_drewN | apply Kd.R_drew)); exact HO343.out⟩, ⟨by (with_reducible repeat (first | refine zB ?_ _ | refine zD ?_ | refine zC ?_ _)); exact BK336.out⟩, ⟨by (with_reducible repeat (first | refine zB ?_ _ | refine zD ?_ | refine zC ?_ _)); exact BK350.out⟩, ⟨by (with_reducible repeat (first | refine zB ?_ _ | refine zD ?_ | refine zC ?_ _)); exact BK351.out⟩, ⟨by repeat (first | (with_reducible first | exact HB.out | apply zI | apply zE | apply zH | refine zF ?_ GE336.out | refine zF ?_ GE350.out | refine zF ?_ GE351.out) | exact HB.out)⟩⟩
  clear H'; try clear c1
  try clear c2
  try clear p2
  try clear c3
  try clear c14
  try clear c15
  try clear c29
  try clear c30
  try clear hcz31_0
  try clear hcz31_1
  try clear hfz31_0
  try clear hfz31_1
  obtain ⟨x7_1, x22_1, rfl, rfl, HA, HK1, HO_20, HO_351000, HO_351001, BK336, BK350, BK351, HB⟩ := hrel; cases gk with
  | zero => exact absurd HA.out (by simp [stanzalaw14_FirstBreaks.l0])
  | succ k1 =>
    have H := HA.out; clear HA; simp only [stanzalaw14_FirstBreaks.l0] at H; by_cases c34 : x22_1 < (t352.length : Int)
    rotate_left
    · rw [if_neg c34] at H
      have c34b0 : decide (x22_1 < (t352.length : Int)) = false := decide_eq_false c34
      clear c34; obtain rfl := Option.some.inj H
      go_wp2
      go_ret
      exact ⟨by first | rfl | (simp [errW_none, errW_some] <;> rfl) | (simp [*, errW_none, errW_some] <;> rfl), by repeat (first | (with_reducible first | exact HB.out | apply zI | apply zE | apply zH | refine zF ?_ GE336.out | refine zF ?_ GE350.out | refine zF ?_ GE351.out) | exact HB.out)⟩
    rw [if_pos c34] at H; have c34b0 : decide (x22_1 < (t352.length : Int)) = true := decide_eq_true c34
    clear c34; by_cases c35 : 0 ≤ x22_1
    rotate_left
    · rw [if_neg c35] at H
      exact absurd H (by simp)
    rw [if_pos c35] at H; have c35b0 : decide (0 ≤ x22_1) = true := decide_eq_true c35
    clear c35; by_cases c36 : x22_1 < (t352.length : Int)
    rotate_left
    · rw [if_neg c36] at H
      exact absurd H (by simp)
    rw [if_pos c36] at H; have c36b0 : decide (x22_1 < (t352.length : Int)) = true := decide_eq_true c36
    clear c36; replace H := Option.bind_eq_some_iff.mp H; obtain ⟨t356, A370, H⟩ := H; replace H : ((stanzaref13_First.f k1 t338 t341 x7_1 (rd t352 x22_1) t344 t345 t346 t347 t348 t349).bind fun t359 => ((stanzaref13_SameLines.f k1 t356 t359).bind fun t362 => (if t362 = true then (stanzalaw14_FirstBreaks.l0 k1 (rd t352 x22_1) t352 (t352.length : Int) (wrap64 (x22_1 + 1)) t338 t341 t344 t345 t346 t347 t348 t349) else (some false)))) = some r := H
    have A37 := zA.mk A370; clear A370; replace H := Option.bind_eq_some_iff.mp H; obtain ⟨t359, A380, H⟩ := H; replace H : ((stanzaref13_SameLines.f k1 t356 t359).bind fun t362 => (if t362 = true then (stanzalaw14_FirstBreaks.l0 k1 (rd t352 x22_1) t352 (t352.length : Int) (wrap64 (x22_1 + 1)) t338 t341 t344 t345 t346 t347 t348 t349) else (some false))) = some r := H
    have A38 := zA.mk A380; clear A380; replace H := Option.bind_eq_some_iff.mp H; obtain ⟨t362, A390, H⟩ := H; replace H : (if t362 = true then (stanzalaw14_FirstBreaks.l0 k1 (rd t352 x22_1) t352 (t352.length : Int) (wrap64 (x22_1 + 1)) t338 t341 t344 t345 t346 t347 t348 t349) else (some false)) = some r := H; have A39 := zA.mk A390; clear A390; by_cases c40 : t362 = true
    rotate_left
    · replace c40 := Bool.eq_false_iff.mpr c40
      subst c40; have H1 : (some false) = some r := by rw [if_neg (show ¬ (false = true) by decide)] at H; exact H
      clear H; have H := H1; clear H1; exact absurd ((Option.some.inj H).trans hrt_.out) (by decide)
    subst c40; have H1 : (stanzalaw14_FirstBreaks.l0 k1 (rd t352 x22_1) t352 (t352.length : Int) (wrap64 (x22_1 + 1)) t338 t341 t344 t345 t346 t347 t348 t349) = some r := by rw [if_pos rfl] at H; exact H
    clear H; have H := H1; clear H1; have H' := zA.mk H
    clear H; have p355 : 0 ≤ (x22_1 : Int) := of_decide_eq_true (by first | (with_reducible assumption) | assumption)
    have q355 : x22_1 < (t352.length : Int) := of_decide_eq_true (by first | (with_reducible assumption) | assumption)
    obtain ⟨ad355, e355, hx355_0⟩ := Kd.at_int (Kd.R_reads' HO_20.out).2.2 x22_1 p355 q355; cases e355
    replace p355 := eq_true p355; replace q355 := eq_true q355; try go_wp2
    have n0_ := zA.mk (Kd.R_drew HO_20.out); have n1_ := zA.mk (Kd.R_drew HO_351000.out); have n2_ := zA.mk (Kd.R_drew HO_351001.out); have n3_ := zA.mk (zD BK336.out); have n4_ := zA.mk (zD BK350.out); have n5_ := zA.mk (zD BK351.out); have n6_ := zA.mk (zH HB.out); clear HO_20; clear HO_351000; clear HO_351001; clear BK336; clear BK350; clear BK351; clear HB; have HO_20 := n0_; have HO_351000 := n1_; have HO_351001 := n2_; have BK336 := n3_; have BK350 := n4_; have BK351 := n5_; have HB := n6_; clear n0_ n1_ n2_ n3_ n4_ n5_ n6_; refine start_ (n := 12) (S := fun w' => w'.cell? ⟨gb350, 0, none⟩ = some (.slice Ao19 t338.length co19) ∧ w'.cell? ⟨gb350, 1, none⟩ = some (.slice Ao21 t341.length co21) ∧ w'.cell? ⟨gb351, 0, none⟩ = some (.int .i64 t344) ∧ w'.cell? ⟨gb351, 1, none⟩ = some (.int .i64 t345) ∧ w'.cell? ⟨gb351, 2, none⟩ = some (.int .u8 t346) ∧ w'.cell? ⟨gb351, 3, none⟩ = some (.int .i64 t347) ∧ w'.cell? ⟨gb351, 4, none⟩ = some (.int .i64 t348) ∧ w'.cell? ⟨gb351, 5, none⟩ = some (.float .f64 t349)) (ds := []) #[false, false, false, false, false, false, false, false, false, false, false, false] (by kernel_rfl) rfl rfl ⟨(zG BK350.out 0).trans rfl, (zG BK350.out 1).trans rfl, (zG BK351.out 0).trans rfl, (zG BK351.out 1).trans rfl, (zG BK351.out 2).trans rfl, (zG BK351.out 3).trans rfl, (zG BK351.out 4).trans rfl, (zG BK351.out 5).trans rfl⟩ (fun hHeld => ?_); refine with_tabW stanzalaw14_FirstBreaks.tab10 stanzalaw14_FirstBreaks.bits10 (fun HT_ HW_ => ?_)
    generalize wr.drew = w41 at HO_20 HO_351000 HO_351001 BK336 BK350 BK351 HB hHeld ⊢
    refine pure_ (i := 1) (N := some 27) (v := ?_) (a' := ?_) #[false, true, false, false, false, false, false, false, false, false, false, false] rfl rfl (any_of HT_.out (by kernel_rfl)) (fun _ _ _ h => h) (Or.inl ⟨by rfl, ?_⟩) ?_ ?_
    rotate_left
    · intro w'
      go_simp
      with_reducible rfl
    rotate_left
    · simp only [Act.put, sA_, sB_, sC_, i64_w, i32_w]
      rfl
    refine pure_ (i := 2) (N := some 28) (v := ?_) (a' := ?_) #[false, true, true, false, false, false, false, false, false, false, false, false] rfl rfl (any_of HT_.out (by kernel_rfl)) (fun _ _ _ h => h) (Or.inl ⟨by rfl, ?_⟩) ?_ ?_
    rotate_left
    · intro w'
      go_simp
      with_reducible rfl
    rotate_left
    · simp only [Act.put, sA_, sB_, sC_, i64_w, i32_w]
      rfl
    refine pure_ (i := 6) (N := some 32) (v := ?_) (a' := ?_) #[false, true, true, false, false, false, true, false, false, false, false, false] rfl rfl (any_of HT_.out (by kernel_rfl)) (fun _ _ _ h => h) (Or.inl ⟨by rfl, ?_⟩) ?_ ?_
    rotate_left
    · intro w'
      go_simp
      with_reducible rfl
    rotate_left
    · simp only [Act.put, sA_, sB_, sC_, i64_w, i32_w]
      rfl
    refine pure_ (i := 7) (N := some 33) (v := ?_) (a' := ?_) #[false, true, true, false, false, false, true, true, false, false, false, false] rfl rfl (any_of HT_.out (by kernel_rfl)) (fun _ _ _ h => h) (Or.inl ⟨by rfl, ?_⟩) ?_ ?_
    rotate_left
    · intro w'
      go_simp
      with_reducible rfl
    rotate_left
    · simp only [Act.put, sA_, sB_, sC_, i64_w, i32_w]
      rfl
    refine take_ (i := 0) (N := some 26) (v := ?_) (a' := ?_) #[true, true, true, false, false, false, true, true, false, false, false, false] rfl rfl (take_ofW HT_.out HW_.out (by kernel_rfl)) (fun _ _ _ h => h) (Or.inl ⟨by rfl, ?_⟩) hHeld ?_ ?_
    rotate_left
    · rintro w' ⟨s0, s1, s2, s3, s4, s5, s6, s7⟩
      go_simp
      with_reducible rfl
    rotate_left
    · simp only [Act.put, sA_, sB_, sC_, i64_w, i32_w]
      rfl
    refine take_ (i := 3) (N := some 29) (v := ?_) (a' := ?_) #[true, true, true, true, false, false, true, true, false, false, false, false] rfl rfl (take_ofW HT_.out HW_.out (by kernel_rfl)) (fun _ _ _ h => h) (Or.inl ⟨by rfl, ?_⟩) hHeld ?_ ?_
    rotate_left
    · rintro w' ⟨s0, s1, s2, s3, s4, s5, s6, s7⟩
      go_simp
      with_reducible rfl
    rotate_left
    · simp only [Act.put, sA_, sB_, sC_, i64_w, i32_w]
      rfl
    refine take_ (i := 5) (N := some 31) (v := ?_) (a' := ?_) #[true, true, true, true, false, true, true, true, false, false, false, false] rfl rfl (take_ofW HT_.out HW_.out (by kernel_rfl)) (fun _ _ _ h => h) (Or.inl ⟨by rfl, ?_⟩) hHeld ?_ ?_
    rotate_left
    · rintro w' ⟨s0, s1, s2, s3, s4, s5, s6, s7⟩
      go_simp
      with_reducible rfl
    rotate_left
    · simp only [Act.put, sA_, sB_, sC_, i64_w, i32_w]
      rfl
    refine take_ (i := 8) (N := some 34) (v := ?_) (a' := ?_) #[true, true, true, true, false, true, true, true, true, false, false, false] rfl rfl (take_ofW HT_.out HW_.out (by kernel_rfl)) (fun _ _ _ h => h) (Or.inl ⟨by rfl, ?_⟩) hHeld ?_ ?_
    rotate_left
    · rintro w' ⟨s0, s1, s2, s3, s4, s5, s6, s7⟩
      go_simp
      with_reducible rfl
    rotate_left
    · simp only [Act.put, sA_, sB_, sC_, i64_w, i32_w]
      rfl
    refine one_ (i := 4) (N := some 30) #[true, true, true, true, true, true, true, true, true, false, false, false] rfl rfl (one_of HT_.out (by kernel_rfl)) (by decide) (fun K hK => ?_)
    refine goes_ Try.func17 (by kernel_rfl) rfl #[.agg #[.slice Ao19 t338.length co19, .slice Ao21 t341.length co21], .int .i64 x7_1, .int .i64 (rd t352 x22_1), .agg #[.int .i64 t344, .int .i64 t345, .int .u8 t346, .int .i64 t347, .int .i64 t348, .float .f64 t349]] (by rfl) rfl rfl (by (try simp only [List.map_toArray, List.map_cons, List.map_nil]); first | done | rfl | (simp only [List.length_drop, List.length_take]; rfl)) ?_
    with_reducible refine (first_Break.calls k1 _ _ t338 _ _ t341 x7_1 (rd t352 x22_1) t344 t345 t346 t347 t348 t349 t356 _ ?side1 ?side2 ?side3 ?side4 A37.out).mono ?_
    (case side1 => repeat (first | exact (Kd.R_reads' HO_351000.out).2.2 | (with_reducible refine Kd.C_alloc ?_ _) | (with_reducible refine Kd.C_drewN ?_ _) | (with_reducible refine Kd.C_drew ?_)))
    (case side2 => exact (Kd.R_reads' HO_351000.out).2.1)
    (case side3 => repeat (first | exact (Kd.R_reads' HO_351001.out).2.2 | (with_reducible refine Kd.C_alloc ?_ _) | (with_reducible refine Kd.C_drewN ?_ _) | (with_reducible refine Kd.C_drew ?_)))
    (case side4 => exact (Kd.R_reads' HO_351001.out).2.1)
    rintro e w42 ⟨v357, rfl, ho0, hb⟩
    refine ⟨_, rfl, ?_⟩
    have n0_ := zA.mk (Kd.R_below (by (with_reducible repeat (first | apply Kd.R_alloc | apply Kd.R_drewN | apply Kd.R_drew)); exact HO_20.out) hb)
    have n1_ := zA.mk (Kd.R_below (by (with_reducible repeat (first | apply Kd.R_alloc | apply Kd.R_drewN | apply Kd.R_drew)); exact HO_351000.out) hb)
    have n2_ := zA.mk (Kd.R_below (by (with_reducible repeat (first | apply Kd.R_alloc | apply Kd.R_drewN | apply Kd.R_drew)); exact HO_351001.out) hb)
    have n3_ := zA.mk (Kd.R_lower ho0 (zK (by repeat (first | (with_reducible first | exact HB.out | apply zI | apply zE | apply zH | refine zF ?_ GE336.out | refine zF ?_ GE350.out | refine zF ?_ GE351.out) | exact HB.out))))
    have n4_ := zA.mk (zL (g := gb336) (o := .cells #[.int .u8 a1_0, .int .u8 a1_1, .int .u8 a1_2, .int .u16 a1_3, .int .u16 a1_4, .float .f64 a1_5] 26 (0, 0)) (by (with_reducible repeat (first | refine zB ?_ _ | refine zD ?_ | refine zC ?_ _)); exact BK336.out) hb)
    have n5_ := zA.mk (zL (g := gb350) (o := .cells #[.slice Ao19 t338.length co19, .slice Ao21 t341.length co21] 31 (0, 0)) (by (with_reducible repeat (first | refine zB ?_ _ | refine zD ?_ | refine zC ?_ _)); exact BK350.out) hb)
    have n6_ := zA.mk (zL (g := gb351) (o := .cells #[.int .i64 t344, .int .i64 t345, .int .u8 t346, .int .i64 t347, .int .i64 t348, .float .f64 t349] 35 (0, 0)) (by (with_reducible repeat (first | refine zB ?_ _ | refine zD ?_ | refine zC ?_ _)); exact BK351.out) hb)
    have n7_ := zA.mk (zM (by repeat (first | (with_reducible first | exact HB.out | apply zI | apply zE | apply zH | refine zF ?_ GE336.out | refine zF ?_ GE350.out | refine zF ?_ GE351.out) | exact HB.out)) hb)
    clear HO_20 HO_351000 HO_351001 BK336 BK350 BK351 HB; have HO_20 := n0_; have HO_351000 := n1_; have HO_351001 := n2_; have HO358 := n3_; have BK336 := n4_; have BK350 := n5_; have BK351 := n6_; have HB := n7_; clear n0_ n1_ n2_ n3_ n4_ n5_ n6_ n7_; (try clear hb)
    (try clear hb2)
    (try clear hk)
    (try clear hi)
    (try clear ho0)
    refine hK.out _ _ ⟨(zG BK350.out 0).trans rfl, (zG BK350.out 1).trans rfl, (zG BK351.out 0).trans rfl, (zG BK351.out 1).trans rfl, (zG BK351.out 2).trans rfl, (zG BK351.out 3).trans rfl, (zG BK351.out 4).trans rfl, (zG BK351.out 5).trans rfl⟩ (fun hHeld => ?_)
    clear hK K; refine norm_ (a' := ?_) ?_ ?_
    rotate_left
    · show Act.put _ (some 30) _ = _
      simp only [Act.put, sA_, sB_, sC_, i64_w, i32_w]; rfl
    refine one_ (i := 9) (N := some 35) #[true, true, true, true, true, true, true, true, true, true, false, false] rfl rfl (one_of HT_.out (by kernel_rfl)) (by decide) (fun K hK => ?_)
    refine goes_ Try.func18 (by kernel_rfl) rfl #[.agg #[.slice Ao19 t338.length co19, .slice Ao21 t341.length co21], .int .i64 x7_1, .int .i64 (rd t352 x22_1), .agg #[.int .i64 t344, .int .i64 t345, .int .u8 t346, .int .i64 t347, .int .i64 t348, .float .f64 t349]] (by rfl) rfl rfl (by (try simp only [List.map_toArray, List.map_cons, List.map_nil]); first | done | rfl | (simp only [List.length_drop, List.length_take]; rfl)) ?_
    with_reducible refine (stanzaref13_First.calls k1 _ _ t338 _ _ t341 x7_1 (rd t352 x22_1) t344 t345 t346 t347 t348 t349 t359 _ ?side1 ?side2 ?side3 ?side4 A38.out).mono ?_
    (case side1 => repeat (first | exact (Kd.R_reads' HO_351000.out).2.2 | (with_reducible refine Kd.C_alloc ?_ _) | (with_reducible refine Kd.C_drewN ?_ _) | (with_reducible refine Kd.C_drew ?_)))
    (case side2 => exact (Kd.R_reads' HO_351000.out).2.1)
    (case side3 => repeat (first | exact (Kd.R_reads' HO_351001.out).2.2 | (with_reducible refine Kd.C_alloc ?_ _) | (with_reducible refine Kd.C_drewN ?_ _) | (with_reducible refine Kd.C_drew ?_)))
    (case side4 => exact (Kd.R_reads' HO_351001.out).2.1)
    rintro e w43 ⟨v360, rfl, ho0, hb⟩
    refine ⟨_, rfl, ?_⟩
    have n0_ := zA.mk (Kd.R_below (by (with_reducible repeat (first | apply Kd.R_alloc | apply Kd.R_drewN | apply Kd.R_drew)); exact HO_20.out) hb)
    have n1_ := zA.mk (Kd.R_below (by (with_reducible repeat (first | apply Kd.R_alloc | apply Kd.R_drewN | apply Kd.R_drew)); exact HO_351000.out) hb)
    have n2_ := zA.mk (Kd.R_below (by (with_reducible repeat (first | apply Kd.R_alloc | apply Kd.R_drewN | apply Kd.R_drew)); exact HO_351001.out) hb)
    have n3_ := zA.mk (Kd.R_elder' (by (with_reducible repeat (first | apply Kd.R_alloc | apply Kd.R_drewN | apply Kd.R_drew)); exact HO358.out) (Kd.R_base ho0) hb)
    have n4_ := zA.mk (Kd.R_lower (Kd.R_new' ho0 (Kd.R_lt (by (with_reducible repeat (first | apply Kd.R_alloc | apply Kd.R_drewN | apply Kd.R_drew)); exact HO358.out))) (zK (by repeat (first | (with_reducible first | exact HB.out | apply zI | apply zE | apply zH | refine zF ?_ GE336.out | refine zF ?_ GE350.out | refine zF ?_ GE351.out) | exact HB.out))))
    have n5_ := zA.mk (zL (g := gb336) (o := .cells #[.int .u8 a1_0, .int .u8 a1_1, .int .u8 a1_2, .int .u16 a1_3, .int .u16 a1_4, .float .f64 a1_5] 26 (0, 0)) (by (with_reducible repeat (first | refine zB ?_ _ | refine zD ?_ | refine zC ?_ _)); exact BK336.out) hb)
    have n6_ := zA.mk (zL (g := gb350) (o := .cells #[.slice Ao19 t338.length co19, .slice Ao21 t341.length co21] 31 (0, 0)) (by (with_reducible repeat (first | refine zB ?_ _ | refine zD ?_ | refine zC ?_ _)); exact BK350.out) hb)
    have n7_ := zA.mk (zL (g := gb351) (o := .cells #[.int .i64 t344, .int .i64 t345, .int .u8 t346, .int .i64 t347, .int .i64 t348, .float .f64 t349] 35 (0, 0)) (by (with_reducible repeat (first | refine zB ?_ _ | refine zD ?_ | refine zC ?_ _)); exact BK351.out) hb)
    have n8_ := zA.mk (zM (by repeat (first | (with_reducible first | exact HB.out | apply zI | apply zE | apply zH | refine zF ?_ GE336.out | refine zF ?_ GE350.out | refine zF ?_ GE351.out) | exact HB.out)) hb)
    clear HO_20 HO_351000 HO_351001 HO358 BK336 BK350 BK351 HB; have HO_20 := n0_; have HO_351000 := n1_; have HO_351001 := n2_; have HO358 := n3_; have HO361 := n4_; have BK336 := n5_; have BK350 := n6_; have BK351 := n7_; have HB := n8_; clear n0_ n1_ n2_ n3_ n4_ n5_ n6_ n7_ n8_; (try clear hb)
    (try clear hb2)
    (try clear hk)
    (try clear hi)
    (try clear ho0)
    obtain ⟨Ao44, co44, eo44⟩ := Kd.R_slice HO358.out; (first | subst eo44 | (injection eo44 with f1_ f2_ f3_; have f4_ := f1_.symm; have f5_ := f3_.symm; clear f1_ f2_ f3_; subst f4_; subst f5_))
    obtain ⟨Ao45, co45, eo45⟩ := Kd.R_slice HO361.out; (first | subst eo45 | (injection eo45 with f1_ f2_ f3_; have f4_ := f1_.symm; have f5_ := f3_.symm; clear f1_ f2_ f3_; subst f4_; subst f5_))
    refine hK.out _ _ ⟨(zG BK350.out 0).trans rfl, (zG BK350.out 1).trans rfl, (zG BK351.out 0).trans rfl, (zG BK351.out 1).trans rfl, (zG BK351.out 2).trans rfl, (zG BK351.out 3).trans rfl, (zG BK351.out 4).trans rfl, (zG BK351.out 5).trans rfl⟩ (fun hHeld => ?_)
    clear hK K; refine norm_ (a' := ?_) ?_ ?_
    rotate_left
    · show Act.put _ (some 35) _ = _
      simp only [Act.put, sA_, sB_, sC_, i64_w, i32_w]; rfl
    refine one_ (i := 10) (N := some 36) #[true, true, true, true, true, true, true, true, true, true, true, false] rfl rfl (one_of HT_.out (by kernel_rfl)) (by decide) (fun K hK => ?_)
    refine goes_ Try.func16 (by kernel_rfl) rfl #[.slice Ao44 t356.length co44, .slice Ao45 t359.length co45] (by rfl) rfl rfl (by (try simp only [List.map_toArray, List.map_cons, List.map_nil]); first | done | rfl | (simp only [List.length_drop, List.length_take]; rfl)) ?_
    with_reducible refine (stanzaref13_SameLines.calls k1 _ _ t356 _ _ t359 true _ ?side1 ?side2 ?side3 ?side4 A39.out).mono ?_
    (case side1 => repeat (first | exact (Kd.R_reads' HO358.out).2.2 | (with_reducible refine Kd.C_alloc ?_ _) | (with_reducible refine Kd.C_drewN ?_ _) | (with_reducible refine Kd.C_drew ?_)))
    (case side2 => exact (Kd.R_reads' HO358.out).2.1)
    (case side3 => repeat (first | exact (Kd.R_reads' HO361.out).2.2 | (with_reducible refine Kd.C_alloc ?_ _) | (with_reducible refine Kd.C_drewN ?_ _) | (with_reducible refine Kd.C_drew ?_)))
    (case side4 => exact (Kd.R_reads' HO361.out).2.1)
    rintro e w' ⟨rfl, ⟨nd, rfl⟩⟩
    refine ⟨_, rfl, ?_⟩
    refine hK.out _ _ ⟨(zG BK350.out 0).trans rfl, (zG BK350.out 1).trans rfl, (zG BK351.out 0).trans rfl, (zG BK351.out 1).trans rfl, (zG BK351.out 2).trans rfl, (zG BK351.out 3).trans rfl, (zG BK351.out 4).trans rfl, (zG BK351.out 5).trans rfl⟩ (fun hHeld => ?_)
    clear hK K; refine norm_ (a' := ?_) ?_ ?_
    rotate_left
    · show Act.put _ (some 36) _ = _
      simp only [Act.put, sA_, sB_, sC_, i64_w, i32_w]; rfl
    refine pure_ (i := 11) (N := some 37) (v := ?_) (a' := ?_) #[true, true, true, true, true, true, true, true, true, true, true, true] rfl rfl (any_of HT_.out (by kernel_rfl)) (fun _ _ _ h => h) (Or.inl ⟨by rfl, ?_⟩) ?_ ?_
    rotate_left
    · intro w'
      go_simp
      with_reducible rfl
    rotate_left
    · simp only [Act.put, sA_, sB_, sC_, i64_w, i32_w]
      rfl
    refine done_ (done_of HT_.out (by kernel_rfl)) ?_
    try go_wp2
    go_roundg k1
    case measure => have := HK1.out; omega
    case rel => exact ⟨(rd t352 x22_1), (wrap64 (x22_1 + 1)), (by first | rfl | (simp; done) | (simp [*]; done)), (by first | rfl | (simp; done) | (simp [*]; done)), H', ⟨by have := HK1.out; omega⟩, ⟨by (with_reducible repeat (first | apply Kd.R_alloc | apply Kd.R_drewN | apply Kd.R_drew)); exact HO_20.out⟩, ⟨by (with_reducible repeat (first | apply Kd.R_alloc | apply Kd.R_drewN | apply Kd.R_drew)); exact HO_351000.out⟩, ⟨by (with_reducible repeat (first | apply Kd.R_alloc | apply Kd.R_drewN | apply Kd.R_drew)); exact HO_351001.out⟩, ⟨by (with_reducible repeat (first | refine zB ?_ _ | refine zD ?_ | refine zC ?_ _)); exact BK336.out⟩, ⟨by (with_reducible repeat (first | refine zB ?_ _ | refine zD ?_ | refine zC ?_ _)); exact BK350.out⟩, ⟨by (with_reducible repeat (first | refine zB ?_ _ | refine zD ?_ | refine zC ?_ _)); exact BK351.out⟩, ⟨by repeat (first | (with_reducible first | exact HB.out | apply zI | apply zE | apply zH | refine zF ?_ GE336.out | refine zF ?_ GE350.out | refine zF ?_ GE351.out) | exact HB.out)⟩⟩
def stanzalaw14_FirstBreaks.Pure : Prop := ∀ (l0 : List (S49)) (a1_0 : Int) (a1_1 : Int) (a1_2 : Int) (a1_3 : Int) (a1_4 : Int) (a1_5 : Nat), (l0.length * 4 ≤ 140737488351232 ∧ ∀ y0 ∈ l0, ((Lit.int .u8 y0.f0).wf = true ∧ ((Lit.int .u8 y0.f1).wf = true ∧ ((Lit.int .u8 y0.f2).wf = true ∧ (Lit.int .u8 y0.f3).wf = true)))) → ((Lit.int .u8 a1_0).wf = true ∧ ((Lit.int .u8 a1_1).wf = true ∧ ((Lit.int .u8 a1_2).wf = true ∧ ((Lit.int .u16 a1_3).wf = true ∧ ((Lit.int .u16 a1_4).wf = true ∧ (Lit.float .f64 a1_5).wf = true))))) → ∃ k, stanzalaw14_FirstBreaks.f k l0 a1_0 a1_1 a1_2 a1_3 a1_4 a1_5 = some true
end Go.Proofs.Ytfeidhmkmbgnoaa.F
end
