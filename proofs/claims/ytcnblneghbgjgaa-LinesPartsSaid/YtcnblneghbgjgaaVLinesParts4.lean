/- Printed by a program: Lean functions that answer as the Go functions do, and the proofs of it. -/
import Derived.Test.YtcnblneghbgjgaaVLinesParts0
import Derived.Test.YtcnblneghbgjgaaVLinesParts1
import Derived.Test.YtcnblneghbgjgaaVLinesParts2
import Derived.Test.YtcnblneghbgjgaaVLinesParts3
section
namespace Go.Proofs.Ytcnblneghbgjgaa.F
open Go.RowKit Go.Proofs.YtcnblneghbgjgaaW.PrintWords Go.Proofs.YtcnblneghbgjgaaW.PrintLast Go.Proofs.YtcnblneghbgjgaaW.PrintMore
attribute [local go_sem] max2_int min2_int max_two min_two max_three min_three max_four min_four   -- for this text's walks alone
set_option linter.unusedVariables false
set_option linter.unusedSimpArgs false
mutual
def stanzalaw16_LinesParts.l0 : Nat → List (S54) → Bool → Int → Int → Bool → List Int → Int → Int → List (S66) → List Int → Int → Int → Int → Int → Int → Nat → Option (Bool)
  | 0, _, _, _, _, _, _, _, _, _, _, _, _, _, _, _, _ => none
  | k + 1, x7, x8, x9, x10, x11, x35, x36, x37, x339000, x339001, x340000, x340001, x340002, x340003, x340004, x340005 => if x37 < x36 then (if 0 ≤ x37 then (if x37 < (x35.length : Int) then ((lines_Part.f k x339000 x339001 x9 (rd x35 x37) x340000 x340001 x340002 x340003 x340004 x340005).bind fun bt348 => ((first_Break.f k x339000 x339001 x9 (rd x35 x37) x340000 x340001 x340002 x340003 x340004 x340005).bind fun t352 => ((best_Break.f k x339000 x339001 x9 (rd x35 x37) x340000 x340001 x340002 x340003 x340004 x340005).bind fun bt355 => (if x340002 = 1 then (stanzalaw16_LinesParts.j1 k x7 x8 x10 x11 (rd x35 x37) bt348.1 bt348.2 t352 bt355.1 bt355.2 x35 x36 x37 bt355.2 x339000 x339001 x340000 x340001 x340002 x340003 x340004 x340005) else (stanzalaw16_LinesParts.j1 k x7 x8 x10 x11 (rd x35 x37) bt348.1 bt348.2 t352 bt355.1 bt355.2 x35 x36 x37 false x339000 x339001 x340000 x340001 x340002 x340003 x340004 x340005))))) else (none)) else (none)) else (if x10 = (x7.length : Int) then (some (x11 == x8)) else (some false))
def stanzalaw16_LinesParts.j1 : Nat → List (S54) → Bool → Int → Bool → Int → List (S54) → Bool → List (S54) → List (S54) → Bool → List Int → Int → Int → Bool → List (S66) → List Int → Int → Int → Int → Int → Int → Nat → Option (Bool)
  | 0, _, _, _, _, _, _, _, _, _, _, _, _, _, _, _, _, _, _, _, _, _, _ => none
  | k + 1, x7, x8, x10, x11, x13, x14, x15, x16, x17, x18, x35, x36, x37, x67, x339000, x339001, x340000, x340001, x340002, x340003, x340004, x340005 => if x67 = true then (stanzalaw16_LinesParts.j2 k x7 x8 x10 x11 x13 x14 x15 x17 x18 x35 x36 x37 x339000 x339001 x340000 x340001 x340002 x340003 x340004 x340005) else (stanzalaw16_LinesParts.j2 k x7 x8 x10 x11 x13 x14 x15 x16 x18 x35 x36 x37 x339000 x339001 x340000 x340001 x340002 x340003 x340004 x340005)
def stanzalaw16_LinesParts.j2 : Nat → List (S54) → Bool → Int → Bool → Int → List (S54) → Bool → List (S54) → Bool → List Int → Int → Int → List (S66) → List Int → Int → Int → Int → Int → Int → Nat → Option (Bool)
  | 0, _, _, _, _, _, _, _, _, _, _, _, _, _, _, _, _, _, _, _, _ => none
  | k + 1, x7, x8, x10, x11, x13, x14, x15, x16, x18, x35, x36, x37, x339000, x339001, x340000, x340001, x340002, x340003, x340004, x340005 => (stanzaref13_SameLines.f k x14 x16).bind fun t359 => (if t359 = true then (if x340002 = 1 then (if (x15 != (!x18)) = true then (some false) else (if (wrap64 (x10 + (x14.length : Int))) > (x7.length : Int) then (some false) else (if 0 ≤ x10 then (if x10 ≤ (wrap64 (x10 + (x14.length : Int))) then (if (wrap64 (x10 + (x14.length : Int))) ≤ (x7.length : Int) then ((stanzaref13_SameLines.f k x14 ((x7.take ((wrap64 (x10 + (x14.length : Int))) : Int).toNat).drop (x10 : Int).toNat)).bind fun t364 => (if t364 = true then (if x11 = true then (stanzalaw16_LinesParts.l0 k x7 x8 x13 (wrap64 (x10 + (x14.length : Int))) true x35 x36 (wrap64 (x37 + 1)) x339000 x339001 x340000 x340001 x340002 x340003 x340004 x340005) else (stanzalaw16_LinesParts.l0 k x7 x8 x13 (wrap64 (x10 + (x14.length : Int))) x15 x35 x36 (wrap64 (x37 + 1)) x339000 x339001 x340000 x340001 x340002 x340003 x340004 x340005)) else (some false))) else (none)) else (none)) else (none)))) else (if (x15 != false) = true then (some false) else (if (wrap64 (x10 + (x14.length : Int))) > (x7.length : Int) then (some false) else (if 0 ≤ x10 then (if x10 ≤ (wrap64 (x10 + (x14.length : Int))) then (if (wrap64 (x10 + (x14.length : Int))) ≤ (x7.length : Int) then ((stanzaref13_SameLines.f k x14 ((x7.take ((wrap64 (x10 + (x14.length : Int))) : Int).toNat).drop (x10 : Int).toNat)).bind fun t369 => (if t369 = true then (if x11 = true then (stanzalaw16_LinesParts.l0 k x7 x8 x13 (wrap64 (x10 + (x14.length : Int))) true x35 x36 (wrap64 (x37 + 1)) x339000 x339001 x340000 x340001 x340002 x340003 x340004 x340005) else (stanzalaw16_LinesParts.l0 k x7 x8 x13 (wrap64 (x10 + (x14.length : Int))) x15 x35 x36 (wrap64 (x37 + 1)) x339000 x339001 x340000 x340001 x340002 x340003 x340004 x340005)) else (some false))) else (none)) else (none)) else (none))))) else (some false))
end
def stanzalaw16_LinesParts.f (k : Nat) (l0 : List (S63)) (a1_0 : Int) (a1_1 : Int) (a1_2 : Int) (a1_3 : Int) (a1_4 : Int) (a1_5 : Nat) : Option (Bool) := (stanzalaw16_Awake.f k).bind fun t325 => (if t325 = true then (if (l0.length : Int) > 300 then (some true) else ((stanzahand03_Para.f k l0).bind fun bt326 => ((stanzahand03_Config.f a1_0 a1_1 a1_2 a1_3 a1_4 a1_5).bind fun bt332 => ((lines_Break.f k bt326.1 bt326.2 bt332.1 bt332.2.1 bt332.2.2.1 bt332.2.2.2.1 bt332.2.2.2.2.1 bt332.2.2.2.2.2).bind fun bt340 => ((items_Parts.f k bt326.1 bt326.2).bind fun t344 => (stanzalaw16_LinesParts.l0 k bt340.1 bt340.2 0 0 false t344 (t344.length : Int) 0 bt326.1 bt326.2 bt332.1 bt332.2.1 bt332.2.2.1 bt332.2.2.2.1 bt332.2.2.2.2.1 bt332.2.2.2.2.2)))))) else (some false))
theorem stanzalaw16_LinesParts.mono_l : ∀ k, (∀ y0 y1 y2 y3 y4 y5 y6 y7 y8 y9 y10 y11 y12 y13 y14 y15, LeO (stanzalaw16_LinesParts.l0 k y0 y1 y2 y3 y4 y5 y6 y7 y8 y9 y10 y11 y12 y13 y14 y15) (stanzalaw16_LinesParts.l0 (k + 1) y0 y1 y2 y3 y4 y5 y6 y7 y8 y9 y10 y11 y12 y13 y14 y15)) ∧ (∀ y0 y1 y2 y3 y4 y5 y6 y7 y8 y9 y10 y11 y12 y13 y14 y15 y16 y17 y18 y19 y20 y21, LeO (stanzalaw16_LinesParts.j1 k y0 y1 y2 y3 y4 y5 y6 y7 y8 y9 y10 y11 y12 y13 y14 y15 y16 y17 y18 y19 y20 y21) (stanzalaw16_LinesParts.j1 (k + 1) y0 y1 y2 y3 y4 y5 y6 y7 y8 y9 y10 y11 y12 y13 y14 y15 y16 y17 y18 y19 y20 y21)) ∧ (∀ y0 y1 y2 y3 y4 y5 y6 y7 y8 y9 y10 y11 y12 y13 y14 y15 y16 y17 y18 y19, LeO (stanzalaw16_LinesParts.j2 k y0 y1 y2 y3 y4 y5 y6 y7 y8 y9 y10 y11 y12 y13 y14 y15 y16 y17 y18 y19) (stanzalaw16_LinesParts.j2 (k + 1) y0 y1 y2 y3 y4 y5 y6 y7 y8 y9 y10 y11 y12 y13 y14 y15 y16 y17 y18 y19))
  | 0 => ⟨fun _ _ _ _ _ _ _ _ _ _ _ _ _ _ _ _ r h => by simp [stanzalaw16_LinesParts.l0] at h, fun _ _ _ _ _ _ _ _ _ _ _ _ _ _ _ _ _ _ _ _ _ _ r h => by simp [stanzalaw16_LinesParts.j1] at h, fun _ _ _ _ _ _ _ _ _ _ _ _ _ _ _ _ _ _ _ _ r h => by simp [stanzalaw16_LinesParts.j2] at h⟩
  | k + 1 => by
    obtain ⟨ih0, ih1, ih2⟩ := stanzalaw16_LinesParts.mono_l k; refine ⟨?_, ?_, ?_⟩
    · intro y0 y1 y2 y3 y4 y5 y6 y7 y8 y9 y10 y11 y12 y13 y14 y15
      unfold stanzalaw16_LinesParts.l0
      repeat' first
      | (with_reducible exact ih0 _ _ _ _ _ _ _ _ _ _ _ _ _ _ _ _)
      | (with_reducible exact ih1 _ _ _ _ _ _ _ _ _ _ _ _ _ _ _ _ _ _ _ _ _ _)
      | (with_reducible exact ih2 _ _ _ _ _ _ _ _ _ _ _ _ _ _ _ _ _ _ _ _)
      | (with_reducible exact best_Break.mono _ _ _ _ _ _ _ _ _ _ _)
      | (with_reducible exact first_Break.mono _ _ _ _ _ _ _ _ _ _ _)
      | (with_reducible exact items_Parts.mono _ _ _)
      | (with_reducible exact lines_Break.mono _ _ _ _ _ _ _ _ _)
      | (with_reducible exact lines_Part.mono _ _ _ _ _ _ _ _ _ _ _)
      | (with_reducible exact stanzahand03_Para.mono _ _)
      | (with_reducible exact stanzalaw16_Awake.mono _)
      | (with_reducible exact stanzaref13_SameLines.mono _ _ _)
      | (with_reducible exact LeO.refl _)
      | (with_reducible exact LeO.none _)
      | (with_reducible refine LeO.ite ?_ ?_)
      | (with_reducible refine LeO.bind ?_ (fun _ => ?_))
      | exact ih0 _ _ _ _ _ _ _ _ _ _ _ _ _ _ _ _
      | exact ih1 _ _ _ _ _ _ _ _ _ _ _ _ _ _ _ _ _ _ _ _ _ _
      | exact ih2 _ _ _ _ _ _ _ _ _ _ _ _ _ _ _ _ _ _ _ _
      | exact best_Break.mono _ _ _ _ _ _ _ _ _ _ _
      | exact first_Break.mono _ _ _ _ _ _ _ _ _ _ _
      | exact items_Parts.mono _ _ _
      | exact lines_Break.mono _ _ _ _ _ _ _ _ _
      | exact lines_Part.mono _ _ _ _ _ _ _ _ _ _ _
      | exact stanzahand03_Para.mono _ _
      | exact stanzalaw16_Awake.mono _
      | exact stanzaref13_SameLines.mono _ _ _
      | exact LeO.none _
      | refine LeO.ite ?_ ?_
      | refine LeO.bind ?_ (fun _ => ?_)
    · intro y0 y1 y2 y3 y4 y5 y6 y7 y8 y9 y10 y11 y12 y13 y14 y15 y16 y17 y18 y19 y20 y21
      unfold stanzalaw16_LinesParts.j1
      repeat' first
      | (with_reducible exact ih0 _ _ _ _ _ _ _ _ _ _ _ _ _ _ _ _)
      | (with_reducible exact ih1 _ _ _ _ _ _ _ _ _ _ _ _ _ _ _ _ _ _ _ _ _ _)
      | (with_reducible exact ih2 _ _ _ _ _ _ _ _ _ _ _ _ _ _ _ _ _ _ _ _)
      | (with_reducible exact best_Break.mono _ _ _ _ _ _ _ _ _ _ _)
      | (with_reducible exact first_Break.mono _ _ _ _ _ _ _ _ _ _ _)
      | (with_reducible exact items_Parts.mono _ _ _)
      | (with_reducible exact lines_Break.mono _ _ _ _ _ _ _ _ _)
      | (with_reducible exact lines_Part.mono _ _ _ _ _ _ _ _ _ _ _)
      | (with_reducible exact stanzahand03_Para.mono _ _)
      | (with_reducible exact stanzalaw16_Awake.mono _)
      | (with_reducible exact stanzaref13_SameLines.mono _ _ _)
      | (with_reducible exact LeO.refl _)
      | (with_reducible exact LeO.none _)
      | (with_reducible refine LeO.ite ?_ ?_)
      | (with_reducible refine LeO.bind ?_ (fun _ => ?_))
      | exact ih0 _ _ _ _ _ _ _ _ _ _ _ _ _ _ _ _
      | exact ih1 _ _ _ _ _ _ _ _ _ _ _ _ _ _ _ _ _ _ _ _ _ _
      | exact ih2 _ _ _ _ _ _ _ _ _ _ _ _ _ _ _ _ _ _ _ _
      | exact best_Break.mono _ _ _ _ _ _ _ _ _ _ _
      | exact first_Break.mono _ _ _ _ _ _ _ _ _ _ _
      | exact items_Parts.mono _ _ _
      | exact lines_Break.mono _ _ _ _ _ _ _ _ _
      | exact lines_Part.mono _ _ _ _ _ _ _ _ _ _ _
      | exact stanzahand03_Para.mono _ _
      | exact stanzalaw16_Awake.mono _
      | exact stanzaref13_SameLines.mono _ _ _
      | exact LeO.none _
      | refine LeO.ite ?_ ?_
      | refine LeO.bind ?_ (fun _ => ?_)
    · intro y0 y1 y2 y3 y4 y5 y6 y7 y8 y9 y10 y11 y12 y13 y14 y15 y16 y17 y18 y19
      unfold stanzalaw16_LinesParts.j2
      repeat' first
      | (with_reducible exact ih0 _ _ _ _ _ _ _ _ _ _ _ _ _ _ _ _)
      | (with_reducible exact ih1 _ _ _ _ _ _ _ _ _ _ _ _ _ _ _ _ _ _ _ _ _ _)
      | (with_reducible exact ih2 _ _ _ _ _ _ _ _ _ _ _ _ _ _ _ _ _ _ _ _)
      | (with_reducible exact best_Break.mono _ _ _ _ _ _ _ _ _ _ _)
      | (with_reducible exact first_Break.mono _ _ _ _ _ _ _ _ _ _ _)
      | (with_reducible exact items_Parts.mono _ _ _)
      | (with_reducible exact lines_Break.mono _ _ _ _ _ _ _ _ _)
      | (with_reducible exact lines_Part.mono _ _ _ _ _ _ _ _ _ _ _)
      | (with_reducible exact stanzahand03_Para.mono _ _)
      | (with_reducible exact stanzalaw16_Awake.mono _)
      | (with_reducible exact stanzaref13_SameLines.mono _ _ _)
      | (with_reducible exact LeO.refl _)
      | (with_reducible exact LeO.none _)
      | (with_reducible refine LeO.ite ?_ ?_)
      | (with_reducible refine LeO.bind ?_ (fun _ => ?_))
      | exact ih0 _ _ _ _ _ _ _ _ _ _ _ _ _ _ _ _
      | exact ih1 _ _ _ _ _ _ _ _ _ _ _ _ _ _ _ _ _ _ _ _ _ _
      | exact ih2 _ _ _ _ _ _ _ _ _ _ _ _ _ _ _ _ _ _ _ _
      | exact best_Break.mono _ _ _ _ _ _ _ _ _ _ _
      | exact first_Break.mono _ _ _ _ _ _ _ _ _ _ _
      | exact items_Parts.mono _ _ _
      | exact lines_Break.mono _ _ _ _ _ _ _ _ _
      | exact lines_Part.mono _ _ _ _ _ _ _ _ _ _ _
      | exact stanzahand03_Para.mono _ _
      | exact stanzalaw16_Awake.mono _
      | exact stanzaref13_SameLines.mono _ _ _
      | exact LeO.none _
      | refine LeO.ite ?_ ?_
      | refine LeO.bind ?_ (fun _ => ?_)
theorem stanzalaw16_LinesParts.mono : ∀ a0 a1 a2 a3 a4 a5 a6 k, LeO (stanzalaw16_LinesParts.f k a0 a1 a2 a3 a4 a5 a6) (stanzalaw16_LinesParts.f (k + 1) a0 a1 a2 a3 a4 a5 a6) := by
  intro a0 a1 a2 a3 a4 a5 a6 k
  obtain ⟨ih0, ih1, ih2⟩ := stanzalaw16_LinesParts.mono_l k; unfold stanzalaw16_LinesParts.f
  repeat' first
      | (with_reducible exact ih0 _ _ _ _ _ _ _ _ _ _ _ _ _ _ _ _)
      | (with_reducible exact ih1 _ _ _ _ _ _ _ _ _ _ _ _ _ _ _ _ _ _ _ _ _ _)
      | (with_reducible exact ih2 _ _ _ _ _ _ _ _ _ _ _ _ _ _ _ _ _ _ _ _)
      | (with_reducible exact best_Break.mono _ _ _ _ _ _ _ _ _ _ _)
      | (with_reducible exact first_Break.mono _ _ _ _ _ _ _ _ _ _ _)
      | (with_reducible exact items_Parts.mono _ _ _)
      | (with_reducible exact lines_Break.mono _ _ _ _ _ _ _ _ _)
      | (with_reducible exact lines_Part.mono _ _ _ _ _ _ _ _ _ _ _)
      | (with_reducible exact stanzahand03_Para.mono _ _)
      | (with_reducible exact stanzalaw16_Awake.mono _)
      | (with_reducible exact stanzaref13_SameLines.mono _ _ _)
      | (with_reducible exact LeO.refl _)
      | (with_reducible exact LeO.none _)
      | (with_reducible refine LeO.ite ?_ ?_)
      | (with_reducible refine LeO.bind ?_ (fun _ => ?_))
      | exact ih0 _ _ _ _ _ _ _ _ _ _ _ _ _ _ _ _
      | exact ih1 _ _ _ _ _ _ _ _ _ _ _ _ _ _ _ _ _ _ _ _ _ _
      | exact ih2 _ _ _ _ _ _ _ _ _ _ _ _ _ _ _ _ _ _ _ _
      | exact best_Break.mono _ _ _ _ _ _ _ _ _ _ _
      | exact first_Break.mono _ _ _ _ _ _ _ _ _ _ _
      | exact items_Parts.mono _ _ _
      | exact lines_Break.mono _ _ _ _ _ _ _ _ _
      | exact lines_Part.mono _ _ _ _ _ _ _ _ _ _ _
      | exact stanzahand03_Para.mono _ _
      | exact stanzalaw16_Awake.mono _
      | exact stanzaref13_SameLines.mono _ _ _
      | exact LeO.none _
      | refine LeO.ite ?_ ?_
      | refine LeO.bind ?_ (fun _ => ?_)
def stanzalaw16_LinesParts.T5 : Bool × List (List Nat × List Nat) := (true, [([], []), ([0], [0]), ([], []), ([2, 1], [2]), ([], []), ([], []), ([4, 1, 3, 0, 1, 4, 5], [1, 4]), ([5, 3, 6, 0, 1, 2, 3, 4, 5, 6], [3, 5])])
def stanzalaw16_LinesParts.B5 : List Nat := [0, 1, 0, 7, 0, 0, 63, 127]
theorem stanzalaw16_LinesParts.tab5 : rtab .any (opsOf Try.f4 5) = stanzalaw16_LinesParts.T5 := by kernel_rfl
theorem stanzalaw16_LinesParts.bits5 : waitsOk stanzalaw16_LinesParts.T5.2 stanzalaw16_LinesParts.B5 = true := by kernel_rfl
set_option maxHeartbeats 8000000 in
set_option maxRecDepth 100000 in
theorem stanzalaw16_LinesParts.calls (k : Nat) (A0 : Option Addr) (c0 : Nat) (l0 : List (S63)) (a1_0 : Int) (a1_1 : Int) (a1_2 : Int) (a1_3 : Int) (a1_4 : Int) (a1_5 : Nat) (r : Bool) (w : World) (hr0 : Kd.C k63 w A0 l0.length l0) (hc0 : l0.length ≤ c0) (h : stanzalaw16_LinesParts.f k l0 a1_0 a1_1 a1_2 a1_3 a1_4 a1_5 = some r) (hrt_ : zA (r = true)) :
    Calls Try.prog 4 #[.slice A0 l0.length c0, .agg #[.int .u8 a1_0, .int .u8 a1_1, .int .u8 a1_2, .int .u16 a1_3, .int .u16 a1_4, .float .f64 a1_5]] w fun e w' => e = .returned (.bool r) ∧ Below w.heap.size w w' := by
  have hu26 := Try.underlying26; have hu31 := Try.underlying31; have hu35 := Try.underlying35; have HR0 := zA.mk hr0; have HC0 := zA.mk hc0; clear hr0 hc0; have HB := zA.mk (Below.refl w.heap.size w); have H : ((stanzalaw16_Awake.f k).bind fun t325 => (if t325 = true then (if (l0.length : Int) > 300 then (some true) else ((stanzahand03_Para.f k l0).bind fun bt326 => ((stanzahand03_Config.f a1_0 a1_1 a1_2 a1_3 a1_4 a1_5).bind fun bt332 => ((lines_Break.f k bt326.1 bt326.2 bt332.1 bt332.2.1 bt332.2.2.1 bt332.2.2.2.1 bt332.2.2.2.2.1 bt332.2.2.2.2.2).bind fun bt340 => ((items_Parts.f k bt326.1 bt326.2).bind fun t344 => (stanzalaw16_LinesParts.l0 k bt340.1 bt340.2 0 0 false t344 (t344.length : Int) 0 bt326.1 bt326.2 bt332.1 bt332.2.1 bt332.2.2.1 bt332.2.2.2.1 bt332.2.2.2.2.1 bt332.2.2.2.2.2)))))) else (some false))) = some r := h
  clear h; replace H := Option.bind_eq_some_iff.mp H; obtain ⟨t325, A30, H⟩ := H; replace H : (if t325 = true then (if (l0.length : Int) > 300 then (some true) else ((stanzahand03_Para.f k l0).bind fun bt326 => ((stanzahand03_Config.f a1_0 a1_1 a1_2 a1_3 a1_4 a1_5).bind fun bt332 => ((lines_Break.f k bt326.1 bt326.2 bt332.1 bt332.2.1 bt332.2.2.1 bt332.2.2.2.1 bt332.2.2.2.2.1 bt332.2.2.2.2.2).bind fun bt340 => ((items_Parts.f k bt326.1 bt326.2).bind fun t344 => (stanzalaw16_LinesParts.l0 k bt340.1 bt340.2 0 0 false t344 (t344.length : Int) 0 bt326.1 bt326.2 bt332.1 bt332.2.1 bt332.2.2.1 bt332.2.2.2.1 bt332.2.2.2.2.1 bt332.2.2.2.2.2)))))) else (some false)) = some r := H
  have A3 := zA.mk A30; clear A30; by_cases c4 : t325 = true
  rotate_left
  · replace c4 := Bool.eq_false_iff.mpr c4
    subst c4; have H1 : (some false) = some r := by rw [if_neg (show ¬ (false = true) by decide)] at H; exact H
    clear H; have H := H1; clear H1; exact absurd ((Option.some.inj H).trans hrt_.out) (by decide)
  subst c4; have H1 : (if (l0.length : Int) > 300 then (some true) else ((stanzahand03_Para.f k l0).bind fun bt326 => ((stanzahand03_Config.f a1_0 a1_1 a1_2 a1_3 a1_4 a1_5).bind fun bt332 => ((lines_Break.f k bt326.1 bt326.2 bt332.1 bt332.2.1 bt332.2.2.1 bt332.2.2.2.1 bt332.2.2.2.2.1 bt332.2.2.2.2.2).bind fun bt340 => ((items_Parts.f k bt326.1 bt326.2).bind fun t344 => (stanzalaw16_LinesParts.l0 k bt340.1 bt340.2 0 0 false t344 (t344.length : Int) 0 bt326.1 bt326.2 bt332.1 bt332.2.1 bt332.2.2.1 bt332.2.2.2.1 bt332.2.2.2.2.1 bt332.2.2.2.2.2)))))) = some r := by rw [if_pos rfl] at H; exact H
  clear H; have H := H1; clear H1; by_cases c5 : (l0.length : Int) > 300
  · rw [if_pos c5] at H
    have c5b0 : decide (300 < (l0.length : Int)) = true := decide_eq_true c5
    have c5b1 : decide (300 < l0.length) = true := decide_eq_true (by omega)
    clear c5; obtain rfl := Option.some.inj H
    go_enter Try.func4, Try.ntmps4
    go_wp2_with (first | ((with_reducible refine gate_dst (N := 3) rfl ?_); (try (refine gate_guard (by rfl) ?_; dsimp only)); refine box_event ?hg (N := 3) ?hd (cs := #[.int .u8 a1_0, .int .u8 a1_1, .int .u8 a1_2, .int .u16 a1_3, .int .u16 a1_4, .float .f64 a1_5]) (t := 26) ?hr ?_; (case hd => rfl); (case hg => rfl); (case hr => first | (go_simp; done) | (go_simp; rfl)); intro gb324 hg w6 hbox hb; have n0_ := zA.mk (zN (by repeat (first | (with_reducible first | exact HB.out | apply zJ | apply zG | apply zI) | exact HB.out)) hb); have n1_ := zA.mk (hbox); have n2_ := zA.mk ((by rw [hg]; exact (zL (by repeat (first | (with_reducible first | exact HB.out | apply zJ | apply zG | apply zI) | exact HB.out))) : w.heap.size ≤ gb324)); have n3_ := zA.mk ((by rw [hg]; exact (zL (by repeat (first | (with_reducible first | exact HB.out | apply zJ | apply zG | apply zI) | exact HB.out))) : w.heap.size ≤ gb324)); clear HB; have HB := n0_; have BK324 := n1_; have GW324 := n2_; have GE324 := n3_; clear n0_ n1_ n2_ n3_; clear hb hbox hg) | ((with_reducible refine gate_callee (f := 9) rfl ?_); refine goesL_ (some 19) rfl rfl Try.func9 (by kernel_rfl) rfl #[] rfl (by (try simp only [List.map_toArray, List.map_cons, List.map_nil]); first | done | rfl | (simp only [List.length_drop, List.length_take]; rfl)) ?_; (with_reducible refine (stanzalaw16_Awake.calls k  true _ A3.out (by first | exact ⟨rfl⟩ | exact hrt_)).mono ?_); rintro e w7 ⟨rfl, hb⟩; refine ⟨_, rfl, ?_⟩; have n0_ := zA.mk (zK (g := gb324) (o := .cells #[.int .u8 a1_0, .int .u8 a1_1, .int .u8 a1_2, .int .u16 a1_3, .int .u16 a1_4, .float .f64 a1_5] 26 (0, 0)) (by (with_reducible repeat (first | refine zC ?_ _ | refine zD ?_ | refine zB ?_ _)); exact BK324.out) hb); have n1_ := zA.mk (zN (by repeat (first | (with_reducible first | exact HB.out | apply zJ | apply zG | apply zI | refine zE ?_ GE324.out) | exact HB.out)) hb); clear BK324; clear HB; have BK324 := n0_; have HB := n1_; clear n0_ n1_; (try clear hb); (try clear hb2); (try clear hk); (try clear hi)))
    go_ret
    exact ⟨by first | rfl | (simp [errW_none, errW_some] <;> rfl) | (simp [*, errW_none, errW_some] <;> rfl), by repeat (first | (with_reducible first | exact HB.out | apply zJ | apply zG | apply zI | refine zE ?_ GE324.out) | exact HB.out)⟩
  rw [if_neg c5] at H; have c5b0 : decide (300 < (l0.length : Int)) = false := decide_eq_false c5
  have c5b1 : decide (300 < l0.length) = false := decide_eq_false (by omega)
  clear c5; replace H := Option.bind_eq_some_iff.mp H; obtain ⟨⟨t326, t329⟩, A80, H⟩ := H; replace H : ((stanzahand03_Config.f a1_0 a1_1 a1_2 a1_3 a1_4 a1_5).bind fun bt332 => ((lines_Break.f k t326 t329 bt332.1 bt332.2.1 bt332.2.2.1 bt332.2.2.2.1 bt332.2.2.2.2.1 bt332.2.2.2.2.2).bind fun bt340 => ((items_Parts.f k t326 t329).bind fun t344 => (stanzalaw16_LinesParts.l0 k bt340.1 bt340.2 0 0 false t344 (t344.length : Int) 0 t326 t329 bt332.1 bt332.2.1 bt332.2.2.1 bt332.2.2.2.1 bt332.2.2.2.2.1 bt332.2.2.2.2.2)))) = some r := H
  have A8 := zA.mk A80; clear A80; replace H := Option.bind_eq_some_iff.mp H; obtain ⟨⟨t332, t333, t334, t335, t336, t337⟩, A90, H⟩ := H; replace H : ((lines_Break.f k t326 t329 t332 t333 t334 t335 t336 t337).bind fun bt340 => ((items_Parts.f k t326 t329).bind fun t344 => (stanzalaw16_LinesParts.l0 k bt340.1 bt340.2 0 0 false t344 (t344.length : Int) 0 t326 t329 t332 t333 t334 t335 t336 t337))) = some r := H
  have A9 := zA.mk A90; clear A90; replace H := Option.bind_eq_some_iff.mp H; obtain ⟨⟨t340, t343⟩, A100, H⟩ := H; replace H : ((items_Parts.f k t326 t329).bind fun t344 => (stanzalaw16_LinesParts.l0 k t340 t343 0 0 false t344 (t344.length : Int) 0 t326 t329 t332 t333 t334 t335 t336 t337)) = some r := H
  have A10 := zA.mk A100; clear A100; replace H := Option.bind_eq_some_iff.mp H; obtain ⟨t344, A110, H⟩ := H; replace H : (stanzalaw16_LinesParts.l0 k t340 t343 0 0 false t344 (t344.length : Int) 0 t326 t329 t332 t333 t334 t335 t336 t337) = some r := H; have A11 := zA.mk A110; clear A110; have H' := zA.mk H
  clear H; go_enter Try.func4, Try.ntmps4
  try go_wp2_with (first | ((with_reducible refine gate_dst (N := 3) rfl ?_); (try (refine gate_guard (by rfl) ?_; dsimp only)); refine box_event ?hg (N := 3) ?hd (cs := #[.int .u8 a1_0, .int .u8 a1_1, .int .u8 a1_2, .int .u16 a1_3, .int .u16 a1_4, .float .f64 a1_5]) (t := 26) ?hr ?_; (case hd => rfl); (case hg => rfl); (case hr => first | (go_simp; done) | (go_simp; rfl)); intro gb324 hg w12 hbox hb; have n0_ := zA.mk (zN (by repeat (first | (with_reducible first | exact HB.out | apply zJ | apply zG | apply zI) | exact HB.out)) hb); have n1_ := zA.mk (hbox); have n2_ := zA.mk ((by rw [hg]; exact (zL (by repeat (first | (with_reducible first | exact HB.out | apply zJ | apply zG | apply zI) | exact HB.out))) : w.heap.size ≤ gb324)); have n3_ := zA.mk ((by rw [hg]; exact (zL (by repeat (first | (with_reducible first | exact HB.out | apply zJ | apply zG | apply zI) | exact HB.out))) : w.heap.size ≤ gb324)); clear HB; have HB := n0_; have BK324 := n1_; have GW324 := n2_; have GE324 := n3_; clear n0_ n1_ n2_ n3_; clear hb hbox hg) | ((with_reducible refine gate_callee (f := 9) rfl ?_); refine goesL_ (some 19) rfl rfl Try.func9 (by kernel_rfl) rfl #[] rfl (by (try simp only [List.map_toArray, List.map_cons, List.map_nil]); first | done | rfl | (simp only [List.length_drop, List.length_take]; rfl)) ?_; (with_reducible refine (stanzalaw16_Awake.calls k  true _ A3.out (by first | exact ⟨rfl⟩ | exact hrt_)).mono ?_); rintro e w13 ⟨rfl, hb⟩; refine ⟨_, rfl, ?_⟩; have n0_ := zA.mk (zK (g := gb324) (o := .cells #[.int .u8 a1_0, .int .u8 a1_1, .int .u8 a1_2, .int .u16 a1_3, .int .u16 a1_4, .float .f64 a1_5] 26 (0, 0)) (by (with_reducible repeat (first | refine zC ?_ _ | refine zD ?_ | refine zB ?_ _)); exact BK324.out) hb); have n1_ := zA.mk (zN (by repeat (first | (with_reducible first | exact HB.out | apply zJ | apply zG | apply zI | refine zE ?_ GE324.out) | exact HB.out)) hb); clear BK324; clear HB; have BK324 := n0_; have HB := n1_; clear n0_ n1_; (try clear hb); (try clear hb2); (try clear hk); (try clear hi)))
  have n0_ := zA.mk (zD BK324.out); have n1_ := zA.mk (zI HB.out); clear BK324; clear HB; have BK324 := n0_; have HB := n1_; clear n0_ n1_; refine start_ (n := 8) (S := fun w' => w'.cell? ⟨gb324, 0, none⟩ = some (.int .u8 a1_0) ∧ w'.cell? ⟨gb324, 1, none⟩ = some (.int .u8 a1_1) ∧ w'.cell? ⟨gb324, 2, none⟩ = some (.int .u8 a1_2) ∧ w'.cell? ⟨gb324, 3, none⟩ = some (.int .u16 a1_3) ∧ w'.cell? ⟨gb324, 4, none⟩ = some (.int .u16 a1_4) ∧ w'.cell? ⟨gb324, 5, none⟩ = some (.float .f64 a1_5)) (ds := []) #[false, false, false, false, false, false, false, false] (by kernel_rfl) rfl rfl ⟨(zF BK324.out 0).trans rfl, (zF BK324.out 1).trans rfl, (zF BK324.out 2).trans rfl, (zF BK324.out 3).trans rfl, (zF BK324.out 4).trans rfl, (zF BK324.out 5).trans rfl⟩ (fun hHeld => ?_); refine with_tabW stanzalaw16_LinesParts.tab5 stanzalaw16_LinesParts.bits5 (fun HT_ HW_ => ?_)
  generalize w13.drew = w14 at BK324 HB hHeld ⊢
  refine pure_ (i := 0) (N := some 24) (v := ?_) (a' := ?_) (tf_ 1 8) rfl rfl (any_of HT_.out (by kernel_rfl)) (fun _ _ _ h => h) (Or.inl ⟨by rfl, ?_⟩) ?_ ?_
  rotate_left
  · intro w'
    go_simp
    with_reducible rfl
  rotate_left
  · simp only [Act.put, sA_, sB_, sC_, i64_w, i32_w]
    rfl
  refine take_ (i := 2) (N := some 26) (v := ?_) (a' := ?_) #[true, false, true, false, false, false, false, false] rfl rfl (take_ofW HT_.out HW_.out (by kernel_rfl)) (fun _ _ _ h => h) (Or.inl ⟨by rfl, ?_⟩) hHeld ?_ ?_
  rotate_left
  · rintro w' ⟨s0, s1, s2, s3, s4, s5⟩
    go_simp
    with_reducible rfl
  rotate_left
  · simp only [Act.put, sA_, sB_, sC_, i64_w, i32_w]
    rfl
  refine join_ (σ := Value × Value × Nat × Nat) 2 #[true, true, true, true, true, true, false, false] (fun s_ => [(25, .agg #[s_.1, s_.2.1]), (27, .agg #[.int .i64 t332, .int .i64 t333, .int .u8 t334, .int .i64 t335, .int .i64 t336, .float .f64 t337]), (5, .pointer (some ⟨s_.2.2.1, 0, none⟩)), (6, .pointer (some ⟨s_.2.2.2, 0, none⟩))]) (fun s_ w' => (w'.cell? ⟨gb324, 0, none⟩ = some (.int .u8 a1_0) ∧ w'.cell? ⟨gb324, 1, none⟩ = some (.int .u8 a1_1) ∧ w'.cell? ⟨gb324, 2, none⟩ = some (.int .u8 a1_2) ∧ w'.cell? ⟨gb324, 3, none⟩ = some (.int .u16 a1_3) ∧ w'.cell? ⟨gb324, 4, none⟩ = some (.int .u16 a1_4) ∧ w'.cell? ⟨gb324, 5, none⟩ = some (.float .f64 a1_5)) ∧ (Kd.R k66 66 w' w.heap.size (fun _ => True) s_.1 t326) ∧ (Kd.R (Kd.int .u8) 51 w' w.heap.size (fun _ => True) s_.2.1 t329) ∧ (w'.heap[gb324]? = some (.cells #[.int .u8 a1_0, .int .u8 a1_1, .int .u8 a1_2, .int .u16 a1_3, .int .u16 a1_4, .float .f64 a1_5] 26 (0, 0))) ∧ (w'.heap[s_.2.2.1]? = some (.cells #[.slice none 0 0, .slice none 0 0] 31 (0, 0))) ∧ (w'.heap[s_.2.2.2]? = some (.cells #[.int .i64 0, .int .i64 0, .int .u8 0, .int .i64 0, .int .i64 0, .float .f64 0] 35 (0, 0))) ∧ (w.heap.size ≤ s_.2.2.1) ∧ (w.heap.size ≤ s_.2.2.1) ∧ (gb324 ≠ s_.2.2.1) ∧ (s_.2.2.1 ≠ gb324) ∧ (s_.2.2.2 ≠ s_.2.2.1) ∧ (s_.2.2.1 ≠ s_.2.2.2) ∧ (w.heap.size ≤ s_.2.2.2) ∧ (w.heap.size ≤ s_.2.2.2) ∧ (gb324 ≠ s_.2.2.2) ∧ (s_.2.2.2 ≠ gb324) ∧ (Below w.heap.size w w')) ?_ ?_
  rotate_left
  · intro hJ1_3_4_5
    refine join_ (σ := Value × Value × Nat) 3 #[true, true, true, true, true, false, false, false] (fun s_ => [(25, .agg #[s_.1, s_.2.1]), (27, .agg #[.int .i64 t332, .int .i64 t333, .int .u8 t334, .int .i64 t335, .int .i64 t336, .float .f64 t337]), (5, .pointer (some ⟨s_.2.2, 0, none⟩))]) (fun s_ w' => (w'.cell? ⟨gb324, 0, none⟩ = some (.int .u8 a1_0) ∧ w'.cell? ⟨gb324, 1, none⟩ = some (.int .u8 a1_1) ∧ w'.cell? ⟨gb324, 2, none⟩ = some (.int .u8 a1_2) ∧ w'.cell? ⟨gb324, 3, none⟩ = some (.int .u16 a1_3) ∧ w'.cell? ⟨gb324, 4, none⟩ = some (.int .u16 a1_4) ∧ w'.cell? ⟨gb324, 5, none⟩ = some (.float .f64 a1_5)) ∧ (Kd.R k66 66 w' w.heap.size (fun _ => True) s_.1 t326) ∧ (Kd.R (Kd.int .u8) 51 w' w.heap.size (fun _ => True) s_.2.1 t329) ∧ (w'.heap[gb324]? = some (.cells #[.int .u8 a1_0, .int .u8 a1_1, .int .u8 a1_2, .int .u16 a1_3, .int .u16 a1_4, .float .f64 a1_5] 26 (0, 0))) ∧ (w'.heap[s_.2.2]? = some (.cells #[.slice none 0 0, .slice none 0 0] 31 (0, 0))) ∧ (w.heap.size ≤ s_.2.2) ∧ (w.heap.size ≤ s_.2.2) ∧ (gb324 ≠ s_.2.2) ∧ (s_.2.2 ≠ gb324) ∧ (Below w.heap.size w w')) ?_ ?_
    rotate_left
    · intro hJ1_3_4
      refine join_ (σ := Value × Value × Nat) 3 #[true, true, true, true, false, true, false, false] (fun s_ => [(25, .agg #[s_.1, s_.2.1]), (27, .agg #[.int .i64 t332, .int .i64 t333, .int .u8 t334, .int .i64 t335, .int .i64 t336, .float .f64 t337]), (6, .pointer (some ⟨s_.2.2, 0, none⟩))]) (fun s_ w' => (w'.cell? ⟨gb324, 0, none⟩ = some (.int .u8 a1_0) ∧ w'.cell? ⟨gb324, 1, none⟩ = some (.int .u8 a1_1) ∧ w'.cell? ⟨gb324, 2, none⟩ = some (.int .u8 a1_2) ∧ w'.cell? ⟨gb324, 3, none⟩ = some (.int .u16 a1_3) ∧ w'.cell? ⟨gb324, 4, none⟩ = some (.int .u16 a1_4) ∧ w'.cell? ⟨gb324, 5, none⟩ = some (.float .f64 a1_5)) ∧ (Kd.R k66 66 w' w.heap.size (fun _ => True) s_.1 t326) ∧ (Kd.R (Kd.int .u8) 51 w' w.heap.size (fun _ => True) s_.2.1 t329) ∧ (w'.heap[gb324]? = some (.cells #[.int .u8 a1_0, .int .u8 a1_1, .int .u8 a1_2, .int .u16 a1_3, .int .u16 a1_4, .float .f64 a1_5] 26 (0, 0))) ∧ (w'.heap[s_.2.2]? = some (.cells #[.int .i64 0, .int .i64 0, .int .u8 0, .int .i64 0, .int .i64 0, .float .f64 0] 35 (0, 0))) ∧ (w.heap.size ≤ s_.2.2) ∧ (w.heap.size ≤ s_.2.2) ∧ (gb324 ≠ s_.2.2) ∧ (s_.2.2 ≠ gb324) ∧ (Below w.heap.size w w')) ?_ ?_
      rotate_left
      · intro hJ1_3_5
        refine join_ (σ := Value × Value × Nat × Nat) 3 #[true, true, true, false, true, true, false, false] (fun s_ => [(25, .agg #[s_.1, s_.2.1]), (5, .pointer (some ⟨s_.2.2.1, 0, none⟩)), (6, .pointer (some ⟨s_.2.2.2, 0, none⟩))]) (fun s_ w' => (w'.cell? ⟨gb324, 0, none⟩ = some (.int .u8 a1_0) ∧ w'.cell? ⟨gb324, 1, none⟩ = some (.int .u8 a1_1) ∧ w'.cell? ⟨gb324, 2, none⟩ = some (.int .u8 a1_2) ∧ w'.cell? ⟨gb324, 3, none⟩ = some (.int .u16 a1_3) ∧ w'.cell? ⟨gb324, 4, none⟩ = some (.int .u16 a1_4) ∧ w'.cell? ⟨gb324, 5, none⟩ = some (.float .f64 a1_5)) ∧ (Kd.R k66 66 w' w.heap.size (fun _ => True) s_.1 t326) ∧ (Kd.R (Kd.int .u8) 51 w' w.heap.size (fun _ => True) s_.2.1 t329) ∧ (w'.heap[gb324]? = some (.cells #[.int .u8 a1_0, .int .u8 a1_1, .int .u8 a1_2, .int .u16 a1_3, .int .u16 a1_4, .float .f64 a1_5] 26 (0, 0))) ∧ (w'.heap[s_.2.2.1]? = some (.cells #[.slice none 0 0, .slice none 0 0] 31 (0, 0))) ∧ (w'.heap[s_.2.2.2]? = some (.cells #[.int .i64 0, .int .i64 0, .int .u8 0, .int .i64 0, .int .i64 0, .float .f64 0] 35 (0, 0))) ∧ (w.heap.size ≤ s_.2.2.1) ∧ (w.heap.size ≤ s_.2.2.1) ∧ (gb324 ≠ s_.2.2.1) ∧ (s_.2.2.1 ≠ gb324) ∧ (s_.2.2.2 ≠ s_.2.2.1) ∧ (s_.2.2.1 ≠ s_.2.2.2) ∧ (w.heap.size ≤ s_.2.2.2) ∧ (w.heap.size ≤ s_.2.2.2) ∧ (gb324 ≠ s_.2.2.2) ∧ (s_.2.2.2 ≠ gb324) ∧ (Below w.heap.size w w')) ?_ ?_
        rotate_left
        · intro hJ1_4_5
          refine join_ (σ := Value × Value) 4 #[true, true, true, true, false, false, false, false] (fun s_ => [(25, .agg #[s_.1, s_.2]), (27, .agg #[.int .i64 t332, .int .i64 t333, .int .u8 t334, .int .i64 t335, .int .i64 t336, .float .f64 t337])]) (fun s_ w' => (w'.cell? ⟨gb324, 0, none⟩ = some (.int .u8 a1_0) ∧ w'.cell? ⟨gb324, 1, none⟩ = some (.int .u8 a1_1) ∧ w'.cell? ⟨gb324, 2, none⟩ = some (.int .u8 a1_2) ∧ w'.cell? ⟨gb324, 3, none⟩ = some (.int .u16 a1_3) ∧ w'.cell? ⟨gb324, 4, none⟩ = some (.int .u16 a1_4) ∧ w'.cell? ⟨gb324, 5, none⟩ = some (.float .f64 a1_5)) ∧ (Kd.R k66 66 w' w.heap.size (fun _ => True) s_.1 t326) ∧ (Kd.R (Kd.int .u8) 51 w' w.heap.size (fun _ => True) s_.2 t329) ∧ (w'.heap[gb324]? = some (.cells #[.int .u8 a1_0, .int .u8 a1_1, .int .u8 a1_2, .int .u16 a1_3, .int .u16 a1_4, .float .f64 a1_5] 26 (0, 0))) ∧ (Below w.heap.size w w')) ?_ ?_
          rotate_left
          · intro hJ1_3
            refine join_ (σ := Value × Value × Nat) 4 #[true, true, true, false, true, false, false, false] (fun s_ => [(25, .agg #[s_.1, s_.2.1]), (5, .pointer (some ⟨s_.2.2, 0, none⟩))]) (fun s_ w' => (w'.cell? ⟨gb324, 0, none⟩ = some (.int .u8 a1_0) ∧ w'.cell? ⟨gb324, 1, none⟩ = some (.int .u8 a1_1) ∧ w'.cell? ⟨gb324, 2, none⟩ = some (.int .u8 a1_2) ∧ w'.cell? ⟨gb324, 3, none⟩ = some (.int .u16 a1_3) ∧ w'.cell? ⟨gb324, 4, none⟩ = some (.int .u16 a1_4) ∧ w'.cell? ⟨gb324, 5, none⟩ = some (.float .f64 a1_5)) ∧ (Kd.R k66 66 w' w.heap.size (fun _ => True) s_.1 t326) ∧ (Kd.R (Kd.int .u8) 51 w' w.heap.size (fun _ => True) s_.2.1 t329) ∧ (w'.heap[gb324]? = some (.cells #[.int .u8 a1_0, .int .u8 a1_1, .int .u8 a1_2, .int .u16 a1_3, .int .u16 a1_4, .float .f64 a1_5] 26 (0, 0))) ∧ (w'.heap[s_.2.2]? = some (.cells #[.slice none 0 0, .slice none 0 0] 31 (0, 0))) ∧ (w.heap.size ≤ s_.2.2) ∧ (w.heap.size ≤ s_.2.2) ∧ (gb324 ≠ s_.2.2) ∧ (s_.2.2 ≠ gb324) ∧ (Below w.heap.size w w')) ?_ ?_
            rotate_left
            · intro hJ1_4
              refine join_ (σ := Value × Value × Nat) 4 #[true, true, true, false, false, true, false, false] (fun s_ => [(25, .agg #[s_.1, s_.2.1]), (6, .pointer (some ⟨s_.2.2, 0, none⟩))]) (fun s_ w' => (w'.cell? ⟨gb324, 0, none⟩ = some (.int .u8 a1_0) ∧ w'.cell? ⟨gb324, 1, none⟩ = some (.int .u8 a1_1) ∧ w'.cell? ⟨gb324, 2, none⟩ = some (.int .u8 a1_2) ∧ w'.cell? ⟨gb324, 3, none⟩ = some (.int .u16 a1_3) ∧ w'.cell? ⟨gb324, 4, none⟩ = some (.int .u16 a1_4) ∧ w'.cell? ⟨gb324, 5, none⟩ = some (.float .f64 a1_5)) ∧ (Kd.R k66 66 w' w.heap.size (fun _ => True) s_.1 t326) ∧ (Kd.R (Kd.int .u8) 51 w' w.heap.size (fun _ => True) s_.2.1 t329) ∧ (w'.heap[gb324]? = some (.cells #[.int .u8 a1_0, .int .u8 a1_1, .int .u8 a1_2, .int .u16 a1_3, .int .u16 a1_4, .float .f64 a1_5] 26 (0, 0))) ∧ (w'.heap[s_.2.2]? = some (.cells #[.int .i64 0, .int .i64 0, .int .u8 0, .int .i64 0, .int .i64 0, .float .f64 0] 35 (0, 0))) ∧ (w.heap.size ≤ s_.2.2) ∧ (w.heap.size ≤ s_.2.2) ∧ (gb324 ≠ s_.2.2) ∧ (s_.2.2 ≠ gb324) ∧ (Below w.heap.size w w')) ?_ ?_
              rotate_left
              · intro hJ1_5
                refine join_ (σ := Nat × Nat) 4 #[true, false, true, false, true, true, false, false] (fun s_ => [(5, .pointer (some ⟨s_.1, 0, none⟩)), (6, .pointer (some ⟨s_.2, 0, none⟩))]) (fun s_ w' => (w'.cell? ⟨gb324, 0, none⟩ = some (.int .u8 a1_0) ∧ w'.cell? ⟨gb324, 1, none⟩ = some (.int .u8 a1_1) ∧ w'.cell? ⟨gb324, 2, none⟩ = some (.int .u8 a1_2) ∧ w'.cell? ⟨gb324, 3, none⟩ = some (.int .u16 a1_3) ∧ w'.cell? ⟨gb324, 4, none⟩ = some (.int .u16 a1_4) ∧ w'.cell? ⟨gb324, 5, none⟩ = some (.float .f64 a1_5)) ∧ (w'.heap[gb324]? = some (.cells #[.int .u8 a1_0, .int .u8 a1_1, .int .u8 a1_2, .int .u16 a1_3, .int .u16 a1_4, .float .f64 a1_5] 26 (0, 0))) ∧ (w'.heap[s_.1]? = some (.cells #[.slice none 0 0, .slice none 0 0] 31 (0, 0))) ∧ (w'.heap[s_.2]? = some (.cells #[.int .i64 0, .int .i64 0, .int .u8 0, .int .i64 0, .int .i64 0, .float .f64 0] 35 (0, 0))) ∧ (w.heap.size ≤ s_.1) ∧ (w.heap.size ≤ s_.1) ∧ (gb324 ≠ s_.1) ∧ (s_.1 ≠ gb324) ∧ (s_.2 ≠ s_.1) ∧ (s_.1 ≠ s_.2) ∧ (w.heap.size ≤ s_.2) ∧ (w.heap.size ≤ s_.2) ∧ (gb324 ≠ s_.2) ∧ (s_.2 ≠ gb324) ∧ (Below w.heap.size w w')) ?_ ?_
                rotate_left
                · intro hJ4_5
                  refine join_ (σ := Value × Value) 5 #[true, true, true, false, false, false, false, false] (fun s_ => [(25, .agg #[s_.1, s_.2])]) (fun s_ w' => (w'.cell? ⟨gb324, 0, none⟩ = some (.int .u8 a1_0) ∧ w'.cell? ⟨gb324, 1, none⟩ = some (.int .u8 a1_1) ∧ w'.cell? ⟨gb324, 2, none⟩ = some (.int .u8 a1_2) ∧ w'.cell? ⟨gb324, 3, none⟩ = some (.int .u16 a1_3) ∧ w'.cell? ⟨gb324, 4, none⟩ = some (.int .u16 a1_4) ∧ w'.cell? ⟨gb324, 5, none⟩ = some (.float .f64 a1_5)) ∧ (Kd.R k66 66 w' w.heap.size (fun _ => True) s_.1 t326) ∧ (Kd.R (Kd.int .u8) 51 w' w.heap.size (fun _ => True) s_.2 t329) ∧ (w'.heap[gb324]? = some (.cells #[.int .u8 a1_0, .int .u8 a1_1, .int .u8 a1_2, .int .u16 a1_3, .int .u16 a1_4, .float .f64 a1_5] 26 (0, 0))) ∧ (Below w.heap.size w w')) ?_ ?_
                  rotate_left
                  · intro hJ1
                    refine join_ (σ := Nat) 5 #[true, false, true, false, true, false, false, false] (fun s_ => [(5, .pointer (some ⟨s_, 0, none⟩))]) (fun s_ w' => (w'.cell? ⟨gb324, 0, none⟩ = some (.int .u8 a1_0) ∧ w'.cell? ⟨gb324, 1, none⟩ = some (.int .u8 a1_1) ∧ w'.cell? ⟨gb324, 2, none⟩ = some (.int .u8 a1_2) ∧ w'.cell? ⟨gb324, 3, none⟩ = some (.int .u16 a1_3) ∧ w'.cell? ⟨gb324, 4, none⟩ = some (.int .u16 a1_4) ∧ w'.cell? ⟨gb324, 5, none⟩ = some (.float .f64 a1_5)) ∧ (w'.heap[gb324]? = some (.cells #[.int .u8 a1_0, .int .u8 a1_1, .int .u8 a1_2, .int .u16 a1_3, .int .u16 a1_4, .float .f64 a1_5] 26 (0, 0))) ∧ (w'.heap[s_]? = some (.cells #[.slice none 0 0, .slice none 0 0] 31 (0, 0))) ∧ (w.heap.size ≤ s_) ∧ (w.heap.size ≤ s_) ∧ (gb324 ≠ s_) ∧ (s_ ≠ gb324) ∧ (Below w.heap.size w w')) ?_ ?_
                    rotate_left
                    · intro hJ4
                      refine join_ (σ := Nat) 5 #[true, false, true, false, false, true, false, false] (fun s_ => [(6, .pointer (some ⟨s_, 0, none⟩))]) (fun s_ w' => (w'.cell? ⟨gb324, 0, none⟩ = some (.int .u8 a1_0) ∧ w'.cell? ⟨gb324, 1, none⟩ = some (.int .u8 a1_1) ∧ w'.cell? ⟨gb324, 2, none⟩ = some (.int .u8 a1_2) ∧ w'.cell? ⟨gb324, 3, none⟩ = some (.int .u16 a1_3) ∧ w'.cell? ⟨gb324, 4, none⟩ = some (.int .u16 a1_4) ∧ w'.cell? ⟨gb324, 5, none⟩ = some (.float .f64 a1_5)) ∧ (w'.heap[gb324]? = some (.cells #[.int .u8 a1_0, .int .u8 a1_1, .int .u8 a1_2, .int .u16 a1_3, .int .u16 a1_4, .float .f64 a1_5] 26 (0, 0))) ∧ (w'.heap[s_]? = some (.cells #[.int .i64 0, .int .i64 0, .int .u8 0, .int .i64 0, .int .i64 0, .float .f64 0] 35 (0, 0))) ∧ (w.heap.size ≤ s_) ∧ (w.heap.size ≤ s_) ∧ (gb324 ≠ s_) ∧ (s_ ≠ gb324) ∧ (Below w.heap.size w w')) ?_ ?_
                      rotate_left
                      · intro hJ5
                        refine three_ (i := 1) (j := 4) (k := 5) (Ni := some 25) (Nj := some 5) (Nk := some 6) #[true, true, true, false, false, false, false, false] #[true, false, true, false, true, false, false, false] #[true, false, true, false, false, true, false, false] rfl rfl rfl rfl rfl rfl (three_of HT_.out (by kernel_rfl)) (by decide) (by decide) (by decide) (fun K hK => ?_) (fun K hK => ?_) (fun K hK => ?_)
                        · skip
                          refine goes_ Try.func10 (by kernel_rfl) rfl #[.slice A0 l0.length c0] (by rfl) rfl rfl (by (try simp only [List.map_toArray, List.map_cons, List.map_nil]); first | done | rfl | (simp only [List.length_drop, List.length_take]; rfl)) ?_
                          with_reducible refine (stanzahand03_Para.calls k _ _ l0 t326 t329 _ ?side1 ?side2 A8.out).mono ?_
                          (case side1 => repeat (first | exact (Kd.C_below HR0.out HB.out) | (with_reducible refine Kd.C_alloc ?_ _) | (with_reducible refine Kd.C_drewN ?_ _) | (with_reducible refine Kd.C_drew ?_)))
                          (case side2 => exact HC0.out)
                          rintro e w15 ⟨v327, v330, rfl, ho0, ho1, hb⟩
                          refine ⟨_, rfl, ?_⟩
                          have n0_ := zA.mk (Kd.R_lower ho0 (zL (by repeat (first | (with_reducible first | exact HB.out | apply zJ | apply zG | apply zI | refine zE ?_ GE324.out) | exact HB.out))))
                          have n1_ := zA.mk (Kd.R_lower ho1 (zL (by repeat (first | (with_reducible first | exact HB.out | apply zJ | apply zG | apply zI | refine zE ?_ GE324.out) | exact HB.out))))
                          have n2_ := zA.mk (zK (g := gb324) (o := .cells #[.int .u8 a1_0, .int .u8 a1_1, .int .u8 a1_2, .int .u16 a1_3, .int .u16 a1_4, .float .f64 a1_5] 26 (0, 0)) (by (with_reducible repeat (first | refine zC ?_ _ | refine zD ?_ | refine zB ?_ _)); exact BK324.out) hb)
                          have n3_ := zA.mk (zN (by repeat (first | (with_reducible first | exact HB.out | apply zJ | apply zG | apply zI | refine zE ?_ GE324.out) | exact HB.out)) hb)
                          clear BK324 HB; have HO328 := n0_; have HO331 := n1_; have BK324 := n2_; have HB := n3_; clear n0_ n1_ n2_ n3_; (try clear hb)
                          (try clear hb2)
                          (try clear hk)
                          (try clear hi)
                          (try clear ho0)
                          (try clear ho1)
                          refine hK.out _ _ ⟨(zF BK324.out 0).trans rfl, (zF BK324.out 1).trans rfl, (zF BK324.out 2).trans rfl, (zF BK324.out 3).trans rfl, (zF BK324.out 4).trans rfl, (zF BK324.out 5).trans rfl⟩ (fun hHeld => ?_)
                          clear hK K; refine norm_ (a' := ?_) ?_ ?_
                          rotate_left
                          · show Act.put _ (some 25) _ = _
                            simp only [Act.put, sA_, sB_, sC_, i64_w, i32_w]; rfl
                          exact norm_ (by first | (simp only [putAll, Act.put, sA_, sB_, sC_]; done) | (simp only [putAll, Act.put, sA_, sB_, sC_]; rfl)) (hJ1 (v327, v330) _ ⟨hHeld, (by (with_reducible repeat (first | apply Kd.R_alloc | apply Kd.R_drewN | apply Kd.R_drew)); exact HO328.out), (by (with_reducible repeat (first | apply Kd.R_alloc | apply Kd.R_drewN | apply Kd.R_drew)); exact HO331.out), (by (with_reducible repeat (first | refine zC ?_ _ | refine zD ?_ | refine zB ?_ _)); exact BK324.out), (by repeat (first | (with_reducible first | exact HB.out | apply zJ | apply zG | apply zI | refine zE ?_ GE324.out) | exact HB.out))⟩)
                        · skip
                          refine box_step ?hg (N := 5) ?hd (cs := #[.slice none 0 0, .slice none 0 0]) (t := 31) ?hr ?_; (case hd => rfl); (case hg => rfl); (case hr => first | (go_simp; done) | (go_simp; rfl))
                          intro gb338 hg w15 hbox hb
                          have n0_ := zA.mk (zK (g := gb324) (o := .cells #[.int .u8 a1_0, .int .u8 a1_1, .int .u8 a1_2, .int .u16 a1_3, .int .u16 a1_4, .float .f64 a1_5] 26 (0, 0)) (by (with_reducible repeat (first | refine zC ?_ _ | refine zD ?_ | refine zB ?_ _)); exact BK324.out) hb)
                          have n1_ := zA.mk (zN (by repeat (first | (with_reducible first | exact HB.out | apply zJ | apply zG | apply zI | refine zE ?_ GE324.out) | exact HB.out)) hb)
                          have n2_ := zA.mk (hbox); have n3_ := zA.mk ((by rw [hg]; exact (zL (by repeat (first | (with_reducible first | exact HB.out | apply zJ | apply zG | apply zI | refine zE ?_ GE324.out) | exact HB.out))) : w.heap.size ≤ gb338))
                          have n4_ := zA.mk ((by rw [hg]; exact (zL (by repeat (first | (with_reducible first | exact HB.out | apply zJ | apply zG | apply zI | refine zE ?_ GE324.out) | exact HB.out))) : w.heap.size ≤ gb338))
                          have n5_ := zA.mk ((by rw [hg]; exact Nat.ne_of_lt (blk_lt (g := gb324) (o := .cells #[.int .u8 a1_0, .int .u8 a1_1, .int .u8 a1_2, .int .u16 a1_3, .int .u16 a1_4, .float .f64 a1_5] 26 (0, 0)) (by (with_reducible repeat (first | refine zC ?_ _ | refine zD ?_ | refine zB ?_ _)); exact BK324.out)) : gb324 ≠ gb338))
                          have n6_ := zA.mk ((by rw [hg]; exact Nat.ne_of_gt (blk_lt (g := gb324) (o := .cells #[.int .u8 a1_0, .int .u8 a1_1, .int .u8 a1_2, .int .u16 a1_3, .int .u16 a1_4, .float .f64 a1_5] 26 (0, 0)) (by (with_reducible repeat (first | refine zC ?_ _ | refine zD ?_ | refine zB ?_ _)); exact BK324.out)) : gb338 ≠ gb324))
                          clear BK324 HB; have BK324 := n0_; have HB := n1_; have BK338 := n2_; have GW338 := n3_; have GE338 := n4_; have NB324_338 := n5_; have NB338_324 := n6_; clear n0_ n1_ n2_ n3_ n4_ n5_ n6_; clear hb hbox hg; refine hK.out _ _ ⟨(zF BK324.out 0).trans rfl, (zF BK324.out 1).trans rfl, (zF BK324.out 2).trans rfl, (zF BK324.out 3).trans rfl, (zF BK324.out 4).trans rfl, (zF BK324.out 5).trans rfl⟩ (fun hHeld => ?_)
                          clear hK K; refine norm_ (a' := ?_) ?_ ?_
                          rotate_left
                          · show Act.put _ (some 5) _ = _
                            simp only [Act.put, sA_, sB_, sC_, i64_w, i32_w]; rfl
                          exact norm_ (by first | (simp only [putAll, Act.put, sA_, sB_, sC_]; done) | (simp only [putAll, Act.put, sA_, sB_, sC_]; rfl)) (hJ4 (gb338) _ ⟨hHeld, (by (with_reducible repeat (first | refine zC ?_ _ | refine zD ?_ | refine zB ?_ _)); exact BK324.out), (by (with_reducible repeat (first | refine zC ?_ _ | refine zD ?_ | refine zB ?_ _)); exact BK338.out), GW338.out, GE338.out, NB324_338.out, NB338_324.out, (by repeat (first | (with_reducible first | exact HB.out | apply zJ | apply zG | apply zI | refine zE ?_ GE324.out | refine zE ?_ GE338.out) | exact HB.out))⟩)
                        skip
                        refine box_step ?hg (N := 6) ?hd (cs := #[.int .i64 0, .int .i64 0, .int .u8 0, .int .i64 0, .int .i64 0, .float .f64 0]) (t := 35) ?hr ?_; (case hd => rfl); (case hg => rfl); (case hr => first | (go_simp; done) | (go_simp; rfl))
                        intro gb339 hg w15 hbox hb
                        have n0_ := zA.mk (zK (g := gb324) (o := .cells #[.int .u8 a1_0, .int .u8 a1_1, .int .u8 a1_2, .int .u16 a1_3, .int .u16 a1_4, .float .f64 a1_5] 26 (0, 0)) (by (with_reducible repeat (first | refine zC ?_ _ | refine zD ?_ | refine zB ?_ _)); exact BK324.out) hb)
                        have n1_ := zA.mk (zN (by repeat (first | (with_reducible first | exact HB.out | apply zJ | apply zG | apply zI | refine zE ?_ GE324.out) | exact HB.out)) hb)
                        have n2_ := zA.mk (hbox); have n3_ := zA.mk ((by rw [hg]; exact (zL (by repeat (first | (with_reducible first | exact HB.out | apply zJ | apply zG | apply zI | refine zE ?_ GE324.out) | exact HB.out))) : w.heap.size ≤ gb339))
                        have n4_ := zA.mk ((by rw [hg]; exact (zL (by repeat (first | (with_reducible first | exact HB.out | apply zJ | apply zG | apply zI | refine zE ?_ GE324.out) | exact HB.out))) : w.heap.size ≤ gb339))
                        have n5_ := zA.mk ((by rw [hg]; exact Nat.ne_of_lt (blk_lt (g := gb324) (o := .cells #[.int .u8 a1_0, .int .u8 a1_1, .int .u8 a1_2, .int .u16 a1_3, .int .u16 a1_4, .float .f64 a1_5] 26 (0, 0)) (by (with_reducible repeat (first | refine zC ?_ _ | refine zD ?_ | refine zB ?_ _)); exact BK324.out)) : gb324 ≠ gb339))
                        have n6_ := zA.mk ((by rw [hg]; exact Nat.ne_of_gt (blk_lt (g := gb324) (o := .cells #[.int .u8 a1_0, .int .u8 a1_1, .int .u8 a1_2, .int .u16 a1_3, .int .u16 a1_4, .float .f64 a1_5] 26 (0, 0)) (by (with_reducible repeat (first | refine zC ?_ _ | refine zD ?_ | refine zB ?_ _)); exact BK324.out)) : gb339 ≠ gb324))
                        clear BK324 HB; have BK324 := n0_; have HB := n1_; have BK339 := n2_; have GW339 := n3_; have GE339 := n4_; have NB324_339 := n5_; have NB339_324 := n6_; clear n0_ n1_ n2_ n3_ n4_ n5_ n6_; clear hb hbox hg; refine hK.out _ _ ⟨(zF BK324.out 0).trans rfl, (zF BK324.out 1).trans rfl, (zF BK324.out 2).trans rfl, (zF BK324.out 3).trans rfl, (zF BK324.out 4).trans rfl, (zF BK324.out 5).trans rfl⟩ (fun hHeld => ?_)
                        clear hK K; refine norm_ (a' := ?_) ?_ ?_
                        rotate_left
                        · show Act.put _ (some 6) _ = _
                          simp only [Act.put, sA_, sB_, sC_, i64_w, i32_w]; rfl
                        exact norm_ (by first | (simp only [putAll, Act.put, sA_, sB_, sC_]; done) | (simp only [putAll, Act.put, sA_, sB_, sC_]; rfl)) (hJ5 (gb339) _ ⟨hHeld, (by (with_reducible repeat (first | refine zC ?_ _ | refine zD ?_ | refine zB ?_ _)); exact BK324.out), (by (with_reducible repeat (first | refine zC ?_ _ | refine zD ?_ | refine zB ?_ _)); exact BK339.out), GW339.out, GE339.out, NB324_339.out, NB339_324.out, (by repeat (first | (with_reducible first | exact HB.out | apply zJ | apply zG | apply zI | refine zE ?_ GE324.out | refine zE ?_ GE339.out) | exact HB.out))⟩)
                      skip
                      rintro gb339 w16 ⟨hS_, h0_, h1_, h2_, h3_, h4_, h5_, h6_⟩
                      have n0_ : zA (w16.heap[gb324]? = some (.cells #[.int .u8 a1_0, .int .u8 a1_1, .int .u8 a1_2, .int .u16 a1_3, .int .u16 a1_4, .float .f64 a1_5] 26 (0, 0))) := ⟨h0_⟩
                      have n1_ : zA (w16.heap[gb339]? = some (.cells #[.int .i64 0, .int .i64 0, .int .u8 0, .int .i64 0, .int .i64 0, .float .f64 0] 35 (0, 0))) := ⟨h1_⟩
                      have n2_ : zA (w.heap.size ≤ gb339) := ⟨h2_⟩
                      have n3_ : zA (w.heap.size ≤ gb339) := ⟨h3_⟩
                      have n4_ : zA (gb324 ≠ gb339) := ⟨h4_⟩
                      have n5_ : zA (gb339 ≠ gb324) := ⟨h5_⟩
                      have n6_ : zA (Below w.heap.size w w16) := ⟨h6_⟩
                      clear BK324 HB h0_ h1_ h2_ h3_ h4_ h5_ h6_; have BK324 := n0_; have BK339 := n1_; have GW339 := n2_; have GE339 := n3_; have NB324_339 := n4_; have NB339_324 := n5_; have HB := n6_; clear n0_ n1_ n2_ n3_ n4_ n5_ n6_; have hHeld : w16.cell? ⟨gb324, 0, none⟩ = some (.int .u8 a1_0) ∧ w16.cell? ⟨gb324, 1, none⟩ = some (.int .u8 a1_1) ∧ w16.cell? ⟨gb324, 2, none⟩ = some (.int .u8 a1_2) ∧ w16.cell? ⟨gb324, 3, none⟩ = some (.int .u16 a1_3) ∧ w16.cell? ⟨gb324, 4, none⟩ = some (.int .u16 a1_4) ∧ w16.cell? ⟨gb324, 5, none⟩ = some (.float .f64 a1_5) := hS_
                      refine norm_ (a' := ?_) ?_ ?_
                      rotate_left
                      · simp only [putAll, Act.put, sA_, sB_, sC_]
                        rfl
                      refine two_ (i := 1) (j := 4) (Ni := some 25) (Nj := some 5) #[true, true, true, false, false, true, false, false] #[true, false, true, false, true, true, false, false] rfl rfl rfl rfl (two_of HT_.out (by kernel_rfl)) (by decide) (by decide) (fun K hK => ?_) (fun K hK => ?_)
                      · skip
                        refine goes_ Try.func10 (by kernel_rfl) rfl #[.slice A0 l0.length c0] (by rfl) rfl rfl (by (try simp only [List.map_toArray, List.map_cons, List.map_nil]); first | done | rfl | (simp only [List.length_drop, List.length_take]; rfl)) ?_
                        with_reducible refine (stanzahand03_Para.calls k _ _ l0 t326 t329 _ ?side1 ?side2 A8.out).mono ?_
                        (case side1 => repeat (first | exact (Kd.C_below HR0.out HB.out) | (with_reducible refine Kd.C_alloc ?_ _) | (with_reducible refine Kd.C_drewN ?_ _) | (with_reducible refine Kd.C_drew ?_)))
                        (case side2 => exact HC0.out)
                        rintro e w17 ⟨v327, v330, rfl, ho0, ho1, hb⟩
                        refine ⟨_, rfl, ?_⟩
                        have n0_ := zA.mk (Kd.R_lower ho0 (zL (by repeat (first | (with_reducible first | exact HB.out | apply zJ | apply zG | apply zI | refine zE ?_ GE324.out | refine zE ?_ GE339.out) | exact HB.out))))
                        have n1_ := zA.mk (Kd.R_lower ho1 (zL (by repeat (first | (with_reducible first | exact HB.out | apply zJ | apply zG | apply zI | refine zE ?_ GE324.out | refine zE ?_ GE339.out) | exact HB.out))))
                        have n2_ := zA.mk (zK (g := gb324) (o := .cells #[.int .u8 a1_0, .int .u8 a1_1, .int .u8 a1_2, .int .u16 a1_3, .int .u16 a1_4, .float .f64 a1_5] 26 (0, 0)) (by (with_reducible repeat (first | refine zC ?_ _ | refine zD ?_ | refine zB ?_ _)); exact BK324.out) hb)
                        have n3_ := zA.mk (zK (g := gb339) (o := .cells #[.int .i64 0, .int .i64 0, .int .u8 0, .int .i64 0, .int .i64 0, .float .f64 0] 35 (0, 0)) (by (with_reducible repeat (first | refine zC ?_ _ | refine zD ?_ | refine zB ?_ _)); exact BK339.out) hb)
                        have n4_ := zA.mk (zN (by repeat (first | (with_reducible first | exact HB.out | apply zJ | apply zG | apply zI | refine zE ?_ GE324.out | refine zE ?_ GE339.out) | exact HB.out)) hb)
                        clear BK324 BK339 HB; have HO328 := n0_; have HO331 := n1_; have BK324 := n2_; have BK339 := n3_; have HB := n4_; clear n0_ n1_ n2_ n3_ n4_; (try clear hb)
                        (try clear hb2)
                        (try clear hk)
                        (try clear hi)
                        (try clear ho0)
                        (try clear ho1)
                        refine hK.out _ _ ⟨(zF BK324.out 0).trans rfl, (zF BK324.out 1).trans rfl, (zF BK324.out 2).trans rfl, (zF BK324.out 3).trans rfl, (zF BK324.out 4).trans rfl, (zF BK324.out 5).trans rfl⟩ (fun hHeld => ?_)
                        clear hK K; refine norm_ (a' := ?_) ?_ ?_
                        rotate_left
                        · show Act.put _ (some 25) _ = _
                          simp only [Act.put, sA_, sB_, sC_, i64_w, i32_w]; rfl
                        exact norm_ (by first | (simp only [putAll, Act.put, sA_, sB_, sC_]; done) | (simp only [putAll, Act.put, sA_, sB_, sC_]; rfl)) (hJ1_5 (v327, v330, gb339) _ ⟨hHeld, (by (with_reducible repeat (first | apply Kd.R_alloc | apply Kd.R_drewN | apply Kd.R_drew)); exact HO328.out), (by (with_reducible repeat (first | apply Kd.R_alloc | apply Kd.R_drewN | apply Kd.R_drew)); exact HO331.out), (by (with_reducible repeat (first | refine zC ?_ _ | refine zD ?_ | refine zB ?_ _)); exact BK324.out), (by (with_reducible repeat (first | refine zC ?_ _ | refine zD ?_ | refine zB ?_ _)); exact BK339.out), GW339.out, GE339.out, NB324_339.out, NB339_324.out, (by repeat (first | (with_reducible first | exact HB.out | apply zJ | apply zG | apply zI | refine zE ?_ GE324.out | refine zE ?_ GE339.out) | exact HB.out))⟩)
                      skip
                      refine box_step ?hg (N := 5) ?hd (cs := #[.slice none 0 0, .slice none 0 0]) (t := 31) ?hr ?_; (case hd => rfl); (case hg => rfl); (case hr => first | (go_simp; done) | (go_simp; rfl))
                      intro gb338 hg w17 hbox hb
                      have n0_ := zA.mk (zK (g := gb324) (o := .cells #[.int .u8 a1_0, .int .u8 a1_1, .int .u8 a1_2, .int .u16 a1_3, .int .u16 a1_4, .float .f64 a1_5] 26 (0, 0)) (by (with_reducible repeat (first | refine zC ?_ _ | refine zD ?_ | refine zB ?_ _)); exact BK324.out) hb)
                      have n1_ := zA.mk (zK (g := gb339) (o := .cells #[.int .i64 0, .int .i64 0, .int .u8 0, .int .i64 0, .int .i64 0, .float .f64 0] 35 (0, 0)) (by (with_reducible repeat (first | refine zC ?_ _ | refine zD ?_ | refine zB ?_ _)); exact BK339.out) hb)
                      have n2_ := zA.mk (zN (by repeat (first | (with_reducible first | exact HB.out | apply zJ | apply zG | apply zI | refine zE ?_ GE324.out | refine zE ?_ GE339.out) | exact HB.out)) hb)
                      have n3_ := zA.mk (hbox); have n4_ := zA.mk ((by rw [hg]; exact (zL (by repeat (first | (with_reducible first | exact HB.out | apply zJ | apply zG | apply zI | refine zE ?_ GE324.out | refine zE ?_ GE339.out) | exact HB.out))) : w.heap.size ≤ gb338))
                      have n5_ := zA.mk ((by rw [hg]; exact (zL (by repeat (first | (with_reducible first | exact HB.out | apply zJ | apply zG | apply zI | refine zE ?_ GE324.out | refine zE ?_ GE339.out) | exact HB.out))) : w.heap.size ≤ gb338))
                      have n6_ := zA.mk ((by rw [hg]; exact Nat.ne_of_lt (blk_lt (g := gb324) (o := .cells #[.int .u8 a1_0, .int .u8 a1_1, .int .u8 a1_2, .int .u16 a1_3, .int .u16 a1_4, .float .f64 a1_5] 26 (0, 0)) (by (with_reducible repeat (first | refine zC ?_ _ | refine zD ?_ | refine zB ?_ _)); exact BK324.out)) : gb324 ≠ gb338))
                      have n7_ := zA.mk ((by rw [hg]; exact Nat.ne_of_gt (blk_lt (g := gb324) (o := .cells #[.int .u8 a1_0, .int .u8 a1_1, .int .u8 a1_2, .int .u16 a1_3, .int .u16 a1_4, .float .f64 a1_5] 26 (0, 0)) (by (with_reducible repeat (first | refine zC ?_ _ | refine zD ?_ | refine zB ?_ _)); exact BK324.out)) : gb338 ≠ gb324))
                      have n8_ := zA.mk ((by rw [hg]; exact Nat.ne_of_lt (blk_lt (g := gb339) (o := .cells #[.int .i64 0, .int .i64 0, .int .u8 0, .int .i64 0, .int .i64 0, .float .f64 0] 35 (0, 0)) (by (with_reducible repeat (first | refine zC ?_ _ | refine zD ?_ | refine zB ?_ _)); exact BK339.out)) : gb339 ≠ gb338))
                      have n9_ := zA.mk ((by rw [hg]; exact Nat.ne_of_gt (blk_lt (g := gb339) (o := .cells #[.int .i64 0, .int .i64 0, .int .u8 0, .int .i64 0, .int .i64 0, .float .f64 0] 35 (0, 0)) (by (with_reducible repeat (first | refine zC ?_ _ | refine zD ?_ | refine zB ?_ _)); exact BK339.out)) : gb338 ≠ gb339))
                      clear BK324 BK339 HB; have BK324 := n0_; have BK339 := n1_; have HB := n2_; have BK338 := n3_; have GW338 := n4_; have GE338 := n5_; have NB324_338 := n6_; have NB338_324 := n7_; have NB339_338 := n8_; have NB338_339 := n9_; clear n0_ n1_ n2_ n3_ n4_ n5_ n6_ n7_ n8_ n9_; clear hb hbox hg; refine hK.out _ _ ⟨(zF BK324.out 0).trans rfl, (zF BK324.out 1).trans rfl, (zF BK324.out 2).trans rfl, (zF BK324.out 3).trans rfl, (zF BK324.out 4).trans rfl, (zF BK324.out 5).trans rfl⟩ (fun hHeld => ?_)
                      clear hK K; refine norm_ (a' := ?_) ?_ ?_
                      rotate_left
                      · show Act.put _ (some 5) _ = _
                        simp only [Act.put, sA_, sB_, sC_, i64_w, i32_w]; rfl
                      exact norm_ (by first | (simp only [putAll, Act.put, sA_, sB_, sC_]; done) | (simp only [putAll, Act.put, sA_, sB_, sC_]; rfl)) (hJ4_5 (gb338, gb339) _ ⟨hHeld, (by (with_reducible repeat (first | refine zC ?_ _ | refine zD ?_ | refine zB ?_ _)); exact BK324.out), (by (with_reducible repeat (first | refine zC ?_ _ | refine zD ?_ | refine zB ?_ _)); exact BK338.out), (by (with_reducible repeat (first | refine zC ?_ _ | refine zD ?_ | refine zB ?_ _)); exact BK339.out), GW338.out, GE338.out, NB324_338.out, NB338_324.out, NB339_338.out, NB338_339.out, GW339.out, GE339.out, NB324_339.out, NB339_324.out, (by repeat (first | (with_reducible first | exact HB.out | apply zJ | apply zG | apply zI | refine zE ?_ GE324.out | refine zE ?_ GE339.out | refine zE ?_ GE338.out) | exact HB.out))⟩)
                    skip
                    rintro gb338 w16 ⟨hS_, h0_, h1_, h2_, h3_, h4_, h5_, h6_⟩
                    have n0_ : zA (w16.heap[gb324]? = some (.cells #[.int .u8 a1_0, .int .u8 a1_1, .int .u8 a1_2, .int .u16 a1_3, .int .u16 a1_4, .float .f64 a1_5] 26 (0, 0))) := ⟨h0_⟩
                    have n1_ : zA (w16.heap[gb338]? = some (.cells #[.slice none 0 0, .slice none 0 0] 31 (0, 0))) := ⟨h1_⟩
                    have n2_ : zA (w.heap.size ≤ gb338) := ⟨h2_⟩
                    have n3_ : zA (w.heap.size ≤ gb338) := ⟨h3_⟩
                    have n4_ : zA (gb324 ≠ gb338) := ⟨h4_⟩
                    have n5_ : zA (gb338 ≠ gb324) := ⟨h5_⟩
                    have n6_ : zA (Below w.heap.size w w16) := ⟨h6_⟩
                    clear BK324 HB h0_ h1_ h2_ h3_ h4_ h5_ h6_; have BK324 := n0_; have BK338 := n1_; have GW338 := n2_; have GE338 := n3_; have NB324_338 := n4_; have NB338_324 := n5_; have HB := n6_; clear n0_ n1_ n2_ n3_ n4_ n5_ n6_; have hHeld : w16.cell? ⟨gb324, 0, none⟩ = some (.int .u8 a1_0) ∧ w16.cell? ⟨gb324, 1, none⟩ = some (.int .u8 a1_1) ∧ w16.cell? ⟨gb324, 2, none⟩ = some (.int .u8 a1_2) ∧ w16.cell? ⟨gb324, 3, none⟩ = some (.int .u16 a1_3) ∧ w16.cell? ⟨gb324, 4, none⟩ = some (.int .u16 a1_4) ∧ w16.cell? ⟨gb324, 5, none⟩ = some (.float .f64 a1_5) := hS_
                    refine norm_ (a' := ?_) ?_ ?_
                    rotate_left
                    · simp only [putAll, Act.put, sA_, sB_, sC_]
                      rfl
                    refine two_ (i := 1) (j := 5) (Ni := some 25) (Nj := some 6) #[true, true, true, false, true, false, false, false] #[true, false, true, false, true, true, false, false] rfl rfl rfl rfl (two_of HT_.out (by kernel_rfl)) (by decide) (by decide) (fun K hK => ?_) (fun K hK => ?_)
                    · skip
                      refine goes_ Try.func10 (by kernel_rfl) rfl #[.slice A0 l0.length c0] (by rfl) rfl rfl (by (try simp only [List.map_toArray, List.map_cons, List.map_nil]); first | done | rfl | (simp only [List.length_drop, List.length_take]; rfl)) ?_
                      with_reducible refine (stanzahand03_Para.calls k _ _ l0 t326 t329 _ ?side1 ?side2 A8.out).mono ?_
                      (case side1 => repeat (first | exact (Kd.C_below HR0.out HB.out) | (with_reducible refine Kd.C_alloc ?_ _) | (with_reducible refine Kd.C_drewN ?_ _) | (with_reducible refine Kd.C_drew ?_)))
                      (case side2 => exact HC0.out)
                      rintro e w17 ⟨v327, v330, rfl, ho0, ho1, hb⟩
                      refine ⟨_, rfl, ?_⟩
                      have n0_ := zA.mk (Kd.R_lower ho0 (zL (by repeat (first | (with_reducible first | exact HB.out | apply zJ | apply zG | apply zI | refine zE ?_ GE324.out | refine zE ?_ GE338.out) | exact HB.out))))
                      have n1_ := zA.mk (Kd.R_lower ho1 (zL (by repeat (first | (with_reducible first | exact HB.out | apply zJ | apply zG | apply zI | refine zE ?_ GE324.out | refine zE ?_ GE338.out) | exact HB.out))))
                      have n2_ := zA.mk (zK (g := gb324) (o := .cells #[.int .u8 a1_0, .int .u8 a1_1, .int .u8 a1_2, .int .u16 a1_3, .int .u16 a1_4, .float .f64 a1_5] 26 (0, 0)) (by (with_reducible repeat (first | refine zC ?_ _ | refine zD ?_ | refine zB ?_ _)); exact BK324.out) hb)
                      have n3_ := zA.mk (zK (g := gb338) (o := .cells #[.slice none 0 0, .slice none 0 0] 31 (0, 0)) (by (with_reducible repeat (first | refine zC ?_ _ | refine zD ?_ | refine zB ?_ _)); exact BK338.out) hb)
                      have n4_ := zA.mk (zN (by repeat (first | (with_reducible first | exact HB.out | apply zJ | apply zG | apply zI | refine zE ?_ GE324.out | refine zE ?_ GE338.out) | exact HB.out)) hb)
                      clear BK324 BK338 HB; have HO328 := n0_; have HO331 := n1_; have BK324 := n2_; have BK338 := n3_; have HB := n4_; clear n0_ n1_ n2_ n3_ n4_; (try clear hb)
                      (try clear hb2)
                      (try clear hk)
                      (try clear hi)
                      (try clear ho0)
                      (try clear ho1)
                      refine hK.out _ _ ⟨(zF BK324.out 0).trans rfl, (zF BK324.out 1).trans rfl, (zF BK324.out 2).trans rfl, (zF BK324.out 3).trans rfl, (zF BK324.out 4).trans rfl, (zF BK324.out 5).trans rfl⟩ (fun hHeld => ?_)
                      clear hK K; refine norm_ (a' := ?_) ?_ ?_
                      rotate_left
                      · show Act.put _ (some 25) _ = _
                        simp only [Act.put, sA_, sB_, sC_, i64_w, i32_w]; rfl
                      exact norm_ (by first | (simp only [putAll, Act.put, sA_, sB_, sC_]; done) | (simp only [putAll, Act.put, sA_, sB_, sC_]; rfl)) (hJ1_4 (v327, v330, gb338) _ ⟨hHeld, (by (with_reducible repeat (first | apply Kd.R_alloc | apply Kd.R_drewN | apply Kd.R_drew)); exact HO328.out), (by (with_reducible repeat (first | apply Kd.R_alloc | apply Kd.R_drewN | apply Kd.R_drew)); exact HO331.out), (by (with_reducible repeat (first | refine zC ?_ _ | refine zD ?_ | refine zB ?_ _)); exact BK324.out), (by (with_reducible repeat (first | refine zC ?_ _ | refine zD ?_ | refine zB ?_ _)); exact BK338.out), GW338.out, GE338.out, NB324_338.out, NB338_324.out, (by repeat (first | (with_reducible first | exact HB.out | apply zJ | apply zG | apply zI | refine zE ?_ GE324.out | refine zE ?_ GE338.out) | exact HB.out))⟩)
                    skip
                    refine box_step ?hg (N := 6) ?hd (cs := #[.int .i64 0, .int .i64 0, .int .u8 0, .int .i64 0, .int .i64 0, .float .f64 0]) (t := 35) ?hr ?_; (case hd => rfl); (case hg => rfl); (case hr => first | (go_simp; done) | (go_simp; rfl))
                    intro gb339 hg w17 hbox hb
                    have n0_ := zA.mk (zK (g := gb324) (o := .cells #[.int .u8 a1_0, .int .u8 a1_1, .int .u8 a1_2, .int .u16 a1_3, .int .u16 a1_4, .float .f64 a1_5] 26 (0, 0)) (by (with_reducible repeat (first | refine zC ?_ _ | refine zD ?_ | refine zB ?_ _)); exact BK324.out) hb)
                    have n1_ := zA.mk (zK (g := gb338) (o := .cells #[.slice none 0 0, .slice none 0 0] 31 (0, 0)) (by (with_reducible repeat (first | refine zC ?_ _ | refine zD ?_ | refine zB ?_ _)); exact BK338.out) hb)
                    have n2_ := zA.mk (zN (by repeat (first | (with_reducible first | exact HB.out | apply zJ | apply zG | apply zI | refine zE ?_ GE324.out | refine zE ?_ GE338.out) | exact HB.out)) hb)
                    have n3_ := zA.mk (hbox); have n4_ := zA.mk ((by rw [hg]; exact (zL (by repeat (first | (with_reducible first | exact HB.out | apply zJ | apply zG | apply zI | refine zE ?_ GE324.out | refine zE ?_ GE338.out) | exact HB.out))) : w.heap.size ≤ gb339))
                    have n5_ := zA.mk ((by rw [hg]; exact (zL (by repeat (first | (with_reducible first | exact HB.out | apply zJ | apply zG | apply zI | refine zE ?_ GE324.out | refine zE ?_ GE338.out) | exact HB.out))) : w.heap.size ≤ gb339))
                    have n6_ := zA.mk ((by rw [hg]; exact Nat.ne_of_lt (blk_lt (g := gb324) (o := .cells #[.int .u8 a1_0, .int .u8 a1_1, .int .u8 a1_2, .int .u16 a1_3, .int .u16 a1_4, .float .f64 a1_5] 26 (0, 0)) (by (with_reducible repeat (first | refine zC ?_ _ | refine zD ?_ | refine zB ?_ _)); exact BK324.out)) : gb324 ≠ gb339))
                    have n7_ := zA.mk ((by rw [hg]; exact Nat.ne_of_gt (blk_lt (g := gb324) (o := .cells #[.int .u8 a1_0, .int .u8 a1_1, .int .u8 a1_2, .int .u16 a1_3, .int .u16 a1_4, .float .f64 a1_5] 26 (0, 0)) (by (with_reducible repeat (first | refine zC ?_ _ | refine zD ?_ | refine zB ?_ _)); exact BK324.out)) : gb339 ≠ gb324))
                    have n8_ := zA.mk ((by rw [hg]; exact Nat.ne_of_lt (blk_lt (g := gb338) (o := .cells #[.slice none 0 0, .slice none 0 0] 31 (0, 0)) (by (with_reducible repeat (first | refine zC ?_ _ | refine zD ?_ | refine zB ?_ _)); exact BK338.out)) : gb338 ≠ gb339))
                    have n9_ := zA.mk ((by rw [hg]; exact Nat.ne_of_gt (blk_lt (g := gb338) (o := .cells #[.slice none 0 0, .slice none 0 0] 31 (0, 0)) (by (with_reducible repeat (first | refine zC ?_ _ | refine zD ?_ | refine zB ?_ _)); exact BK338.out)) : gb339 ≠ gb338))
                    clear BK324 BK338 HB; have BK324 := n0_; have BK338 := n1_; have HB := n2_; have BK339 := n3_; have GW339 := n4_; have GE339 := n5_; have NB324_339 := n6_; have NB339_324 := n7_; have NB338_339 := n8_; have NB339_338 := n9_; clear n0_ n1_ n2_ n3_ n4_ n5_ n6_ n7_ n8_ n9_; clear hb hbox hg; refine hK.out _ _ ⟨(zF BK324.out 0).trans rfl, (zF BK324.out 1).trans rfl, (zF BK324.out 2).trans rfl, (zF BK324.out 3).trans rfl, (zF BK324.out 4).trans rfl, (zF BK324.out 5).trans rfl⟩ (fun hHeld => ?_)
                    clear hK K; refine norm_ (a' := ?_) ?_ ?_
                    rotate_left
                    · show Act.put _ (some 6) _ = _
                      simp only [Act.put, sA_, sB_, sC_, i64_w, i32_w]; rfl
                    exact norm_ (by first | (simp only [putAll, Act.put, sA_, sB_, sC_]; done) | (simp only [putAll, Act.put, sA_, sB_, sC_]; rfl)) (hJ4_5 (gb338, gb339) _ ⟨hHeld, (by (with_reducible repeat (first | refine zC ?_ _ | refine zD ?_ | refine zB ?_ _)); exact BK324.out), (by (with_reducible repeat (first | refine zC ?_ _ | refine zD ?_ | refine zB ?_ _)); exact BK338.out), (by (with_reducible repeat (first | refine zC ?_ _ | refine zD ?_ | refine zB ?_ _)); exact BK339.out), GW338.out, GE338.out, NB324_338.out, NB338_324.out, NB339_338.out, NB338_339.out, GW339.out, GE339.out, NB324_339.out, NB339_324.out, (by repeat (first | (with_reducible first | exact HB.out | apply zJ | apply zG | apply zI | refine zE ?_ GE324.out | refine zE ?_ GE338.out | refine zE ?_ GE339.out) | exact HB.out))⟩)
                  skip
                  rintro ⟨v327, v330⟩ w16 ⟨hS_, h0_, h1_, h2_, h3_⟩
                  have n0_ : zA (Kd.R k66 66 w16 w.heap.size (fun _ => True) v327 t326) := ⟨h0_⟩
                  have n1_ : zA (Kd.R (Kd.int .u8) 51 w16 w.heap.size (fun _ => True) v330 t329) := ⟨h1_⟩
                  have n2_ : zA (w16.heap[gb324]? = some (.cells #[.int .u8 a1_0, .int .u8 a1_1, .int .u8 a1_2, .int .u16 a1_3, .int .u16 a1_4, .float .f64 a1_5] 26 (0, 0))) := ⟨h2_⟩
                  have n3_ : zA (Below w.heap.size w w16) := ⟨h3_⟩
                  clear BK324 HB h0_ h1_ h2_ h3_; have HO328 := n0_; have HO331 := n1_; have BK324 := n2_; have HB := n3_; clear n0_ n1_ n2_ n3_; have hHeld : w16.cell? ⟨gb324, 0, none⟩ = some (.int .u8 a1_0) ∧ w16.cell? ⟨gb324, 1, none⟩ = some (.int .u8 a1_1) ∧ w16.cell? ⟨gb324, 2, none⟩ = some (.int .u8 a1_2) ∧ w16.cell? ⟨gb324, 3, none⟩ = some (.int .u16 a1_3) ∧ w16.cell? ⟨gb324, 4, none⟩ = some (.int .u16 a1_4) ∧ w16.cell? ⟨gb324, 5, none⟩ = some (.float .f64 a1_5) := hS_
                  refine norm_ (a' := ?_) ?_ ?_
                  rotate_left
                  · simp only [putAll, Act.put, sA_, sB_, sC_]
                    rfl
                  refine three_ (i := 3) (j := 4) (k := 5) (Ni := some 27) (Nj := some 5) (Nk := some 6) #[true, true, true, true, false, false, false, false] #[true, true, true, false, true, false, false, false] #[true, true, true, false, false, true, false, false] rfl rfl rfl rfl rfl rfl (three_of HT_.out (by kernel_rfl)) (by decide) (by decide) (by decide) (fun K hK => ?_) (fun K hK => ?_) (fun K hK => ?_)
                  · skip
                    refine goes_ Try.func11 (by kernel_rfl) rfl #[.agg #[.int .u8 a1_0, .int .u8 a1_1, .int .u8 a1_2, .int .u16 a1_3, .int .u16 a1_4, .float .f64 a1_5]] (by rfl) rfl rfl (by (try simp only [List.map_toArray, List.map_cons, List.map_nil]); first | done | rfl | (simp only [List.length_drop, List.length_take]; rfl)) ?_
                    with_reducible refine (stanzahand03_Config.calls a1_0 a1_1 a1_2 a1_3 a1_4 a1_5 t332 t333 t334 t335 t336 t337 _ A9.out).mono ?_
                    rintro e w17 ⟨rfl, hb⟩
                    refine ⟨_, rfl, ?_⟩
                    have n0_ := zA.mk (Kd.R_below (by (with_reducible repeat (first | apply Kd.R_alloc | apply Kd.R_drewN | apply Kd.R_drew)); exact HO328.out) hb)
                    have n1_ := zA.mk (Kd.R_below (by (with_reducible repeat (first | apply Kd.R_alloc | apply Kd.R_drewN | apply Kd.R_drew)); exact HO331.out) hb)
                    have n2_ := zA.mk (zK (g := gb324) (o := .cells #[.int .u8 a1_0, .int .u8 a1_1, .int .u8 a1_2, .int .u16 a1_3, .int .u16 a1_4, .float .f64 a1_5] 26 (0, 0)) (by (with_reducible repeat (first | refine zC ?_ _ | refine zD ?_ | refine zB ?_ _)); exact BK324.out) hb)
                    have n3_ := zA.mk (zN (by repeat (first | (with_reducible first | exact HB.out | apply zJ | apply zG | apply zI | refine zE ?_ GE324.out) | exact HB.out)) hb)
                    clear HO328 HO331 BK324 HB; have HO328 := n0_; have HO331 := n1_; have BK324 := n2_; have HB := n3_; clear n0_ n1_ n2_ n3_; (try clear hb)
                    (try clear hb2)
                    (try clear hk)
                    (try clear hi)
                    refine hK.out _ _ ⟨(zF BK324.out 0).trans rfl, (zF BK324.out 1).trans rfl, (zF BK324.out 2).trans rfl, (zF BK324.out 3).trans rfl, (zF BK324.out 4).trans rfl, (zF BK324.out 5).trans rfl⟩ (fun hHeld => ?_)
                    clear hK K; refine norm_ (a' := ?_) ?_ ?_
                    rotate_left
                    · show Act.put _ (some 27) _ = _
                      simp only [Act.put, sA_, sB_, sC_, i64_w, i32_w]; rfl
                    exact norm_ (by first | (simp only [putAll, Act.put, sA_, sB_, sC_]; done) | (simp only [putAll, Act.put, sA_, sB_, sC_]; rfl)) (hJ1_3 (v327, v330) _ ⟨hHeld, (by (with_reducible repeat (first | apply Kd.R_alloc | apply Kd.R_drewN | apply Kd.R_drew)); exact HO328.out), (by (with_reducible repeat (first | apply Kd.R_alloc | apply Kd.R_drewN | apply Kd.R_drew)); exact HO331.out), (by (with_reducible repeat (first | refine zC ?_ _ | refine zD ?_ | refine zB ?_ _)); exact BK324.out), (by repeat (first | (with_reducible first | exact HB.out | apply zJ | apply zG | apply zI | refine zE ?_ GE324.out) | exact HB.out))⟩)
                  · skip
                    refine box_step ?hg (N := 5) ?hd (cs := #[.slice none 0 0, .slice none 0 0]) (t := 31) ?hr ?_; (case hd => rfl); (case hg => rfl); (case hr => first | (go_simp; done) | (go_simp; rfl))
                    intro gb338 hg w17 hbox hb
                    have n0_ := zA.mk (Kd.R_below (by (with_reducible repeat (first | apply Kd.R_alloc | apply Kd.R_drewN | apply Kd.R_drew)); exact HO328.out) hb)
                    have n1_ := zA.mk (Kd.R_below (by (with_reducible repeat (first | apply Kd.R_alloc | apply Kd.R_drewN | apply Kd.R_drew)); exact HO331.out) hb)
                    have n2_ := zA.mk (zK (g := gb324) (o := .cells #[.int .u8 a1_0, .int .u8 a1_1, .int .u8 a1_2, .int .u16 a1_3, .int .u16 a1_4, .float .f64 a1_5] 26 (0, 0)) (by (with_reducible repeat (first | refine zC ?_ _ | refine zD ?_ | refine zB ?_ _)); exact BK324.out) hb)
                    have n3_ := zA.mk (zN (by repeat (first | (with_reducible first | exact HB.out | apply zJ | apply zG | apply zI | refine zE ?_ GE324.out) | exact HB.out)) hb)
                    have n4_ := zA.mk (hbox); have n5_ := zA.mk ((by rw [hg]; exact (zL (by repeat (first | (with_reducible first | exact HB.out | apply zJ | apply zG | apply zI | refine zE ?_ GE324.out) | exact HB.out))) : w.heap.size ≤ gb338))
                    have n6_ := zA.mk ((by rw [hg]; exact (zL (by repeat (first | (with_reducible first | exact HB.out | apply zJ | apply zG | apply zI | refine zE ?_ GE324.out) | exact HB.out))) : w.heap.size ≤ gb338))
                    have n7_ := zA.mk ((by rw [hg]; exact Nat.ne_of_lt (blk_lt (g := gb324) (o := .cells #[.int .u8 a1_0, .int .u8 a1_1, .int .u8 a1_2, .int .u16 a1_3, .int .u16 a1_4, .float .f64 a1_5] 26 (0, 0)) (by (with_reducible repeat (first | refine zC ?_ _ | refine zD ?_ | refine zB ?_ _)); exact BK324.out)) : gb324 ≠ gb338))
                    have n8_ := zA.mk ((by rw [hg]; exact Nat.ne_of_gt (blk_lt (g := gb324) (o := .cells #[.int .u8 a1_0, .int .u8 a1_1, .int .u8 a1_2, .int .u16 a1_3, .int .u16 a1_4, .float .f64 a1_5] 26 (0, 0)) (by (with_reducible repeat (first | refine zC ?_ _ | refine zD ?_ | refine zB ?_ _)); exact BK324.out)) : gb338 ≠ gb324))
                    clear HO328 HO331 BK324 HB; have HO328 := n0_; have HO331 := n1_; have BK324 := n2_; have HB := n3_; have BK338 := n4_; have GW338 := n5_; have GE338 := n6_; have NB324_338 := n7_; have NB338_324 := n8_; clear n0_ n1_ n2_ n3_ n4_ n5_ n6_ n7_ n8_; clear hb hbox hg; refine hK.out _ _ ⟨(zF BK324.out 0).trans rfl, (zF BK324.out 1).trans rfl, (zF BK324.out 2).trans rfl, (zF BK324.out 3).trans rfl, (zF BK324.out 4).trans rfl, (zF BK324.out 5).trans rfl⟩ (fun hHeld => ?_)
                    clear hK K; refine norm_ (a' := ?_) ?_ ?_
                    rotate_left
                    · show Act.put _ (some 5) _ = _
                      simp only [Act.put, sA_, sB_, sC_, i64_w, i32_w]; rfl
                    exact norm_ (by first | (simp only [putAll, Act.put, sA_, sB_, sC_]; done) | (simp only [putAll, Act.put, sA_, sB_, sC_]; rfl)) (hJ1_4 (v327, v330, gb338) _ ⟨hHeld, (by (with_reducible repeat (first | apply Kd.R_alloc | apply Kd.R_drewN | apply Kd.R_drew)); exact HO328.out), (by (with_reducible repeat (first | apply Kd.R_alloc | apply Kd.R_drewN | apply Kd.R_drew)); exact HO331.out), (by (with_reducible repeat (first | refine zC ?_ _ | refine zD ?_ | refine zB ?_ _)); exact BK324.out), (by (with_reducible repeat (first | refine zC ?_ _ | refine zD ?_ | refine zB ?_ _)); exact BK338.out), GW338.out, GE338.out, NB324_338.out, NB338_324.out, (by repeat (first | (with_reducible first | exact HB.out | apply zJ | apply zG | apply zI | refine zE ?_ GE324.out | refine zE ?_ GE338.out) | exact HB.out))⟩)
                  skip
                  refine box_step ?hg (N := 6) ?hd (cs := #[.int .i64 0, .int .i64 0, .int .u8 0, .int .i64 0, .int .i64 0, .float .f64 0]) (t := 35) ?hr ?_; (case hd => rfl); (case hg => rfl); (case hr => first | (go_simp; done) | (go_simp; rfl))
                  intro gb339 hg w17 hbox hb
                  have n0_ := zA.mk (Kd.R_below (by (with_reducible repeat (first | apply Kd.R_alloc | apply Kd.R_drewN | apply Kd.R_drew)); exact HO328.out) hb)
                  have n1_ := zA.mk (Kd.R_below (by (with_reducible repeat (first | apply Kd.R_alloc | apply Kd.R_drewN | apply Kd.R_drew)); exact HO331.out) hb)
                  have n2_ := zA.mk (zK (g := gb324) (o := .cells #[.int .u8 a1_0, .int .u8 a1_1, .int .u8 a1_2, .int .u16 a1_3, .int .u16 a1_4, .float .f64 a1_5] 26 (0, 0)) (by (with_reducible repeat (first | refine zC ?_ _ | refine zD ?_ | refine zB ?_ _)); exact BK324.out) hb)
                  have n3_ := zA.mk (zN (by repeat (first | (with_reducible first | exact HB.out | apply zJ | apply zG | apply zI | refine zE ?_ GE324.out) | exact HB.out)) hb)
                  have n4_ := zA.mk (hbox); have n5_ := zA.mk ((by rw [hg]; exact (zL (by repeat (first | (with_reducible first | exact HB.out | apply zJ | apply zG | apply zI | refine zE ?_ GE324.out) | exact HB.out))) : w.heap.size ≤ gb339))
                  have n6_ := zA.mk ((by rw [hg]; exact (zL (by repeat (first | (with_reducible first | exact HB.out | apply zJ | apply zG | apply zI | refine zE ?_ GE324.out) | exact HB.out))) : w.heap.size ≤ gb339))
                  have n7_ := zA.mk ((by rw [hg]; exact Nat.ne_of_lt (blk_lt (g := gb324) (o := .cells #[.int .u8 a1_0, .int .u8 a1_1, .int .u8 a1_2, .int .u16 a1_3, .int .u16 a1_4, .float .f64 a1_5] 26 (0, 0)) (by (with_reducible repeat (first | refine zC ?_ _ | refine zD ?_ | refine zB ?_ _)); exact BK324.out)) : gb324 ≠ gb339))
                  have n8_ := zA.mk ((by rw [hg]; exact Nat.ne_of_gt (blk_lt (g := gb324) (o := .cells #[.int .u8 a1_0, .int .u8 a1_1, .int .u8 a1_2, .int .u16 a1_3, .int .u16 a1_4, .float .f64 a1_5] 26 (0, 0)) (by (with_reducible repeat (first | refine zC ?_ _ | refine zD ?_ | refine zB ?_ _)); exact BK324.out)) : gb339 ≠ gb324))
                  clear HO328 HO331 BK324 HB; have HO328 := n0_; have HO331 := n1_; have BK324 := n2_; have HB := n3_; have BK339 := n4_; have GW339 := n5_; have GE339 := n6_; have NB324_339 := n7_; have NB339_324 := n8_; clear n0_ n1_ n2_ n3_ n4_ n5_ n6_ n7_ n8_; clear hb hbox hg; refine hK.out _ _ ⟨(zF BK324.out 0).trans rfl, (zF BK324.out 1).trans rfl, (zF BK324.out 2).trans rfl, (zF BK324.out 3).trans rfl, (zF BK324.out 4).trans rfl, (zF BK324.out 5).trans rfl⟩ (fun hHeld => ?_)
                  clear hK K; refine norm_ (a' := ?_) ?_ ?_
                  rotate_left
                  · show Act.put _ (some 6) _ = _
                    simp only [Act.put, sA_, sB_, sC_, i64_w, i32_w]; rfl
                  exact norm_ (by first | (simp only [putAll, Act.put, sA_, sB_, sC_]; done) | (simp only [putAll, Act.put, sA_, sB_, sC_]; rfl)) (hJ1_5 (v327, v330, gb339) _ ⟨hHeld, (by (with_reducible repeat (first | apply Kd.R_alloc | apply Kd.R_drewN | apply Kd.R_drew)); exact HO328.out), (by (with_reducible repeat (first | apply Kd.R_alloc | apply Kd.R_drewN | apply Kd.R_drew)); exact HO331.out), (by (with_reducible repeat (first | refine zC ?_ _ | refine zD ?_ | refine zB ?_ _)); exact BK324.out), (by (with_reducible repeat (first | refine zC ?_ _ | refine zD ?_ | refine zB ?_ _)); exact BK339.out), GW339.out, GE339.out, NB324_339.out, NB339_324.out, (by repeat (first | (with_reducible first | exact HB.out | apply zJ | apply zG | apply zI | refine zE ?_ GE324.out | refine zE ?_ GE339.out) | exact HB.out))⟩)
                skip
                rintro ⟨gb338, gb339⟩ w17 ⟨hS_, h0_, h1_, h2_, h3_, h4_, h5_, h6_, h7_, h8_, h9_, h10_, h11_, h12_, h13_⟩
                have n0_ : zA (w17.heap[gb324]? = some (.cells #[.int .u8 a1_0, .int .u8 a1_1, .int .u8 a1_2, .int .u16 a1_3, .int .u16 a1_4, .float .f64 a1_5] 26 (0, 0))) := ⟨h0_⟩
                have n1_ : zA (w17.heap[gb338]? = some (.cells #[.slice none 0 0, .slice none 0 0] 31 (0, 0))) := ⟨h1_⟩
                have n2_ : zA (w17.heap[gb339]? = some (.cells #[.int .i64 0, .int .i64 0, .int .u8 0, .int .i64 0, .int .i64 0, .float .f64 0] 35 (0, 0))) := ⟨h2_⟩
                have n3_ : zA (w.heap.size ≤ gb338) := ⟨h3_⟩
                have n4_ : zA (w.heap.size ≤ gb338) := ⟨h4_⟩
                have n5_ : zA (gb324 ≠ gb338) := ⟨h5_⟩
                have n6_ : zA (gb338 ≠ gb324) := ⟨h6_⟩
                have n7_ : zA (gb339 ≠ gb338) := ⟨h7_⟩
                have n8_ : zA (gb338 ≠ gb339) := ⟨h8_⟩
                have n9_ : zA (w.heap.size ≤ gb339) := ⟨h9_⟩
                have n10_ : zA (w.heap.size ≤ gb339) := ⟨h10_⟩
                have n11_ : zA (gb324 ≠ gb339) := ⟨h11_⟩
                have n12_ : zA (gb339 ≠ gb324) := ⟨h12_⟩
                have n13_ : zA (Below w.heap.size w w17) := ⟨h13_⟩
                clear BK324 HB h0_ h1_ h2_ h3_ h4_ h5_ h6_ h7_ h8_ h9_ h10_ h11_ h12_ h13_; have BK324 := n0_; have BK338 := n1_; have BK339 := n2_; have GW338 := n3_; have GE338 := n4_; have NB324_338 := n5_; have NB338_324 := n6_; have NB339_338 := n7_; have NB338_339 := n8_; have GW339 := n9_; have GE339 := n10_; have NB324_339 := n11_; have NB339_324 := n12_; have HB := n13_; clear n0_ n1_ n2_ n3_ n4_ n5_ n6_ n7_ n8_ n9_ n10_ n11_ n12_ n13_; have hHeld : w17.cell? ⟨gb324, 0, none⟩ = some (.int .u8 a1_0) ∧ w17.cell? ⟨gb324, 1, none⟩ = some (.int .u8 a1_1) ∧ w17.cell? ⟨gb324, 2, none⟩ = some (.int .u8 a1_2) ∧ w17.cell? ⟨gb324, 3, none⟩ = some (.int .u16 a1_3) ∧ w17.cell? ⟨gb324, 4, none⟩ = some (.int .u16 a1_4) ∧ w17.cell? ⟨gb324, 5, none⟩ = some (.float .f64 a1_5) := hS_
                refine norm_ (a' := ?_) ?_ ?_
                rotate_left
                · simp only [putAll, Act.put, sA_, sB_, sC_]
                  rfl
                refine one_ (i := 1) (N := some 25) #[true, true, true, false, true, true, false, false] rfl rfl (one_of HT_.out (by kernel_rfl)) (by decide) (fun K hK => ?_)
                refine goes_ Try.func10 (by kernel_rfl) rfl #[.slice A0 l0.length c0] (by rfl) rfl rfl (by (try simp only [List.map_toArray, List.map_cons, List.map_nil]); first | done | rfl | (simp only [List.length_drop, List.length_take]; rfl)) ?_
                with_reducible refine (stanzahand03_Para.calls k _ _ l0 t326 t329 _ ?side1 ?side2 A8.out).mono ?_
                (case side1 => repeat (first | exact (Kd.C_below HR0.out HB.out) | (with_reducible refine Kd.C_alloc ?_ _) | (with_reducible refine Kd.C_drewN ?_ _) | (with_reducible refine Kd.C_drew ?_)))
                (case side2 => exact HC0.out)
                rintro e w18 ⟨v327, v330, rfl, ho0, ho1, hb⟩
                refine ⟨_, rfl, ?_⟩
                have n0_ := zA.mk (Kd.R_lower ho0 (zL (by repeat (first | (with_reducible first | exact HB.out | apply zJ | apply zG | apply zI | refine zE ?_ GE324.out | refine zE ?_ GE338.out | refine zE ?_ GE339.out) | exact HB.out))))
                have n1_ := zA.mk (Kd.R_lower ho1 (zL (by repeat (first | (with_reducible first | exact HB.out | apply zJ | apply zG | apply zI | refine zE ?_ GE324.out | refine zE ?_ GE338.out | refine zE ?_ GE339.out) | exact HB.out))))
                have n2_ := zA.mk (zK (g := gb324) (o := .cells #[.int .u8 a1_0, .int .u8 a1_1, .int .u8 a1_2, .int .u16 a1_3, .int .u16 a1_4, .float .f64 a1_5] 26 (0, 0)) (by (with_reducible repeat (first | refine zC ?_ _ | refine zD ?_ | refine zB ?_ _)); exact BK324.out) hb)
                have n3_ := zA.mk (zK (g := gb338) (o := .cells #[.slice none 0 0, .slice none 0 0] 31 (0, 0)) (by (with_reducible repeat (first | refine zC ?_ _ | refine zD ?_ | refine zB ?_ _)); exact BK338.out) hb)
                have n4_ := zA.mk (zK (g := gb339) (o := .cells #[.int .i64 0, .int .i64 0, .int .u8 0, .int .i64 0, .int .i64 0, .float .f64 0] 35 (0, 0)) (by (with_reducible repeat (first | refine zC ?_ _ | refine zD ?_ | refine zB ?_ _)); exact BK339.out) hb)
                have n5_ := zA.mk (zN (by repeat (first | (with_reducible first | exact HB.out | apply zJ | apply zG | apply zI | refine zE ?_ GE324.out | refine zE ?_ GE338.out | refine zE ?_ GE339.out) | exact HB.out)) hb)
                clear BK324 BK338 BK339 HB; have HO328 := n0_; have HO331 := n1_; have BK324 := n2_; have BK338 := n3_; have BK339 := n4_; have HB := n5_; clear n0_ n1_ n2_ n3_ n4_ n5_; (try clear hb)
                (try clear hb2)
                (try clear hk)
                (try clear hi)
                (try clear ho0)
                (try clear ho1)
                refine hK.out _ _ ⟨(zF BK324.out 0).trans rfl, (zF BK324.out 1).trans rfl, (zF BK324.out 2).trans rfl, (zF BK324.out 3).trans rfl, (zF BK324.out 4).trans rfl, (zF BK324.out 5).trans rfl⟩ (fun hHeld => ?_)
                clear hK K; refine norm_ (a' := ?_) ?_ ?_
                rotate_left
                · show Act.put _ (some 25) _ = _
                  simp only [Act.put, sA_, sB_, sC_, i64_w, i32_w]; rfl
                exact norm_ (by first | (simp only [putAll, Act.put, sA_, sB_, sC_]; done) | (simp only [putAll, Act.put, sA_, sB_, sC_]; rfl)) (hJ1_4_5 (v327, v330, gb338, gb339) _ ⟨hHeld, (by (with_reducible repeat (first | apply Kd.R_alloc | apply Kd.R_drewN | apply Kd.R_drew)); exact HO328.out), (by (with_reducible repeat (first | apply Kd.R_alloc | apply Kd.R_drewN | apply Kd.R_drew)); exact HO331.out), (by (with_reducible repeat (first | refine zC ?_ _ | refine zD ?_ | refine zB ?_ _)); exact BK324.out), (by (with_reducible repeat (first | refine zC ?_ _ | refine zD ?_ | refine zB ?_ _)); exact BK338.out), (by (with_reducible repeat (first | refine zC ?_ _ | refine zD ?_ | refine zB ?_ _)); exact BK339.out), GW338.out, GE338.out, NB324_338.out, NB338_324.out, NB339_338.out, NB338_339.out, GW339.out, GE339.out, NB324_339.out, NB339_324.out, (by repeat (first | (with_reducible first | exact HB.out | apply zJ | apply zG | apply zI | refine zE ?_ GE324.out | refine zE ?_ GE338.out | refine zE ?_ GE339.out) | exact HB.out))⟩)
              skip
              rintro ⟨v327, v330, gb339⟩ w17 ⟨hS_, h0_, h1_, h2_, h3_, h4_, h5_, h6_, h7_, h8_⟩
              have n0_ : zA (Kd.R k66 66 w17 w.heap.size (fun _ => True) v327 t326) := ⟨h0_⟩
              have n1_ : zA (Kd.R (Kd.int .u8) 51 w17 w.heap.size (fun _ => True) v330 t329) := ⟨h1_⟩
              have n2_ : zA (w17.heap[gb324]? = some (.cells #[.int .u8 a1_0, .int .u8 a1_1, .int .u8 a1_2, .int .u16 a1_3, .int .u16 a1_4, .float .f64 a1_5] 26 (0, 0))) := ⟨h2_⟩
              have n3_ : zA (w17.heap[gb339]? = some (.cells #[.int .i64 0, .int .i64 0, .int .u8 0, .int .i64 0, .int .i64 0, .float .f64 0] 35 (0, 0))) := ⟨h3_⟩
              have n4_ : zA (w.heap.size ≤ gb339) := ⟨h4_⟩
              have n5_ : zA (w.heap.size ≤ gb339) := ⟨h5_⟩
              have n6_ : zA (gb324 ≠ gb339) := ⟨h6_⟩
              have n7_ : zA (gb339 ≠ gb324) := ⟨h7_⟩
              have n8_ : zA (Below w.heap.size w w17) := ⟨h8_⟩
              clear BK324 HB h0_ h1_ h2_ h3_ h4_ h5_ h6_ h7_ h8_; have HO328 := n0_; have HO331 := n1_; have BK324 := n2_; have BK339 := n3_; have GW339 := n4_; have GE339 := n5_; have NB324_339 := n6_; have NB339_324 := n7_; have HB := n8_; clear n0_ n1_ n2_ n3_ n4_ n5_ n6_ n7_ n8_; have hHeld : w17.cell? ⟨gb324, 0, none⟩ = some (.int .u8 a1_0) ∧ w17.cell? ⟨gb324, 1, none⟩ = some (.int .u8 a1_1) ∧ w17.cell? ⟨gb324, 2, none⟩ = some (.int .u8 a1_2) ∧ w17.cell? ⟨gb324, 3, none⟩ = some (.int .u16 a1_3) ∧ w17.cell? ⟨gb324, 4, none⟩ = some (.int .u16 a1_4) ∧ w17.cell? ⟨gb324, 5, none⟩ = some (.float .f64 a1_5) := hS_
              refine norm_ (a' := ?_) ?_ ?_
              rotate_left
              · simp only [putAll, Act.put, sA_, sB_, sC_]
                rfl
              refine two_ (i := 3) (j := 4) (Ni := some 27) (Nj := some 5) #[true, true, true, true, false, true, false, false] #[true, true, true, false, true, true, false, false] rfl rfl rfl rfl (two_of HT_.out (by kernel_rfl)) (by decide) (by decide) (fun K hK => ?_) (fun K hK => ?_)
              · skip
                refine goes_ Try.func11 (by kernel_rfl) rfl #[.agg #[.int .u8 a1_0, .int .u8 a1_1, .int .u8 a1_2, .int .u16 a1_3, .int .u16 a1_4, .float .f64 a1_5]] (by rfl) rfl rfl (by (try simp only [List.map_toArray, List.map_cons, List.map_nil]); first | done | rfl | (simp only [List.length_drop, List.length_take]; rfl)) ?_
                with_reducible refine (stanzahand03_Config.calls a1_0 a1_1 a1_2 a1_3 a1_4 a1_5 t332 t333 t334 t335 t336 t337 _ A9.out).mono ?_
                rintro e w18 ⟨rfl, hb⟩
                refine ⟨_, rfl, ?_⟩
                have n0_ := zA.mk (Kd.R_below (by (with_reducible repeat (first | apply Kd.R_alloc | apply Kd.R_drewN | apply Kd.R_drew)); exact HO328.out) hb)
                have n1_ := zA.mk (Kd.R_below (by (with_reducible repeat (first | apply Kd.R_alloc | apply Kd.R_drewN | apply Kd.R_drew)); exact HO331.out) hb)
                have n2_ := zA.mk (zK (g := gb324) (o := .cells #[.int .u8 a1_0, .int .u8 a1_1, .int .u8 a1_2, .int .u16 a1_3, .int .u16 a1_4, .float .f64 a1_5] 26 (0, 0)) (by (with_reducible repeat (first | refine zC ?_ _ | refine zD ?_ | refine zB ?_ _)); exact BK324.out) hb)
                have n3_ := zA.mk (zK (g := gb339) (o := .cells #[.int .i64 0, .int .i64 0, .int .u8 0, .int .i64 0, .int .i64 0, .float .f64 0] 35 (0, 0)) (by (with_reducible repeat (first | refine zC ?_ _ | refine zD ?_ | refine zB ?_ _)); exact BK339.out) hb)
                have n4_ := zA.mk (zN (by repeat (first | (with_reducible first | exact HB.out | apply zJ | apply zG | apply zI | refine zE ?_ GE324.out | refine zE ?_ GE339.out) | exact HB.out)) hb)
                clear HO328 HO331 BK324 BK339 HB; have HO328 := n0_; have HO331 := n1_; have BK324 := n2_; have BK339 := n3_; have HB := n4_; clear n0_ n1_ n2_ n3_ n4_; (try clear hb)
                (try clear hb2)
                (try clear hk)
                (try clear hi)
                refine hK.out _ _ ⟨(zF BK324.out 0).trans rfl, (zF BK324.out 1).trans rfl, (zF BK324.out 2).trans rfl, (zF BK324.out 3).trans rfl, (zF BK324.out 4).trans rfl, (zF BK324.out 5).trans rfl⟩ (fun hHeld => ?_)
                clear hK K; refine norm_ (a' := ?_) ?_ ?_
                rotate_left
                · show Act.put _ (some 27) _ = _
                  simp only [Act.put, sA_, sB_, sC_, i64_w, i32_w]; rfl
                exact norm_ (by first | (simp only [putAll, Act.put, sA_, sB_, sC_]; done) | (simp only [putAll, Act.put, sA_, sB_, sC_]; rfl)) (hJ1_3_5 (v327, v330, gb339) _ ⟨hHeld, (by (with_reducible repeat (first | apply Kd.R_alloc | apply Kd.R_drewN | apply Kd.R_drew)); exact HO328.out), (by (with_reducible repeat (first | apply Kd.R_alloc | apply Kd.R_drewN | apply Kd.R_drew)); exact HO331.out), (by (with_reducible repeat (first | refine zC ?_ _ | refine zD ?_ | refine zB ?_ _)); exact BK324.out), (by (with_reducible repeat (first | refine zC ?_ _ | refine zD ?_ | refine zB ?_ _)); exact BK339.out), GW339.out, GE339.out, NB324_339.out, NB339_324.out, (by repeat (first | (with_reducible first | exact HB.out | apply zJ | apply zG | apply zI | refine zE ?_ GE324.out | refine zE ?_ GE339.out) | exact HB.out))⟩)
              skip
              refine box_step ?hg (N := 5) ?hd (cs := #[.slice none 0 0, .slice none 0 0]) (t := 31) ?hr ?_; (case hd => rfl); (case hg => rfl); (case hr => first | (go_simp; done) | (go_simp; rfl))
              intro gb338 hg w18 hbox hb
              have n0_ := zA.mk (Kd.R_below (by (with_reducible repeat (first | apply Kd.R_alloc | apply Kd.R_drewN | apply Kd.R_drew)); exact HO328.out) hb)
              have n1_ := zA.mk (Kd.R_below (by (with_reducible repeat (first | apply Kd.R_alloc | apply Kd.R_drewN | apply Kd.R_drew)); exact HO331.out) hb)
              have n2_ := zA.mk (zK (g := gb324) (o := .cells #[.int .u8 a1_0, .int .u8 a1_1, .int .u8 a1_2, .int .u16 a1_3, .int .u16 a1_4, .float .f64 a1_5] 26 (0, 0)) (by (with_reducible repeat (first | refine zC ?_ _ | refine zD ?_ | refine zB ?_ _)); exact BK324.out) hb)
              have n3_ := zA.mk (zK (g := gb339) (o := .cells #[.int .i64 0, .int .i64 0, .int .u8 0, .int .i64 0, .int .i64 0, .float .f64 0] 35 (0, 0)) (by (with_reducible repeat (first | refine zC ?_ _ | refine zD ?_ | refine zB ?_ _)); exact BK339.out) hb)
              have n4_ := zA.mk (zN (by repeat (first | (with_reducible first | exact HB.out | apply zJ | apply zG | apply zI | refine zE ?_ GE324.out | refine zE ?_ GE339.out) | exact HB.out)) hb)
              have n5_ := zA.mk (hbox); have n6_ := zA.mk ((by rw [hg]; exact (zL (by repeat (first | (with_reducible first | exact HB.out | apply zJ | apply zG | apply zI | refine zE ?_ GE324.out | refine zE ?_ GE339.out) | exact HB.out))) : w.heap.size ≤ gb338))
              have n7_ := zA.mk ((by rw [hg]; exact (zL (by repeat (first | (with_reducible first | exact HB.out | apply zJ | apply zG | apply zI | refine zE ?_ GE324.out | refine zE ?_ GE339.out) | exact HB.out))) : w.heap.size ≤ gb338))
              have n8_ := zA.mk ((by rw [hg]; exact Nat.ne_of_lt (blk_lt (g := gb324) (o := .cells #[.int .u8 a1_0, .int .u8 a1_1, .int .u8 a1_2, .int .u16 a1_3, .int .u16 a1_4, .float .f64 a1_5] 26 (0, 0)) (by (with_reducible repeat (first | refine zC ?_ _ | refine zD ?_ | refine zB ?_ _)); exact BK324.out)) : gb324 ≠ gb338))
              have n9_ := zA.mk ((by rw [hg]; exact Nat.ne_of_gt (blk_lt (g := gb324) (o := .cells #[.int .u8 a1_0, .int .u8 a1_1, .int .u8 a1_2, .int .u16 a1_3, .int .u16 a1_4, .float .f64 a1_5] 26 (0, 0)) (by (with_reducible repeat (first | refine zC ?_ _ | refine zD ?_ | refine zB ?_ _)); exact BK324.out)) : gb338 ≠ gb324))
              have n10_ := zA.mk ((by rw [hg]; exact Nat.ne_of_lt (blk_lt (g := gb339) (o := .cells #[.int .i64 0, .int .i64 0, .int .u8 0, .int .i64 0, .int .i64 0, .float .f64 0] 35 (0, 0)) (by (with_reducible repeat (first | refine zC ?_ _ | refine zD ?_ | refine zB ?_ _)); exact BK339.out)) : gb339 ≠ gb338))
              have n11_ := zA.mk ((by rw [hg]; exact Nat.ne_of_gt (blk_lt (g := gb339) (o := .cells #[.int .i64 0, .int .i64 0, .int .u8 0, .int .i64 0, .int .i64 0, .float .f64 0] 35 (0, 0)) (by (with_reducible repeat (first | refine zC ?_ _ | refine zD ?_ | refine zB ?_ _)); exact BK339.out)) : gb338 ≠ gb339))
              clear HO328 HO331 BK324 BK339 HB; have HO328 := n0_; have HO331 := n1_; have BK324 := n2_; have BK339 := n3_; have HB := n4_; have BK338 := n5_; have GW338 := n6_; have GE338 := n7_; have NB324_338 := n8_; have NB338_324 := n9_; have NB339_338 := n10_; have NB338_339 := n11_; clear n0_ n1_ n2_ n3_ n4_ n5_ n6_ n7_ n8_ n9_ n10_ n11_; clear hb hbox hg; refine hK.out _ _ ⟨(zF BK324.out 0).trans rfl, (zF BK324.out 1).trans rfl, (zF BK324.out 2).trans rfl, (zF BK324.out 3).trans rfl, (zF BK324.out 4).trans rfl, (zF BK324.out 5).trans rfl⟩ (fun hHeld => ?_)
              clear hK K; refine norm_ (a' := ?_) ?_ ?_
              rotate_left
              · show Act.put _ (some 5) _ = _
                simp only [Act.put, sA_, sB_, sC_, i64_w, i32_w]; rfl
              exact norm_ (by first | (simp only [putAll, Act.put, sA_, sB_, sC_]; done) | (simp only [putAll, Act.put, sA_, sB_, sC_]; rfl)) (hJ1_4_5 (v327, v330, gb338, gb339) _ ⟨hHeld, (by (with_reducible repeat (first | apply Kd.R_alloc | apply Kd.R_drewN | apply Kd.R_drew)); exact HO328.out), (by (with_reducible repeat (first | apply Kd.R_alloc | apply Kd.R_drewN | apply Kd.R_drew)); exact HO331.out), (by (with_reducible repeat (first | refine zC ?_ _ | refine zD ?_ | refine zB ?_ _)); exact BK324.out), (by (with_reducible repeat (first | refine zC ?_ _ | refine zD ?_ | refine zB ?_ _)); exact BK338.out), (by (with_reducible repeat (first | refine zC ?_ _ | refine zD ?_ | refine zB ?_ _)); exact BK339.out), GW338.out, GE338.out, NB324_338.out, NB338_324.out, NB339_338.out, NB338_339.out, GW339.out, GE339.out, NB324_339.out, NB339_324.out, (by repeat (first | (with_reducible first | exact HB.out | apply zJ | apply zG | apply zI | refine zE ?_ GE324.out | refine zE ?_ GE339.out | refine zE ?_ GE338.out) | exact HB.out))⟩)
            skip
            rintro ⟨v327, v330, gb338⟩ w17 ⟨hS_, h0_, h1_, h2_, h3_, h4_, h5_, h6_, h7_, h8_⟩
            have n0_ : zA (Kd.R k66 66 w17 w.heap.size (fun _ => True) v327 t326) := ⟨h0_⟩
            have n1_ : zA (Kd.R (Kd.int .u8) 51 w17 w.heap.size (fun _ => True) v330 t329) := ⟨h1_⟩
            have n2_ : zA (w17.heap[gb324]? = some (.cells #[.int .u8 a1_0, .int .u8 a1_1, .int .u8 a1_2, .int .u16 a1_3, .int .u16 a1_4, .float .f64 a1_5] 26 (0, 0))) := ⟨h2_⟩
            have n3_ : zA (w17.heap[gb338]? = some (.cells #[.slice none 0 0, .slice none 0 0] 31 (0, 0))) := ⟨h3_⟩
            have n4_ : zA (w.heap.size ≤ gb338) := ⟨h4_⟩
            have n5_ : zA (w.heap.size ≤ gb338) := ⟨h5_⟩
            have n6_ : zA (gb324 ≠ gb338) := ⟨h6_⟩
            have n7_ : zA (gb338 ≠ gb324) := ⟨h7_⟩
            have n8_ : zA (Below w.heap.size w w17) := ⟨h8_⟩
            clear BK324 HB h0_ h1_ h2_ h3_ h4_ h5_ h6_ h7_ h8_; have HO328 := n0_; have HO331 := n1_; have BK324 := n2_; have BK338 := n3_; have GW338 := n4_; have GE338 := n5_; have NB324_338 := n6_; have NB338_324 := n7_; have HB := n8_; clear n0_ n1_ n2_ n3_ n4_ n5_ n6_ n7_ n8_; have hHeld : w17.cell? ⟨gb324, 0, none⟩ = some (.int .u8 a1_0) ∧ w17.cell? ⟨gb324, 1, none⟩ = some (.int .u8 a1_1) ∧ w17.cell? ⟨gb324, 2, none⟩ = some (.int .u8 a1_2) ∧ w17.cell? ⟨gb324, 3, none⟩ = some (.int .u16 a1_3) ∧ w17.cell? ⟨gb324, 4, none⟩ = some (.int .u16 a1_4) ∧ w17.cell? ⟨gb324, 5, none⟩ = some (.float .f64 a1_5) := hS_
            refine norm_ (a' := ?_) ?_ ?_
            rotate_left
            · simp only [putAll, Act.put, sA_, sB_, sC_]
              rfl
            refine two_ (i := 3) (j := 5) (Ni := some 27) (Nj := some 6) #[true, true, true, true, true, false, false, false] #[true, true, true, false, true, true, false, false] rfl rfl rfl rfl (two_of HT_.out (by kernel_rfl)) (by decide) (by decide) (fun K hK => ?_) (fun K hK => ?_)
            · skip
              refine goes_ Try.func11 (by kernel_rfl) rfl #[.agg #[.int .u8 a1_0, .int .u8 a1_1, .int .u8 a1_2, .int .u16 a1_3, .int .u16 a1_4, .float .f64 a1_5]] (by rfl) rfl rfl (by (try simp only [List.map_toArray, List.map_cons, List.map_nil]); first | done | rfl | (simp only [List.length_drop, List.length_take]; rfl)) ?_
              with_reducible refine (stanzahand03_Config.calls a1_0 a1_1 a1_2 a1_3 a1_4 a1_5 t332 t333 t334 t335 t336 t337 _ A9.out).mono ?_
              rintro e w18 ⟨rfl, hb⟩
              refine ⟨_, rfl, ?_⟩
              have n0_ := zA.mk (Kd.R_below (by (with_reducible repeat (first | apply Kd.R_alloc | apply Kd.R_drewN | apply Kd.R_drew)); exact HO328.out) hb)
              have n1_ := zA.mk (Kd.R_below (by (with_reducible repeat (first | apply Kd.R_alloc | apply Kd.R_drewN | apply Kd.R_drew)); exact HO331.out) hb)
              have n2_ := zA.mk (zK (g := gb324) (o := .cells #[.int .u8 a1_0, .int .u8 a1_1, .int .u8 a1_2, .int .u16 a1_3, .int .u16 a1_4, .float .f64 a1_5] 26 (0, 0)) (by (with_reducible repeat (first | refine zC ?_ _ | refine zD ?_ | refine zB ?_ _)); exact BK324.out) hb)
              have n3_ := zA.mk (zK (g := gb338) (o := .cells #[.slice none 0 0, .slice none 0 0] 31 (0, 0)) (by (with_reducible repeat (first | refine zC ?_ _ | refine zD ?_ | refine zB ?_ _)); exact BK338.out) hb)
              have n4_ := zA.mk (zN (by repeat (first | (with_reducible first | exact HB.out | apply zJ | apply zG | apply zI | refine zE ?_ GE324.out | refine zE ?_ GE338.out) | exact HB.out)) hb)
              clear HO328 HO331 BK324 BK338 HB; have HO328 := n0_; have HO331 := n1_; have BK324 := n2_; have BK338 := n3_; have HB := n4_; clear n0_ n1_ n2_ n3_ n4_; (try clear hb)
              (try clear hb2)
              (try clear hk)
              (try clear hi)
              refine hK.out _ _ ⟨(zF BK324.out 0).trans rfl, (zF BK324.out 1).trans rfl, (zF BK324.out 2).trans rfl, (zF BK324.out 3).trans rfl, (zF BK324.out 4).trans rfl, (zF BK324.out 5).trans rfl⟩ (fun hHeld => ?_)
              clear hK K; refine norm_ (a' := ?_) ?_ ?_
              rotate_left
              · show Act.put _ (some 27) _ = _
                simp only [Act.put, sA_, sB_, sC_, i64_w, i32_w]; rfl
              exact norm_ (by first | (simp only [putAll, Act.put, sA_, sB_, sC_]; done) | (simp only [putAll, Act.put, sA_, sB_, sC_]; rfl)) (hJ1_3_4 (v327, v330, gb338) _ ⟨hHeld, (by (with_reducible repeat (first | apply Kd.R_alloc | apply Kd.R_drewN | apply Kd.R_drew)); exact HO328.out), (by (with_reducible repeat (first | apply Kd.R_alloc | apply Kd.R_drewN | apply Kd.R_drew)); exact HO331.out), (by (with_reducible repeat (first | refine zC ?_ _ | refine zD ?_ | refine zB ?_ _)); exact BK324.out), (by (with_reducible repeat (first | refine zC ?_ _ | refine zD ?_ | refine zB ?_ _)); exact BK338.out), GW338.out, GE338.out, NB324_338.out, NB338_324.out, (by repeat (first | (with_reducible first | exact HB.out | apply zJ | apply zG | apply zI | refine zE ?_ GE324.out | refine zE ?_ GE338.out) | exact HB.out))⟩)
            skip
            refine box_step ?hg (N := 6) ?hd (cs := #[.int .i64 0, .int .i64 0, .int .u8 0, .int .i64 0, .int .i64 0, .float .f64 0]) (t := 35) ?hr ?_; (case hd => rfl); (case hg => rfl); (case hr => first | (go_simp; done) | (go_simp; rfl))
            intro gb339 hg w18 hbox hb
            have n0_ := zA.mk (Kd.R_below (by (with_reducible repeat (first | apply Kd.R_alloc | apply Kd.R_drewN | apply Kd.R_drew)); exact HO328.out) hb)
            have n1_ := zA.mk (Kd.R_below (by (with_reducible repeat (first | apply Kd.R_alloc | apply Kd.R_drewN | apply Kd.R_drew)); exact HO331.out) hb)
            have n2_ := zA.mk (zK (g := gb324) (o := .cells #[.int .u8 a1_0, .int .u8 a1_1, .int .u8 a1_2, .int .u16 a1_3, .int .u16 a1_4, .float .f64 a1_5] 26 (0, 0)) (by (with_reducible repeat (first | refine zC ?_ _ | refine zD ?_ | refine zB ?_ _)); exact BK324.out) hb)
            have n3_ := zA.mk (zK (g := gb338) (o := .cells #[.slice none 0 0, .slice none 0 0] 31 (0, 0)) (by (with_reducible repeat (first | refine zC ?_ _ | refine zD ?_ | refine zB ?_ _)); exact BK338.out) hb)
            have n4_ := zA.mk (zN (by repeat (first | (with_reducible first | exact HB.out | apply zJ | apply zG | apply zI | refine zE ?_ GE324.out | refine zE ?_ GE338.out) | exact HB.out)) hb)
            have n5_ := zA.mk (hbox); have n6_ := zA.mk ((by rw [hg]; exact (zL (by repeat (first | (with_reducible first | exact HB.out | apply zJ | apply zG | apply zI | refine zE ?_ GE324.out | refine zE ?_ GE338.out) | exact HB.out))) : w.heap.size ≤ gb339))
            have n7_ := zA.mk ((by rw [hg]; exact (zL (by repeat (first | (with_reducible first | exact HB.out | apply zJ | apply zG | apply zI | refine zE ?_ GE324.out | refine zE ?_ GE338.out) | exact HB.out))) : w.heap.size ≤ gb339))
            have n8_ := zA.mk ((by rw [hg]; exact Nat.ne_of_lt (blk_lt (g := gb324) (o := .cells #[.int .u8 a1_0, .int .u8 a1_1, .int .u8 a1_2, .int .u16 a1_3, .int .u16 a1_4, .float .f64 a1_5] 26 (0, 0)) (by (with_reducible repeat (first | refine zC ?_ _ | refine zD ?_ | refine zB ?_ _)); exact BK324.out)) : gb324 ≠ gb339))
            have n9_ := zA.mk ((by rw [hg]; exact Nat.ne_of_gt (blk_lt (g := gb324) (o := .cells #[.int .u8 a1_0, .int .u8 a1_1, .int .u8 a1_2, .int .u16 a1_3, .int .u16 a1_4, .float .f64 a1_5] 26 (0, 0)) (by (with_reducible repeat (first | refine zC ?_ _ | refine zD ?_ | refine zB ?_ _)); exact BK324.out)) : gb339 ≠ gb324))
            have n10_ := zA.mk ((by rw [hg]; exact Nat.ne_of_lt (blk_lt (g := gb338) (o := .cells #[.slice none 0 0, .slice none 0 0] 31 (0, 0)) (by (with_reducible repeat (first | refine zC ?_ _ | refine zD ?_ | refine zB ?_ _)); exact BK338.out)) : gb338 ≠ gb339))
            have n11_ := zA.mk ((by rw [hg]; exact Nat.ne_of_gt (blk_lt (g := gb338) (o := .cells #[.slice none 0 0, .slice none 0 0] 31 (0, 0)) (by (with_reducible repeat (first | refine zC ?_ _ | refine zD ?_ | refine zB ?_ _)); exact BK338.out)) : gb339 ≠ gb338))
            clear HO328 HO331 BK324 BK338 HB; have HO328 := n0_; have HO331 := n1_; have BK324 := n2_; have BK338 := n3_; have HB := n4_; have BK339 := n5_; have GW339 := n6_; have GE339 := n7_; have NB324_339 := n8_; have NB339_324 := n9_; have NB338_339 := n10_; have NB339_338 := n11_; clear n0_ n1_ n2_ n3_ n4_ n5_ n6_ n7_ n8_ n9_ n10_ n11_; clear hb hbox hg; refine hK.out _ _ ⟨(zF BK324.out 0).trans rfl, (zF BK324.out 1).trans rfl, (zF BK324.out 2).trans rfl, (zF BK324.out 3).trans rfl, (zF BK324.out 4).trans rfl, (zF BK324.out 5).trans rfl⟩ (fun hHeld => ?_)
            clear hK K; refine norm_ (a' := ?_) ?_ ?_
            rotate_left
            · show Act.put _ (some 6) _ = _
              simp only [Act.put, sA_, sB_, sC_, i64_w, i32_w]; rfl
            exact norm_ (by first | (simp only [putAll, Act.put, sA_, sB_, sC_]; done) | (simp only [putAll, Act.put, sA_, sB_, sC_]; rfl)) (hJ1_4_5 (v327, v330, gb338, gb339) _ ⟨hHeld, (by (with_reducible repeat (first | apply Kd.R_alloc | apply Kd.R_drewN | apply Kd.R_drew)); exact HO328.out), (by (with_reducible repeat (first | apply Kd.R_alloc | apply Kd.R_drewN | apply Kd.R_drew)); exact HO331.out), (by (with_reducible repeat (first | refine zC ?_ _ | refine zD ?_ | refine zB ?_ _)); exact BK324.out), (by (with_reducible repeat (first | refine zC ?_ _ | refine zD ?_ | refine zB ?_ _)); exact BK338.out), (by (with_reducible repeat (first | refine zC ?_ _ | refine zD ?_ | refine zB ?_ _)); exact BK339.out), GW338.out, GE338.out, NB324_338.out, NB338_324.out, NB339_338.out, NB338_339.out, GW339.out, GE339.out, NB324_339.out, NB339_324.out, (by repeat (first | (with_reducible first | exact HB.out | apply zJ | apply zG | apply zI | refine zE ?_ GE324.out | refine zE ?_ GE338.out | refine zE ?_ GE339.out) | exact HB.out))⟩)
          skip
          rintro ⟨v327, v330⟩ w17 ⟨hS_, h0_, h1_, h2_, h3_⟩
          have n0_ : zA (Kd.R k66 66 w17 w.heap.size (fun _ => True) v327 t326) := ⟨h0_⟩
          have n1_ : zA (Kd.R (Kd.int .u8) 51 w17 w.heap.size (fun _ => True) v330 t329) := ⟨h1_⟩
          have n2_ : zA (w17.heap[gb324]? = some (.cells #[.int .u8 a1_0, .int .u8 a1_1, .int .u8 a1_2, .int .u16 a1_3, .int .u16 a1_4, .float .f64 a1_5] 26 (0, 0))) := ⟨h2_⟩
          have n3_ : zA (Below w.heap.size w w17) := ⟨h3_⟩
          clear BK324 HB h0_ h1_ h2_ h3_; have HO328 := n0_; have HO331 := n1_; have BK324 := n2_; have HB := n3_; clear n0_ n1_ n2_ n3_; have hHeld : w17.cell? ⟨gb324, 0, none⟩ = some (.int .u8 a1_0) ∧ w17.cell? ⟨gb324, 1, none⟩ = some (.int .u8 a1_1) ∧ w17.cell? ⟨gb324, 2, none⟩ = some (.int .u8 a1_2) ∧ w17.cell? ⟨gb324, 3, none⟩ = some (.int .u16 a1_3) ∧ w17.cell? ⟨gb324, 4, none⟩ = some (.int .u16 a1_4) ∧ w17.cell? ⟨gb324, 5, none⟩ = some (.float .f64 a1_5) := hS_
          refine norm_ (a' := ?_) ?_ ?_
          rotate_left
          · simp only [putAll, Act.put, sA_, sB_, sC_]
            rfl
          refine two_ (i := 4) (j := 5) (Ni := some 5) (Nj := some 6) #[true, true, true, true, true, false, false, false] #[true, true, true, true, false, true, false, false] rfl rfl rfl rfl (two_of HT_.out (by kernel_rfl)) (by decide) (by decide) (fun K hK => ?_) (fun K hK => ?_)
          · skip
            refine box_step ?hg (N := 5) ?hd (cs := #[.slice none 0 0, .slice none 0 0]) (t := 31) ?hr ?_; (case hd => rfl); (case hg => rfl); (case hr => first | (go_simp; done) | (go_simp; rfl))
            intro gb338 hg w18 hbox hb
            have n0_ := zA.mk (Kd.R_below (by (with_reducible repeat (first | apply Kd.R_alloc | apply Kd.R_drewN | apply Kd.R_drew)); exact HO328.out) hb)
            have n1_ := zA.mk (Kd.R_below (by (with_reducible repeat (first | apply Kd.R_alloc | apply Kd.R_drewN | apply Kd.R_drew)); exact HO331.out) hb)
            have n2_ := zA.mk (zK (g := gb324) (o := .cells #[.int .u8 a1_0, .int .u8 a1_1, .int .u8 a1_2, .int .u16 a1_3, .int .u16 a1_4, .float .f64 a1_5] 26 (0, 0)) (by (with_reducible repeat (first | refine zC ?_ _ | refine zD ?_ | refine zB ?_ _)); exact BK324.out) hb)
            have n3_ := zA.mk (zN (by repeat (first | (with_reducible first | exact HB.out | apply zJ | apply zG | apply zI | refine zE ?_ GE324.out) | exact HB.out)) hb)
            have n4_ := zA.mk (hbox); have n5_ := zA.mk ((by rw [hg]; exact (zL (by repeat (first | (with_reducible first | exact HB.out | apply zJ | apply zG | apply zI | refine zE ?_ GE324.out) | exact HB.out))) : w.heap.size ≤ gb338))
            have n6_ := zA.mk ((by rw [hg]; exact (zL (by repeat (first | (with_reducible first | exact HB.out | apply zJ | apply zG | apply zI | refine zE ?_ GE324.out) | exact HB.out))) : w.heap.size ≤ gb338))
            have n7_ := zA.mk ((by rw [hg]; exact Nat.ne_of_lt (blk_lt (g := gb324) (o := .cells #[.int .u8 a1_0, .int .u8 a1_1, .int .u8 a1_2, .int .u16 a1_3, .int .u16 a1_4, .float .f64 a1_5] 26 (0, 0)) (by (with_reducible repeat (first | refine zC ?_ _ | refine zD ?_ | refine zB ?_ _)); exact BK324.out)) : gb324 ≠ gb338))
            have n8_ := zA.mk ((by rw [hg]; exact Nat.ne_of_gt (blk_lt (g := gb324) (o := .cells #[.int .u8 a1_0, .int .u8 a1_1, .int .u8 a1_2, .int .u16 a1_3, .int .u16 a1_4, .float .f64 a1_5] 26 (0, 0)) (by (with_reducible repeat (first | refine zC ?_ _ | refine zD ?_ | refine zB ?_ _)); exact BK324.out)) : gb338 ≠ gb324))
            clear HO328 HO331 BK324 HB; have HO328 := n0_; have HO331 := n1_; have BK324 := n2_; have HB := n3_; have BK338 := n4_; have GW338 := n5_; have GE338 := n6_; have NB324_338 := n7_; have NB338_324 := n8_; clear n0_ n1_ n2_ n3_ n4_ n5_ n6_ n7_ n8_; clear hb hbox hg; refine hK.out _ _ ⟨(zF BK324.out 0).trans rfl, (zF BK324.out 1).trans rfl, (zF BK324.out 2).trans rfl, (zF BK324.out 3).trans rfl, (zF BK324.out 4).trans rfl, (zF BK324.out 5).trans rfl⟩ (fun hHeld => ?_)
            clear hK K; refine norm_ (a' := ?_) ?_ ?_
            rotate_left
            · show Act.put _ (some 5) _ = _
              simp only [Act.put, sA_, sB_, sC_, i64_w, i32_w]; rfl
            exact norm_ (by first | (simp only [putAll, Act.put, sA_, sB_, sC_]; done) | (simp only [putAll, Act.put, sA_, sB_, sC_]; rfl)) (hJ1_3_4 (v327, v330, gb338) _ ⟨hHeld, (by (with_reducible repeat (first | apply Kd.R_alloc | apply Kd.R_drewN | apply Kd.R_drew)); exact HO328.out), (by (with_reducible repeat (first | apply Kd.R_alloc | apply Kd.R_drewN | apply Kd.R_drew)); exact HO331.out), (by (with_reducible repeat (first | refine zC ?_ _ | refine zD ?_ | refine zB ?_ _)); exact BK324.out), (by (with_reducible repeat (first | refine zC ?_ _ | refine zD ?_ | refine zB ?_ _)); exact BK338.out), GW338.out, GE338.out, NB324_338.out, NB338_324.out, (by repeat (first | (with_reducible first | exact HB.out | apply zJ | apply zG | apply zI | refine zE ?_ GE324.out | refine zE ?_ GE338.out) | exact HB.out))⟩)
          skip
          refine box_step ?hg (N := 6) ?hd (cs := #[.int .i64 0, .int .i64 0, .int .u8 0, .int .i64 0, .int .i64 0, .float .f64 0]) (t := 35) ?hr ?_; (case hd => rfl); (case hg => rfl); (case hr => first | (go_simp; done) | (go_simp; rfl))
          intro gb339 hg w18 hbox hb
          have n0_ := zA.mk (Kd.R_below (by (with_reducible repeat (first | apply Kd.R_alloc | apply Kd.R_drewN | apply Kd.R_drew)); exact HO328.out) hb)
          have n1_ := zA.mk (Kd.R_below (by (with_reducible repeat (first | apply Kd.R_alloc | apply Kd.R_drewN | apply Kd.R_drew)); exact HO331.out) hb)
          have n2_ := zA.mk (zK (g := gb324) (o := .cells #[.int .u8 a1_0, .int .u8 a1_1, .int .u8 a1_2, .int .u16 a1_3, .int .u16 a1_4, .float .f64 a1_5] 26 (0, 0)) (by (with_reducible repeat (first | refine zC ?_ _ | refine zD ?_ | refine zB ?_ _)); exact BK324.out) hb)
          have n3_ := zA.mk (zN (by repeat (first | (with_reducible first | exact HB.out | apply zJ | apply zG | apply zI | refine zE ?_ GE324.out) | exact HB.out)) hb)
          have n4_ := zA.mk (hbox); have n5_ := zA.mk ((by rw [hg]; exact (zL (by repeat (first | (with_reducible first | exact HB.out | apply zJ | apply zG | apply zI | refine zE ?_ GE324.out) | exact HB.out))) : w.heap.size ≤ gb339))
          have n6_ := zA.mk ((by rw [hg]; exact (zL (by repeat (first | (with_reducible first | exact HB.out | apply zJ | apply zG | apply zI | refine zE ?_ GE324.out) | exact HB.out))) : w.heap.size ≤ gb339))
          have n7_ := zA.mk ((by rw [hg]; exact Nat.ne_of_lt (blk_lt (g := gb324) (o := .cells #[.int .u8 a1_0, .int .u8 a1_1, .int .u8 a1_2, .int .u16 a1_3, .int .u16 a1_4, .float .f64 a1_5] 26 (0, 0)) (by (with_reducible repeat (first | refine zC ?_ _ | refine zD ?_ | refine zB ?_ _)); exact BK324.out)) : gb324 ≠ gb339))
          have n8_ := zA.mk ((by rw [hg]; exact Nat.ne_of_gt (blk_lt (g := gb324) (o := .cells #[.int .u8 a1_0, .int .u8 a1_1, .int .u8 a1_2, .int .u16 a1_3, .int .u16 a1_4, .float .f64 a1_5] 26 (0, 0)) (by (with_reducible repeat (first | refine zC ?_ _ | refine zD ?_ | refine zB ?_ _)); exact BK324.out)) : gb339 ≠ gb324))
          clear HO328 HO331 BK324 HB; have HO328 := n0_; have HO331 := n1_; have BK324 := n2_; have HB := n3_; have BK339 := n4_; have GW339 := n5_; have GE339 := n6_; have NB324_339 := n7_; have NB339_324 := n8_; clear n0_ n1_ n2_ n3_ n4_ n5_ n6_ n7_ n8_; clear hb hbox hg; refine hK.out _ _ ⟨(zF BK324.out 0).trans rfl, (zF BK324.out 1).trans rfl, (zF BK324.out 2).trans rfl, (zF BK324.out 3).trans rfl, (zF BK324.out 4).trans rfl, (zF BK324.out 5).trans rfl⟩ (fun hHeld => ?_)
          clear hK K; refine norm_ (a' := ?_) ?_ ?_
          rotate_left
          · show Act.put _ (some 6) _ = _
            simp only [Act.put, sA_, sB_, sC_, i64_w, i32_w]; rfl
          exact norm_ (by first | (simp only [putAll, Act.put, sA_, sB_, sC_]; done) | (simp only [putAll, Act.put, sA_, sB_, sC_]; rfl)) (hJ1_3_5 (v327, v330, gb339) _ ⟨hHeld, (by (with_reducible repeat (first | apply Kd.R_alloc | apply Kd.R_drewN | apply Kd.R_drew)); exact HO328.out), (by (with_reducible repeat (first | apply Kd.R_alloc | apply Kd.R_drewN | apply Kd.R_drew)); exact HO331.out), (by (with_reducible repeat (first | refine zC ?_ _ | refine zD ?_ | refine zB ?_ _)); exact BK324.out), (by (with_reducible repeat (first | refine zC ?_ _ | refine zD ?_ | refine zB ?_ _)); exact BK339.out), GW339.out, GE339.out, NB324_339.out, NB339_324.out, (by repeat (first | (with_reducible first | exact HB.out | apply zJ | apply zG | apply zI | refine zE ?_ GE324.out | refine zE ?_ GE339.out) | exact HB.out))⟩)
        skip
        rintro ⟨v327, v330, gb338, gb339⟩ w18 ⟨hS_, h0_, h1_, h2_, h3_, h4_, h5_, h6_, h7_, h8_, h9_, h10_, h11_, h12_, h13_, h14_, h15_⟩
        have n0_ : zA (Kd.R k66 66 w18 w.heap.size (fun _ => True) v327 t326) := ⟨h0_⟩
        have n1_ : zA (Kd.R (Kd.int .u8) 51 w18 w.heap.size (fun _ => True) v330 t329) := ⟨h1_⟩
        have n2_ : zA (w18.heap[gb324]? = some (.cells #[.int .u8 a1_0, .int .u8 a1_1, .int .u8 a1_2, .int .u16 a1_3, .int .u16 a1_4, .float .f64 a1_5] 26 (0, 0))) := ⟨h2_⟩
        have n3_ : zA (w18.heap[gb338]? = some (.cells #[.slice none 0 0, .slice none 0 0] 31 (0, 0))) := ⟨h3_⟩
        have n4_ : zA (w18.heap[gb339]? = some (.cells #[.int .i64 0, .int .i64 0, .int .u8 0, .int .i64 0, .int .i64 0, .float .f64 0] 35 (0, 0))) := ⟨h4_⟩
        have n5_ : zA (w.heap.size ≤ gb338) := ⟨h5_⟩
        have n6_ : zA (w.heap.size ≤ gb338) := ⟨h6_⟩
        have n7_ : zA (gb324 ≠ gb338) := ⟨h7_⟩
        have n8_ : zA (gb338 ≠ gb324) := ⟨h8_⟩
        have n9_ : zA (gb339 ≠ gb338) := ⟨h9_⟩
        have n10_ : zA (gb338 ≠ gb339) := ⟨h10_⟩
        have n11_ : zA (w.heap.size ≤ gb339) := ⟨h11_⟩
        have n12_ : zA (w.heap.size ≤ gb339) := ⟨h12_⟩
        have n13_ : zA (gb324 ≠ gb339) := ⟨h13_⟩
        have n14_ : zA (gb339 ≠ gb324) := ⟨h14_⟩
        have n15_ : zA (Below w.heap.size w w18) := ⟨h15_⟩
        clear BK324 HB h0_ h1_ h2_ h3_ h4_ h5_ h6_ h7_ h8_ h9_ h10_ h11_ h12_ h13_ h14_ h15_; have HO328 := n0_; have HO331 := n1_; have BK324 := n2_; have BK338 := n3_; have BK339 := n4_; have GW338 := n5_; have GE338 := n6_; have NB324_338 := n7_; have NB338_324 := n8_; have NB339_338 := n9_; have NB338_339 := n10_; have GW339 := n11_; have GE339 := n12_; have NB324_339 := n13_; have NB339_324 := n14_; have HB := n15_; clear n0_ n1_ n2_ n3_ n4_ n5_ n6_ n7_ n8_ n9_ n10_ n11_ n12_ n13_ n14_ n15_; have hHeld : w18.cell? ⟨gb324, 0, none⟩ = some (.int .u8 a1_0) ∧ w18.cell? ⟨gb324, 1, none⟩ = some (.int .u8 a1_1) ∧ w18.cell? ⟨gb324, 2, none⟩ = some (.int .u8 a1_2) ∧ w18.cell? ⟨gb324, 3, none⟩ = some (.int .u16 a1_3) ∧ w18.cell? ⟨gb324, 4, none⟩ = some (.int .u16 a1_4) ∧ w18.cell? ⟨gb324, 5, none⟩ = some (.float .f64 a1_5) := hS_
        refine norm_ (a' := ?_) ?_ ?_
        rotate_left
        · simp only [putAll, Act.put, sA_, sB_, sC_]
          rfl
        refine one_ (i := 3) (N := some 27) #[true, true, true, true, true, true, false, false] rfl rfl (one_of HT_.out (by kernel_rfl)) (by decide) (fun K hK => ?_)
        refine goes_ Try.func11 (by kernel_rfl) rfl #[.agg #[.int .u8 a1_0, .int .u8 a1_1, .int .u8 a1_2, .int .u16 a1_3, .int .u16 a1_4, .float .f64 a1_5]] (by rfl) rfl rfl (by (try simp only [List.map_toArray, List.map_cons, List.map_nil]); first | done | rfl | (simp only [List.length_drop, List.length_take]; rfl)) ?_
        with_reducible refine (stanzahand03_Config.calls a1_0 a1_1 a1_2 a1_3 a1_4 a1_5 t332 t333 t334 t335 t336 t337 _ A9.out).mono ?_
        rintro e w19 ⟨rfl, hb⟩
        refine ⟨_, rfl, ?_⟩
        have n0_ := zA.mk (Kd.R_below (by (with_reducible repeat (first | apply Kd.R_alloc | apply Kd.R_drewN | apply Kd.R_drew)); exact HO328.out) hb)
        have n1_ := zA.mk (Kd.R_below (by (with_reducible repeat (first | apply Kd.R_alloc | apply Kd.R_drewN | apply Kd.R_drew)); exact HO331.out) hb)
        have n2_ := zA.mk (zK (g := gb324) (o := .cells #[.int .u8 a1_0, .int .u8 a1_1, .int .u8 a1_2, .int .u16 a1_3, .int .u16 a1_4, .float .f64 a1_5] 26 (0, 0)) (by (with_reducible repeat (first | refine zC ?_ _ | refine zD ?_ | refine zB ?_ _)); exact BK324.out) hb)
        have n3_ := zA.mk (zK (g := gb338) (o := .cells #[.slice none 0 0, .slice none 0 0] 31 (0, 0)) (by (with_reducible repeat (first | refine zC ?_ _ | refine zD ?_ | refine zB ?_ _)); exact BK338.out) hb)
        have n4_ := zA.mk (zK (g := gb339) (o := .cells #[.int .i64 0, .int .i64 0, .int .u8 0, .int .i64 0, .int .i64 0, .float .f64 0] 35 (0, 0)) (by (with_reducible repeat (first | refine zC ?_ _ | refine zD ?_ | refine zB ?_ _)); exact BK339.out) hb)
        have n5_ := zA.mk (zN (by repeat (first | (with_reducible first | exact HB.out | apply zJ | apply zG | apply zI | refine zE ?_ GE324.out | refine zE ?_ GE338.out | refine zE ?_ GE339.out) | exact HB.out)) hb)
        clear HO328 HO331 BK324 BK338 BK339 HB; have HO328 := n0_; have HO331 := n1_; have BK324 := n2_; have BK338 := n3_; have BK339 := n4_; have HB := n5_; clear n0_ n1_ n2_ n3_ n4_ n5_; (try clear hb)
        (try clear hb2)
        (try clear hk)
        (try clear hi)
        refine hK.out _ _ ⟨(zF BK324.out 0).trans rfl, (zF BK324.out 1).trans rfl, (zF BK324.out 2).trans rfl, (zF BK324.out 3).trans rfl, (zF BK324.out 4).trans rfl, (zF BK324.out 5).trans rfl⟩ (fun hHeld => ?_)
        clear hK K; refine norm_ (a' := ?_) ?_ ?_
        rotate_left
        · show Act.put _ (some 27) _ = _
          simp only [Act.put, sA_, sB_, sC_, i64_w, i32_w]; rfl
        exact norm_ (by first | (simp only [putAll, Act.put, sA_, sB_, sC_]; done) | (simp only [putAll, Act.put, sA_, sB_, sC_]; rfl)) (hJ1_3_4_5 (v327, v330, gb338, gb339) _ ⟨hHeld, (by (with_reducible repeat (first | apply Kd.R_alloc | apply Kd.R_drewN | apply Kd.R_drew)); exact HO328.out), (by (with_reducible repeat (first | apply Kd.R_alloc | apply Kd.R_drewN | apply Kd.R_drew)); exact HO331.out), (by (with_reducible repeat (first | refine zC ?_ _ | refine zD ?_ | refine zB ?_ _)); exact BK324.out), (by (with_reducible repeat (first | refine zC ?_ _ | refine zD ?_ | refine zB ?_ _)); exact BK338.out), (by (with_reducible repeat (first | refine zC ?_ _ | refine zD ?_ | refine zB ?_ _)); exact BK339.out), GW338.out, GE338.out, NB324_338.out, NB338_324.out, NB339_338.out, NB338_339.out, GW339.out, GE339.out, NB324_339.out, NB339_324.out, (by repeat (first | (with_reducible first | exact HB.out | apply zJ | apply zG | apply zI | refine zE ?_ GE324.out | refine zE ?_ GE338.out | refine zE ?_ GE339.out) | exact HB.out))⟩)
      skip
      rintro ⟨v327, v330, gb339⟩ w18 ⟨hS_, h0_, h1_, h2_, h3_, h4_, h5_, h6_, h7_, h8_⟩
      have n0_ : zA (Kd.R k66 66 w18 w.heap.size (fun _ => True) v327 t326) := ⟨h0_⟩
      have n1_ : zA (Kd.R (Kd.int .u8) 51 w18 w.heap.size (fun _ => True) v330 t329) := ⟨h1_⟩
      have n2_ : zA (w18.heap[gb324]? = some (.cells #[.int .u8 a1_0, .int .u8 a1_1, .int .u8 a1_2, .int .u16 a1_3, .int .u16 a1_4, .float .f64 a1_5] 26 (0, 0))) := ⟨h2_⟩
      have n3_ : zA (w18.heap[gb339]? = some (.cells #[.int .i64 0, .int .i64 0, .int .u8 0, .int .i64 0, .int .i64 0, .float .f64 0] 35 (0, 0))) := ⟨h3_⟩
      have n4_ : zA (w.heap.size ≤ gb339) := ⟨h4_⟩
      have n5_ : zA (w.heap.size ≤ gb339) := ⟨h5_⟩
      have n6_ : zA (gb324 ≠ gb339) := ⟨h6_⟩
      have n7_ : zA (gb339 ≠ gb324) := ⟨h7_⟩
      have n8_ : zA (Below w.heap.size w w18) := ⟨h8_⟩
      clear BK324 HB h0_ h1_ h2_ h3_ h4_ h5_ h6_ h7_ h8_; have HO328 := n0_; have HO331 := n1_; have BK324 := n2_; have BK339 := n3_; have GW339 := n4_; have GE339 := n5_; have NB324_339 := n6_; have NB339_324 := n7_; have HB := n8_; clear n0_ n1_ n2_ n3_ n4_ n5_ n6_ n7_ n8_; have hHeld : w18.cell? ⟨gb324, 0, none⟩ = some (.int .u8 a1_0) ∧ w18.cell? ⟨gb324, 1, none⟩ = some (.int .u8 a1_1) ∧ w18.cell? ⟨gb324, 2, none⟩ = some (.int .u8 a1_2) ∧ w18.cell? ⟨gb324, 3, none⟩ = some (.int .u16 a1_3) ∧ w18.cell? ⟨gb324, 4, none⟩ = some (.int .u16 a1_4) ∧ w18.cell? ⟨gb324, 5, none⟩ = some (.float .f64 a1_5) := hS_
      refine norm_ (a' := ?_) ?_ ?_
      rotate_left
      · simp only [putAll, Act.put, sA_, sB_, sC_]
        rfl
      refine one_ (i := 4) (N := some 5) #[true, true, true, true, true, true, false, false] rfl rfl (one_of HT_.out (by kernel_rfl)) (by decide) (fun K hK => ?_)
      refine box_step ?hg (N := 5) ?hd (cs := #[.slice none 0 0, .slice none 0 0]) (t := 31) ?hr ?_; (case hd => rfl); (case hg => rfl); (case hr => first | (go_simp; done) | (go_simp; rfl))
      intro gb338 hg w19 hbox hb
      have n0_ := zA.mk (Kd.R_below (by (with_reducible repeat (first | apply Kd.R_alloc | apply Kd.R_drewN | apply Kd.R_drew)); exact HO328.out) hb)
      have n1_ := zA.mk (Kd.R_below (by (with_reducible repeat (first | apply Kd.R_alloc | apply Kd.R_drewN | apply Kd.R_drew)); exact HO331.out) hb)
      have n2_ := zA.mk (zK (g := gb324) (o := .cells #[.int .u8 a1_0, .int .u8 a1_1, .int .u8 a1_2, .int .u16 a1_3, .int .u16 a1_4, .float .f64 a1_5] 26 (0, 0)) (by (with_reducible repeat (first | refine zC ?_ _ | refine zD ?_ | refine zB ?_ _)); exact BK324.out) hb)
      have n3_ := zA.mk (zK (g := gb339) (o := .cells #[.int .i64 0, .int .i64 0, .int .u8 0, .int .i64 0, .int .i64 0, .float .f64 0] 35 (0, 0)) (by (with_reducible repeat (first | refine zC ?_ _ | refine zD ?_ | refine zB ?_ _)); exact BK339.out) hb)
      have n4_ := zA.mk (zN (by repeat (first | (with_reducible first | exact HB.out | apply zJ | apply zG | apply zI | refine zE ?_ GE324.out | refine zE ?_ GE339.out) | exact HB.out)) hb)
      have n5_ := zA.mk (hbox); have n6_ := zA.mk ((by rw [hg]; exact (zL (by repeat (first | (with_reducible first | exact HB.out | apply zJ | apply zG | apply zI | refine zE ?_ GE324.out | refine zE ?_ GE339.out) | exact HB.out))) : w.heap.size ≤ gb338))
      have n7_ := zA.mk ((by rw [hg]; exact (zL (by repeat (first | (with_reducible first | exact HB.out | apply zJ | apply zG | apply zI | refine zE ?_ GE324.out | refine zE ?_ GE339.out) | exact HB.out))) : w.heap.size ≤ gb338))
      have n8_ := zA.mk ((by rw [hg]; exact Nat.ne_of_lt (blk_lt (g := gb324) (o := .cells #[.int .u8 a1_0, .int .u8 a1_1, .int .u8 a1_2, .int .u16 a1_3, .int .u16 a1_4, .float .f64 a1_5] 26 (0, 0)) (by (with_reducible repeat (first | refine zC ?_ _ | refine zD ?_ | refine zB ?_ _)); exact BK324.out)) : gb324 ≠ gb338))
      have n9_ := zA.mk ((by rw [hg]; exact Nat.ne_of_gt (blk_lt (g := gb324) (o := .cells #[.int .u8 a1_0, .int .u8 a1_1, .int .u8 a1_2, .int .u16 a1_3, .int .u16 a1_4, .float .f64 a1_5] 26 (0, 0)) (by (with_reducible repeat (first | refine zC ?_ _ | refine zD ?_ | refine zB ?_ _)); exact BK324.out)) : gb338 ≠ gb324))
      have n10_ := zA.mk ((by rw [hg]; exact Nat.ne_of_lt (blk_lt (g := gb339) (o := .cells #[.int .i64 0, .int .i64 0, .int .u8 0, .int .i64 0, .int .i64 0, .float .f64 0] 35 (0, 0)) (by (with_reducible repeat (first | refine zC ?_ _ | refine zD ?_ | refine zB ?_ _)); exact BK339.out)) : gb339 ≠ gb338))
      have n11_ := zA.mk ((by rw [hg]; exact Nat.ne_of_gt (blk_lt (g := gb339) (o := .cells #[.int .i64 0, .int .i64 0, .int .u8 0, .int .i64 0, .int .i64 0, .float .f64 0] 35 (0, 0)) (by (with_reducible repeat (first | refine zC ?_ _ | refine zD ?_ | refine zB ?_ _)); exact BK339.out)) : gb338 ≠ gb339))
      clear HO328 HO331 BK324 BK339 HB; have HO328 := n0_; have HO331 := n1_; have BK324 := n2_; have BK339 := n3_; have HB := n4_; have BK338 := n5_; have GW338 := n6_; have GE338 := n7_; have NB324_338 := n8_; have NB338_324 := n9_; have NB339_338 := n10_; have NB338_339 := n11_; clear n0_ n1_ n2_ n3_ n4_ n5_ n6_ n7_ n8_ n9_ n10_ n11_; clear hb hbox hg; refine hK.out _ _ ⟨(zF BK324.out 0).trans rfl, (zF BK324.out 1).trans rfl, (zF BK324.out 2).trans rfl, (zF BK324.out 3).trans rfl, (zF BK324.out 4).trans rfl, (zF BK324.out 5).trans rfl⟩ (fun hHeld => ?_)
      clear hK K; refine norm_ (a' := ?_) ?_ ?_
      rotate_left
      · show Act.put _ (some 5) _ = _
        simp only [Act.put, sA_, sB_, sC_, i64_w, i32_w]; rfl
      exact norm_ (by first | (simp only [putAll, Act.put, sA_, sB_, sC_]; done) | (simp only [putAll, Act.put, sA_, sB_, sC_]; rfl)) (hJ1_3_4_5 (v327, v330, gb338, gb339) _ ⟨hHeld, (by (with_reducible repeat (first | apply Kd.R_alloc | apply Kd.R_drewN | apply Kd.R_drew)); exact HO328.out), (by (with_reducible repeat (first | apply Kd.R_alloc | apply Kd.R_drewN | apply Kd.R_drew)); exact HO331.out), (by (with_reducible repeat (first | refine zC ?_ _ | refine zD ?_ | refine zB ?_ _)); exact BK324.out), (by (with_reducible repeat (first | refine zC ?_ _ | refine zD ?_ | refine zB ?_ _)); exact BK338.out), (by (with_reducible repeat (first | refine zC ?_ _ | refine zD ?_ | refine zB ?_ _)); exact BK339.out), GW338.out, GE338.out, NB324_338.out, NB338_324.out, NB339_338.out, NB338_339.out, GW339.out, GE339.out, NB324_339.out, NB339_324.out, (by repeat (first | (with_reducible first | exact HB.out | apply zJ | apply zG | apply zI | refine zE ?_ GE324.out | refine zE ?_ GE339.out | refine zE ?_ GE338.out) | exact HB.out))⟩)
    skip
    rintro ⟨v327, v330, gb338⟩ w18 ⟨hS_, h0_, h1_, h2_, h3_, h4_, h5_, h6_, h7_, h8_⟩
    have n0_ : zA (Kd.R k66 66 w18 w.heap.size (fun _ => True) v327 t326) := ⟨h0_⟩
    have n1_ : zA (Kd.R (Kd.int .u8) 51 w18 w.heap.size (fun _ => True) v330 t329) := ⟨h1_⟩
    have n2_ : zA (w18.heap[gb324]? = some (.cells #[.int .u8 a1_0, .int .u8 a1_1, .int .u8 a1_2, .int .u16 a1_3, .int .u16 a1_4, .float .f64 a1_5] 26 (0, 0))) := ⟨h2_⟩
    have n3_ : zA (w18.heap[gb338]? = some (.cells #[.slice none 0 0, .slice none 0 0] 31 (0, 0))) := ⟨h3_⟩
    have n4_ : zA (w.heap.size ≤ gb338) := ⟨h4_⟩
    have n5_ : zA (w.heap.size ≤ gb338) := ⟨h5_⟩
    have n6_ : zA (gb324 ≠ gb338) := ⟨h6_⟩
    have n7_ : zA (gb338 ≠ gb324) := ⟨h7_⟩
    have n8_ : zA (Below w.heap.size w w18) := ⟨h8_⟩
    clear BK324 HB h0_ h1_ h2_ h3_ h4_ h5_ h6_ h7_ h8_; have HO328 := n0_; have HO331 := n1_; have BK324 := n2_; have BK338 := n3_; have GW338 := n4_; have GE338 := n5_; have NB324_338 := n6_; have NB338_324 := n7_; have HB := n8_; clear n0_ n1_ n2_ n3_ n4_ n5_ n6_ n7_ n8_; have hHeld : w18.cell? ⟨gb324, 0, none⟩ = some (.int .u8 a1_0) ∧ w18.cell? ⟨gb324, 1, none⟩ = some (.int .u8 a1_1) ∧ w18.cell? ⟨gb324, 2, none⟩ = some (.int .u8 a1_2) ∧ w18.cell? ⟨gb324, 3, none⟩ = some (.int .u16 a1_3) ∧ w18.cell? ⟨gb324, 4, none⟩ = some (.int .u16 a1_4) ∧ w18.cell? ⟨gb324, 5, none⟩ = some (.float .f64 a1_5) := hS_
    refine norm_ (a' := ?_) ?_ ?_
    rotate_left
    · simp only [putAll, Act.put, sA_, sB_, sC_]
      rfl
    refine one_ (i := 5) (N := some 6) #[true, true, true, true, true, true, false, false] rfl rfl (one_of HT_.out (by kernel_rfl)) (by decide) (fun K hK => ?_)
    refine box_step ?hg (N := 6) ?hd (cs := #[.int .i64 0, .int .i64 0, .int .u8 0, .int .i64 0, .int .i64 0, .float .f64 0]) (t := 35) ?hr ?_; (case hd => rfl); (case hg => rfl); (case hr => first | (go_simp; done) | (go_simp; rfl))
    intro gb339 hg w19 hbox hb
    have n0_ := zA.mk (Kd.R_below (by (with_reducible repeat (first | apply Kd.R_alloc | apply Kd.R_drewN | apply Kd.R_drew)); exact HO328.out) hb)
    have n1_ := zA.mk (Kd.R_below (by (with_reducible repeat (first | apply Kd.R_alloc | apply Kd.R_drewN | apply Kd.R_drew)); exact HO331.out) hb)
    have n2_ := zA.mk (zK (g := gb324) (o := .cells #[.int .u8 a1_0, .int .u8 a1_1, .int .u8 a1_2, .int .u16 a1_3, .int .u16 a1_4, .float .f64 a1_5] 26 (0, 0)) (by (with_reducible repeat (first | refine zC ?_ _ | refine zD ?_ | refine zB ?_ _)); exact BK324.out) hb)
    have n3_ := zA.mk (zK (g := gb338) (o := .cells #[.slice none 0 0, .slice none 0 0] 31 (0, 0)) (by (with_reducible repeat (first | refine zC ?_ _ | refine zD ?_ | refine zB ?_ _)); exact BK338.out) hb)
    have n4_ := zA.mk (zN (by repeat (first | (with_reducible first | exact HB.out | apply zJ | apply zG | apply zI | refine zE ?_ GE324.out | refine zE ?_ GE338.out) | exact HB.out)) hb)
    have n5_ := zA.mk (hbox); have n6_ := zA.mk ((by rw [hg]; exact (zL (by repeat (first | (with_reducible first | exact HB.out | apply zJ | apply zG | apply zI | refine zE ?_ GE324.out | refine zE ?_ GE338.out) | exact HB.out))) : w.heap.size ≤ gb339))
    have n7_ := zA.mk ((by rw [hg]; exact (zL (by repeat (first | (with_reducible first | exact HB.out | apply zJ | apply zG | apply zI | refine zE ?_ GE324.out | refine zE ?_ GE338.out) | exact HB.out))) : w.heap.size ≤ gb339))
    have n8_ := zA.mk ((by rw [hg]; exact Nat.ne_of_lt (blk_lt (g := gb324) (o := .cells #[.int .u8 a1_0, .int .u8 a1_1, .int .u8 a1_2, .int .u16 a1_3, .int .u16 a1_4, .float .f64 a1_5] 26 (0, 0)) (by (with_reducible repeat (first | refine zC ?_ _ | refine zD ?_ | refine zB ?_ _)); exact BK324.out)) : gb324 ≠ gb339))
    have n9_ := zA.mk ((by rw [hg]; exact Nat.ne_of_gt (blk_lt (g := gb324) (o := .cells #[.int .u8 a1_0, .int .u8 a1_1, .int .u8 a1_2, .int .u16 a1_3, .int .u16 a1_4, .float .f64 a1_5] 26 (0, 0)) (by (with_reducible repeat (first | refine zC ?_ _ | refine zD ?_ | refine zB ?_ _)); exact BK324.out)) : gb339 ≠ gb324))
    have n10_ := zA.mk ((by rw [hg]; exact Nat.ne_of_lt (blk_lt (g := gb338) (o := .cells #[.slice none 0 0, .slice none 0 0] 31 (0, 0)) (by (with_reducible repeat (first | refine zC ?_ _ | refine zD ?_ | refine zB ?_ _)); exact BK338.out)) : gb338 ≠ gb339))
    have n11_ := zA.mk ((by rw [hg]; exact Nat.ne_of_gt (blk_lt (g := gb338) (o := .cells #[.slice none 0 0, .slice none 0 0] 31 (0, 0)) (by (with_reducible repeat (first | refine zC ?_ _ | refine zD ?_ | refine zB ?_ _)); exact BK338.out)) : gb339 ≠ gb338))
    clear HO328 HO331 BK324 BK338 HB; have HO328 := n0_; have HO331 := n1_; have BK324 := n2_; have BK338 := n3_; have HB := n4_; have BK339 := n5_; have GW339 := n6_; have GE339 := n7_; have NB324_339 := n8_; have NB339_324 := n9_; have NB338_339 := n10_; have NB339_338 := n11_; clear n0_ n1_ n2_ n3_ n4_ n5_ n6_ n7_ n8_ n9_ n10_ n11_; clear hb hbox hg; refine hK.out _ _ ⟨(zF BK324.out 0).trans rfl, (zF BK324.out 1).trans rfl, (zF BK324.out 2).trans rfl, (zF BK324.out 3).trans rfl, (zF BK324.out 4).trans rfl, (zF BK324.out 5).trans rfl⟩ (fun hHeld => ?_)
    clear hK K; refine norm_ (a' := ?_) ?_ ?_
    rotate_left
    · show Act.put _ (some 6) _ = _
      simp only [Act.put, sA_, sB_, sC_, i64_w, i32_w]; rfl
    exact norm_ (by first | (simp only [putAll, Act.put, sA_, sB_, sC_]; done) | (simp only [putAll, Act.put, sA_, sB_, sC_]; rfl)) (hJ1_3_4_5 (v327, v330, gb338, gb339) _ ⟨hHeld, (by (with_reducible repeat (first | apply Kd.R_alloc | apply Kd.R_drewN | apply Kd.R_drew)); exact HO328.out), (by (with_reducible repeat (first | apply Kd.R_alloc | apply Kd.R_drewN | apply Kd.R_drew)); exact HO331.out), (by (with_reducible repeat (first | refine zC ?_ _ | refine zD ?_ | refine zB ?_ _)); exact BK324.out), (by (with_reducible repeat (first | refine zC ?_ _ | refine zD ?_ | refine zB ?_ _)); exact BK338.out), (by (with_reducible repeat (first | refine zC ?_ _ | refine zD ?_ | refine zB ?_ _)); exact BK339.out), GW338.out, GE338.out, NB324_338.out, NB338_324.out, NB339_338.out, NB338_339.out, GW339.out, GE339.out, NB324_339.out, NB339_324.out, (by repeat (first | (with_reducible first | exact HB.out | apply zJ | apply zG | apply zI | refine zE ?_ GE324.out | refine zE ?_ GE338.out | refine zE ?_ GE339.out) | exact HB.out))⟩)
  rintro ⟨v327, v330, gb338, gb339⟩ w19 ⟨hS_, h0_, h1_, h2_, h3_, h4_, h5_, h6_, h7_, h8_, h9_, h10_, h11_, h12_, h13_, h14_, h15_⟩
  have n0_ : zA (Kd.R k66 66 w19 w.heap.size (fun _ => True) v327 t326) := ⟨h0_⟩
  have n1_ : zA (Kd.R (Kd.int .u8) 51 w19 w.heap.size (fun _ => True) v330 t329) := ⟨h1_⟩
  have n2_ : zA (w19.heap[gb324]? = some (.cells #[.int .u8 a1_0, .int .u8 a1_1, .int .u8 a1_2, .int .u16 a1_3, .int .u16 a1_4, .float .f64 a1_5] 26 (0, 0))) := ⟨h2_⟩
  have n3_ : zA (w19.heap[gb338]? = some (.cells #[.slice none 0 0, .slice none 0 0] 31 (0, 0))) := ⟨h3_⟩
  have n4_ : zA (w19.heap[gb339]? = some (.cells #[.int .i64 0, .int .i64 0, .int .u8 0, .int .i64 0, .int .i64 0, .float .f64 0] 35 (0, 0))) := ⟨h4_⟩
  have n5_ : zA (w.heap.size ≤ gb338) := ⟨h5_⟩
  have n6_ : zA (w.heap.size ≤ gb338) := ⟨h6_⟩
  have n7_ : zA (gb324 ≠ gb338) := ⟨h7_⟩
  have n8_ : zA (gb338 ≠ gb324) := ⟨h8_⟩
  have n9_ : zA (gb339 ≠ gb338) := ⟨h9_⟩
  have n10_ : zA (gb338 ≠ gb339) := ⟨h10_⟩
  have n11_ : zA (w.heap.size ≤ gb339) := ⟨h11_⟩
  have n12_ : zA (w.heap.size ≤ gb339) := ⟨h12_⟩
  have n13_ : zA (gb324 ≠ gb339) := ⟨h13_⟩
  have n14_ : zA (gb339 ≠ gb324) := ⟨h14_⟩
  have n15_ : zA (Below w.heap.size w w19) := ⟨h15_⟩
  clear BK324 HB h0_ h1_ h2_ h3_ h4_ h5_ h6_ h7_ h8_ h9_ h10_ h11_ h12_ h13_ h14_ h15_; have HO328 := n0_; have HO331 := n1_; have BK324 := n2_; have BK338 := n3_; have BK339 := n4_; have GW338 := n5_; have GE338 := n6_; have NB324_338 := n7_; have NB338_324 := n8_; have NB339_338 := n9_; have NB338_339 := n10_; have GW339 := n11_; have GE339 := n12_; have NB324_339 := n13_; have NB339_324 := n14_; have HB := n15_; clear n0_ n1_ n2_ n3_ n4_ n5_ n6_ n7_ n8_ n9_ n10_ n11_ n12_ n13_ n14_ n15_; have hHeld : w19.cell? ⟨gb324, 0, none⟩ = some (.int .u8 a1_0) ∧ w19.cell? ⟨gb324, 1, none⟩ = some (.int .u8 a1_1) ∧ w19.cell? ⟨gb324, 2, none⟩ = some (.int .u8 a1_2) ∧ w19.cell? ⟨gb324, 3, none⟩ = some (.int .u16 a1_3) ∧ w19.cell? ⟨gb324, 4, none⟩ = some (.int .u16 a1_4) ∧ w19.cell? ⟨gb324, 5, none⟩ = some (.float .f64 a1_5) := hS_
  obtain ⟨Ao20, co20, eo20⟩ := Kd.R_slice HO328.out; (first | subst eo20 | (injection eo20 with f1_ f2_ f3_; have f4_ := f1_.symm; have f5_ := f3_.symm; clear f1_ f2_ f3_; subst f4_; subst f5_))
  obtain ⟨Ao22, co22, eo22⟩ := Kd.R_slice HO331.out; (first | subst eo22 | (injection eo22 with f1_ f2_ f3_; have f4_ := f1_.symm; have f5_ := f3_.symm; clear f1_ f2_ f3_; subst f4_; subst f5_))
  refine norm_ (a' := ?_) ?_ ?_
  rotate_left
  · simp only [putAll, Act.put, sA_, sB_, sC_]
    rfl
  refine one_ (i := 6) (N := none) #[true, true, true, true, true, true, true, false] rfl rfl (one_of HT_.out (by kernel_rfl)) (by decide) (fun K hK => ?_)
  have hs21 : w19.cell? ⟨gb338, 0, none⟩ = some (.slice none 0 0) := (zF BK338.out 0).trans rfl
  have hfs21 := zH BK338.out 0; have hns21_0 := NB324_338.out; have hns21_2 := NB339_338.out; have hms21_0 := NB338_324.out; have hms21_2 := NB338_339.out; have hs23 : w19.cell? ⟨gb338, 1, none⟩ = some (.slice none 0 0) := (zF BK338.out 1).trans rfl
  have hfs23 := zH BK338.out 1; have hns23_0 := NB324_338.out; have hns23_2 := NB339_338.out; have hms23_0 := NB338_324.out; have hms23_2 := NB338_339.out; refine skip_ (w1 := ?_) (by rfl) rfl ?_ ?_
  rotate_left
  · go_simp
    rfl
  refine hK.out _ _ ⟨((cell_far (p := ⟨gb338, _, none⟩) NB324_338.out _).trans (((cell_far (p := ⟨gb338, _, none⟩) NB324_338.out _).trans (hHeld.1)))), ((cell_far (p := ⟨gb338, _, none⟩) NB324_338.out _).trans (((cell_far (p := ⟨gb338, _, none⟩) NB324_338.out _).trans (hHeld.2.1)))), ((cell_far (p := ⟨gb338, _, none⟩) NB324_338.out _).trans (((cell_far (p := ⟨gb338, _, none⟩) NB324_338.out _).trans (hHeld.2.2.1)))), ((cell_far (p := ⟨gb338, _, none⟩) NB324_338.out _).trans (((cell_far (p := ⟨gb338, _, none⟩) NB324_338.out _).trans (hHeld.2.2.2.1)))), ((cell_far (p := ⟨gb338, _, none⟩) NB324_338.out _).trans (((cell_far (p := ⟨gb338, _, none⟩) NB324_338.out _).trans (hHeld.2.2.2.2.1)))), ((cell_far (p := ⟨gb338, _, none⟩) NB324_338.out _).trans (((cell_far (p := ⟨gb338, _, none⟩) NB324_338.out _).trans (hHeld.2.2.2.2.2))))⟩ (fun hHeld => ?_)
  clear hK K; refine one_ (i := 7) (N := none) #[true, true, true, true, true, true, true, true] rfl rfl (one_of HT_.out (by kernel_rfl)) (by decide) (fun K hK => ?_)
  have hs24 : w19.cell? ⟨gb339, 0, none⟩ = some (.int .i64 0) := (zF BK339.out 0).trans rfl
  have hfs24 := zH BK339.out 0; have hns24_0 := NB324_339.out; have hns24_1 := NB338_339.out; have hms24_0 := NB339_324.out; have hms24_1 := NB339_338.out; have hs25 : w19.cell? ⟨gb339, 1, none⟩ = some (.int .i64 0) := (zF BK339.out 1).trans rfl
  have hfs25 := zH BK339.out 1; have hns25_0 := NB324_339.out; have hns25_1 := NB338_339.out; have hms25_0 := NB339_324.out; have hms25_1 := NB339_338.out; have hs26 : w19.cell? ⟨gb339, 2, none⟩ = some (.int .u8 0) := (zF BK339.out 2).trans rfl
  have hfs26 := zH BK339.out 2; have hns26_0 := NB324_339.out; have hns26_1 := NB338_339.out; have hms26_0 := NB339_324.out; have hms26_1 := NB339_338.out; have hs27 : w19.cell? ⟨gb339, 3, none⟩ = some (.int .i64 0) := (zF BK339.out 3).trans rfl
  have hfs27 := zH BK339.out 3; have hns27_0 := NB324_339.out; have hns27_1 := NB338_339.out; have hms27_0 := NB339_324.out; have hms27_1 := NB339_338.out; have hs28 : w19.cell? ⟨gb339, 4, none⟩ = some (.int .i64 0) := (zF BK339.out 4).trans rfl
  have hfs28 := zH BK339.out 4; have hns28_0 := NB324_339.out; have hns28_1 := NB338_339.out; have hms28_0 := NB339_324.out; have hms28_1 := NB339_338.out; have hs29 : w19.cell? ⟨gb339, 5, none⟩ = some (.float .f64 0) := (zF BK339.out 5).trans rfl
  have hfs29 := zH BK339.out 5; have hns29_0 := NB324_339.out; have hns29_1 := NB338_339.out; have hms29_0 := NB339_324.out; have hms29_1 := NB339_338.out; refine skip_ (w1 := ?_) (by rfl) rfl ?_ ?_
  rotate_left
  · go_simp
    rfl
  refine hK.out _ _ ⟨((cell_far (p := ⟨gb339, _, none⟩) NB324_339.out _).trans (((cell_far (p := ⟨gb339, _, none⟩) NB324_339.out _).trans (((cell_far (p := ⟨gb339, _, none⟩) NB324_339.out _).trans (((cell_far (p := ⟨gb339, _, none⟩) NB324_339.out _).trans (((cell_far (p := ⟨gb339, _, none⟩) NB324_339.out _).trans (((cell_far (p := ⟨gb339, _, none⟩) NB324_339.out _).trans (hHeld.1)))))))))))), ((cell_far (p := ⟨gb339, _, none⟩) NB324_339.out _).trans (((cell_far (p := ⟨gb339, _, none⟩) NB324_339.out _).trans (((cell_far (p := ⟨gb339, _, none⟩) NB324_339.out _).trans (((cell_far (p := ⟨gb339, _, none⟩) NB324_339.out _).trans (((cell_far (p := ⟨gb339, _, none⟩) NB324_339.out _).trans (((cell_far (p := ⟨gb339, _, none⟩) NB324_339.out _).trans (hHeld.2.1)))))))))))), ((cell_far (p := ⟨gb339, _, none⟩) NB324_339.out _).trans (((cell_far (p := ⟨gb339, _, none⟩) NB324_339.out _).trans (((cell_far (p := ⟨gb339, _, none⟩) NB324_339.out _).trans (((cell_far (p := ⟨gb339, _, none⟩) NB324_339.out _).trans (((cell_far (p := ⟨gb339, _, none⟩) NB324_339.out _).trans (((cell_far (p := ⟨gb339, _, none⟩) NB324_339.out _).trans (hHeld.2.2.1)))))))))))), ((cell_far (p := ⟨gb339, _, none⟩) NB324_339.out _).trans (((cell_far (p := ⟨gb339, _, none⟩) NB324_339.out _).trans (((cell_far (p := ⟨gb339, _, none⟩) NB324_339.out _).trans (((cell_far (p := ⟨gb339, _, none⟩) NB324_339.out _).trans (((cell_far (p := ⟨gb339, _, none⟩) NB324_339.out _).trans (((cell_far (p := ⟨gb339, _, none⟩) NB324_339.out _).trans (hHeld.2.2.2.1)))))))))))), ((cell_far (p := ⟨gb339, _, none⟩) NB324_339.out _).trans (((cell_far (p := ⟨gb339, _, none⟩) NB324_339.out _).trans (((cell_far (p := ⟨gb339, _, none⟩) NB324_339.out _).trans (((cell_far (p := ⟨gb339, _, none⟩) NB324_339.out _).trans (((cell_far (p := ⟨gb339, _, none⟩) NB324_339.out _).trans (((cell_far (p := ⟨gb339, _, none⟩) NB324_339.out _).trans (hHeld.2.2.2.2.1)))))))))))), ((cell_far (p := ⟨gb339, _, none⟩) NB324_339.out _).trans (((cell_far (p := ⟨gb339, _, none⟩) NB324_339.out _).trans (((cell_far (p := ⟨gb339, _, none⟩) NB324_339.out _).trans (((cell_far (p := ⟨gb339, _, none⟩) NB324_339.out _).trans (((cell_far (p := ⟨gb339, _, none⟩) NB324_339.out _).trans (((cell_far (p := ⟨gb339, _, none⟩) NB324_339.out _).trans (hHeld.2.2.2.2.2))))))))))))⟩ (fun hHeld => ?_)
  clear hK K; refine done_ (done_of HT_.out (by kernel_rfl)) ?_
  have hnb30 := NB338_324.out; have hnc30 := NB324_338.out; have hnb31 := NB338_339.out; have hnc31 := NB339_338.out; have hcz32_0 : w19.cell? ⟨gb338, 0, none⟩ = some (.slice none 0 0) := (zF BK338.out 0).trans rfl
  have hcz32_1 : w19.cell? ⟨gb338, 1, none⟩ = some (.slice none 0 0) := (zF BK338.out 1).trans rfl
  have hfz32_0 := zH BK338.out 0; have hfz32_1 := zH BK338.out 1; have hnb33 := NB339_324.out; have hnc33 := NB324_339.out; have hcz34_0 : w19.cell? ⟨gb339, 0, none⟩ = some (.int .i64 0) := (zF BK339.out 0).trans rfl
  have hcz34_1 : w19.cell? ⟨gb339, 1, none⟩ = some (.int .i64 0) := (zF BK339.out 1).trans rfl
  have hcz34_2 : w19.cell? ⟨gb339, 2, none⟩ = some (.int .u8 0) := (zF BK339.out 2).trans rfl
  have hcz34_3 : w19.cell? ⟨gb339, 3, none⟩ = some (.int .i64 0) := (zF BK339.out 3).trans rfl
  have hcz34_4 : w19.cell? ⟨gb339, 4, none⟩ = some (.int .i64 0) := (zF BK339.out 4).trans rfl
  have hcz34_5 : w19.cell? ⟨gb339, 5, none⟩ = some (.float .f64 0) := (zF BK339.out 5).trans rfl
  have hfz34_0 := zH BK339.out 0; have hfz34_1 := zH BK339.out 1; have hfz34_2 := zH BK339.out 2; have hfz34_3 := zH BK339.out 3; have hfz34_4 := zH BK339.out 4; have hfz34_5 := zH BK339.out 5; try go_wp2_with (first | ((with_reducible refine gate_callee (f := 12) rfl ?_); refine goesL_ (some 31) rfl rfl Try.func12 (by kernel_rfl) rfl #[.agg #[.slice Ao20 t326.length co20, .slice Ao22 t329.length co22], .agg #[.int .i64 t332, .int .i64 t333, .int .u8 t334, .int .i64 t335, .int .i64 t336, .float .f64 t337]] rfl (by (try simp only [List.map_toArray, List.map_cons, List.map_nil]); first | done | rfl | (simp only [List.length_drop, List.length_take]; rfl)) ?_; (with_reducible refine (lines_Break.calls k _ _ t326 _ _ t329 t332 t333 t334 t335 t336 t337 t340 t343 _ ?side1 ?side2 ?side3 ?side4 A10.out).mono ?_); (case side1 => refine (Kd.R_reads' (e := 66) (base := w.heap.size) (ok := fun k_ => True) (n := t326.length) (c := co20) ?_).2.2; exact (by (with_reducible repeat (first | apply Kd.R_alloc | apply Kd.R_drewN | apply Kd.R_drew)); exact (Kd.R_mono (Kd.R_mono (Kd.R_far (p := ⟨gb339, 5, none⟩) (Kd.R_far (p := ⟨gb339, 4, none⟩) (Kd.R_far (p := ⟨gb339, 3, none⟩) (Kd.R_far (p := ⟨gb339, 2, none⟩) (Kd.R_far (p := ⟨gb339, 1, none⟩) (Kd.R_far (p := ⟨gb339, 0, none⟩) (Kd.R_far (p := ⟨gb338, 1, none⟩) (Kd.R_far (p := ⟨gb338, 0, none⟩) (Kd.R_types (Kd.R_types HO328.out BK338.out (by decide)) BK339.out (by decide)) (fun _ hk => hk.1.2) (.slice Ao20 t326.length co20)) (fun _ hk => hk.1.2) (.slice Ao22 t329.length co22)) (fun _ hk => hk.2) (.int .i64 t332)) (fun _ hk => hk.2) (.int .i64 t333)) (fun _ hk => hk.2) (.int .u8 t334)) (fun _ hk => hk.2) (.int .i64 t335)) (fun _ hk => hk.2) (.int .i64 t336)) (fun _ hk => hk.2) (.float .f64 t337)) (fun _ h_ => h_.1)) (fun _ h_ => h_.1)))); (case side2 => exact (Kd.R_reads' HO328.out).2.1); (case side3 => refine (Kd.R_reads' (e := 51) (base := w.heap.size) (ok := fun k_ => True) (n := t329.length) (c := co22) ?_).2.2; exact (by (with_reducible repeat (first | apply Kd.R_alloc | apply Kd.R_drewN | apply Kd.R_drew)); exact (Kd.R_mono (Kd.R_mono (Kd.R_far (p := ⟨gb339, 5, none⟩) (Kd.R_far (p := ⟨gb339, 4, none⟩) (Kd.R_far (p := ⟨gb339, 3, none⟩) (Kd.R_far (p := ⟨gb339, 2, none⟩) (Kd.R_far (p := ⟨gb339, 1, none⟩) (Kd.R_far (p := ⟨gb339, 0, none⟩) (Kd.R_far (p := ⟨gb338, 1, none⟩) (Kd.R_far (p := ⟨gb338, 0, none⟩) (Kd.R_types (Kd.R_types HO331.out BK338.out (by decide)) BK339.out (by decide)) (fun _ hk => hk.1.2) (.slice Ao20 t326.length co20)) (fun _ hk => hk.1.2) (.slice Ao22 t329.length co22)) (fun _ hk => hk.2) (.int .i64 t332)) (fun _ hk => hk.2) (.int .i64 t333)) (fun _ hk => hk.2) (.int .u8 t334)) (fun _ hk => hk.2) (.int .i64 t335)) (fun _ hk => hk.2) (.int .i64 t336)) (fun _ hk => hk.2) (.float .f64 t337)) (fun _ h_ => h_.1)) (fun _ h_ => h_.1)))); (case side4 => exact (Kd.R_reads' HO331.out).2.1); rintro e w35 ⟨v341, rfl, ho0, hb⟩; refine ⟨_, rfl, ?_⟩; have n0_ := zA.mk (Kd.R_below (by (with_reducible repeat (first | apply Kd.R_alloc | apply Kd.R_drewN | apply Kd.R_drew)); exact (Kd.R_mono (Kd.R_mono (Kd.R_far (p := ⟨gb339, 5, none⟩) (Kd.R_far (p := ⟨gb339, 4, none⟩) (Kd.R_far (p := ⟨gb339, 3, none⟩) (Kd.R_far (p := ⟨gb339, 2, none⟩) (Kd.R_far (p := ⟨gb339, 1, none⟩) (Kd.R_far (p := ⟨gb339, 0, none⟩) (Kd.R_far (p := ⟨gb338, 1, none⟩) (Kd.R_far (p := ⟨gb338, 0, none⟩) (Kd.R_types (Kd.R_types HO328.out BK338.out (by decide)) BK339.out (by decide)) (fun _ hk => hk.1.2) (.slice Ao20 t326.length co20)) (fun _ hk => hk.1.2) (.slice Ao22 t329.length co22)) (fun _ hk => hk.2) (.int .i64 t332)) (fun _ hk => hk.2) (.int .i64 t333)) (fun _ hk => hk.2) (.int .u8 t334)) (fun _ hk => hk.2) (.int .i64 t335)) (fun _ hk => hk.2) (.int .i64 t336)) (fun _ hk => hk.2) (.float .f64 t337)) (fun _ h_ => h_.1)) (fun _ h_ => h_.1))) hb); have n1_ := zA.mk (Kd.R_below (by (with_reducible repeat (first | apply Kd.R_alloc | apply Kd.R_drewN | apply Kd.R_drew)); exact (Kd.R_mono (Kd.R_mono (Kd.R_far (p := ⟨gb339, 5, none⟩) (Kd.R_far (p := ⟨gb339, 4, none⟩) (Kd.R_far (p := ⟨gb339, 3, none⟩) (Kd.R_far (p := ⟨gb339, 2, none⟩) (Kd.R_far (p := ⟨gb339, 1, none⟩) (Kd.R_far (p := ⟨gb339, 0, none⟩) (Kd.R_far (p := ⟨gb338, 1, none⟩) (Kd.R_far (p := ⟨gb338, 0, none⟩) (Kd.R_types (Kd.R_types HO331.out BK338.out (by decide)) BK339.out (by decide)) (fun _ hk => hk.1.2) (.slice Ao20 t326.length co20)) (fun _ hk => hk.1.2) (.slice Ao22 t329.length co22)) (fun _ hk => hk.2) (.int .i64 t332)) (fun _ hk => hk.2) (.int .i64 t333)) (fun _ hk => hk.2) (.int .u8 t334)) (fun _ hk => hk.2) (.int .i64 t335)) (fun _ hk => hk.2) (.int .i64 t336)) (fun _ hk => hk.2) (.float .f64 t337)) (fun _ h_ => h_.1)) (fun _ h_ => h_.1))) hb); have n2_ := zA.mk (Kd.R_lower ho0 (zL (by repeat (first | (with_reducible first | exact HB.out | apply zJ | apply zG | apply zI | refine zE ?_ GE324.out | refine zE ?_ GE338.out | refine zE ?_ GE339.out) | exact HB.out)))); have n3_ := zA.mk (zK (g := gb324) (o := .cells #[.int .u8 a1_0, .int .u8 a1_1, .int .u8 a1_2, .int .u16 a1_3, .int .u16 a1_4, .float .f64 a1_5] 26 (0, 0)) (by (with_reducible repeat (first | refine zC ?_ _ | refine zD ?_ | refine zB ?_ _)); refine zM ?_ NB324_339.out _; (with_reducible repeat (first | refine zC ?_ _ | refine zD ?_ | refine zB ?_ _)); refine zM ?_ NB324_339.out _; (with_reducible repeat (first | refine zC ?_ _ | refine zD ?_ | refine zB ?_ _)); refine zM ?_ NB324_339.out _; (with_reducible repeat (first | refine zC ?_ _ | refine zD ?_ | refine zB ?_ _)); refine zM ?_ NB324_339.out _; (with_reducible repeat (first | refine zC ?_ _ | refine zD ?_ | refine zB ?_ _)); refine zM ?_ NB324_339.out _; (with_reducible repeat (first | refine zC ?_ _ | refine zD ?_ | refine zB ?_ _)); refine zM ?_ NB324_339.out _; (with_reducible repeat (first | refine zC ?_ _ | refine zD ?_ | refine zB ?_ _)); refine zM ?_ NB324_338.out _; (with_reducible repeat (first | refine zC ?_ _ | refine zD ?_ | refine zB ?_ _)); refine zM ?_ NB324_338.out _; (with_reducible repeat (first | refine zC ?_ _ | refine zD ?_ | refine zB ?_ _)); exact BK324.out) hb); have n4_ := zA.mk (zK (g := gb338) (o := .cells #[.slice Ao20 t326.length co20, .slice Ao22 t329.length co22] 31 (0, 0)) (by (with_reducible repeat (first | refine zC ?_ _ | refine zD ?_ | refine zB ?_ _)); refine zM ?_ NB338_339.out _; (with_reducible repeat (first | refine zC ?_ _ | refine zD ?_ | refine zB ?_ _)); refine zM ?_ NB338_339.out _; (with_reducible repeat (first | refine zC ?_ _ | refine zD ?_ | refine zB ?_ _)); refine zM ?_ NB338_339.out _; (with_reducible repeat (first | refine zC ?_ _ | refine zD ?_ | refine zB ?_ _)); refine zM ?_ NB338_339.out _; (with_reducible repeat (first | refine zC ?_ _ | refine zD ?_ | refine zB ?_ _)); refine zM ?_ NB338_339.out _; (with_reducible repeat (first | refine zC ?_ _ | refine zD ?_ | refine zB ?_ _)); refine zM ?_ NB338_339.out _; (with_reducible repeat (first | refine zC ?_ _ | refine zD ?_ | refine zB ?_ _)); refine blk_put (cs := #[.slice Ao20 t326.length co20, .slice none 0 0]) ?_ 1 _ rfl; (with_reducible repeat (first | refine zC ?_ _ | refine zD ?_ | refine zB ?_ _)); refine blk_put (cs := #[.slice none 0 0, .slice none 0 0]) ?_ 0 _ rfl; (with_reducible repeat (first | refine zC ?_ _ | refine zD ?_ | refine zB ?_ _)); exact BK338.out) hb); have n5_ := zA.mk (zK (g := gb339) (o := .cells #[.int .i64 t332, .int .i64 t333, .int .u8 t334, .int .i64 t335, .int .i64 t336, .float .f64 t337] 35 (0, 0)) (by (with_reducible repeat (first | refine zC ?_ _ | refine zD ?_ | refine zB ?_ _)); refine blk_put (cs := #[.int .i64 t332, .int .i64 t333, .int .u8 t334, .int .i64 t335, .int .i64 t336, .float .f64 0]) ?_ 5 _ rfl; (with_reducible repeat (first | refine zC ?_ _ | refine zD ?_ | refine zB ?_ _)); refine blk_put (cs := #[.int .i64 t332, .int .i64 t333, .int .u8 t334, .int .i64 t335, .int .i64 0, .float .f64 0]) ?_ 4 _ rfl; (with_reducible repeat (first | refine zC ?_ _ | refine zD ?_ | refine zB ?_ _)); refine blk_put (cs := #[.int .i64 t332, .int .i64 t333, .int .u8 t334, .int .i64 0, .int .i64 0, .float .f64 0]) ?_ 3 _ rfl; (with_reducible repeat (first | refine zC ?_ _ | refine zD ?_ | refine zB ?_ _)); refine blk_put (cs := #[.int .i64 t332, .int .i64 t333, .int .u8 0, .int .i64 0, .int .i64 0, .float .f64 0]) ?_ 2 _ rfl; (with_reducible repeat (first | refine zC ?_ _ | refine zD ?_ | refine zB ?_ _)); refine blk_put (cs := #[.int .i64 t332, .int .i64 0, .int .u8 0, .int .i64 0, .int .i64 0, .float .f64 0]) ?_ 1 _ rfl; (with_reducible repeat (first | refine zC ?_ _ | refine zD ?_ | refine zB ?_ _)); refine blk_put (cs := #[.int .i64 0, .int .i64 0, .int .u8 0, .int .i64 0, .int .i64 0, .float .f64 0]) ?_ 0 _ rfl; (with_reducible repeat (first | refine zC ?_ _ | refine zD ?_ | refine zB ?_ _)); refine zM ?_ NB339_338.out _; (with_reducible repeat (first | refine zC ?_ _ | refine zD ?_ | refine zB ?_ _)); refine zM ?_ NB339_338.out _; (with_reducible repeat (first | refine zC ?_ _ | refine zD ?_ | refine zB ?_ _)); exact BK339.out) hb); have n6_ := zA.mk (zN (by repeat (first | (with_reducible first | exact HB.out | apply zJ | apply zG | apply zI | refine zE ?_ GE324.out | refine zE ?_ GE338.out | refine zE ?_ GE339.out) | exact HB.out)) hb); clear HO328; clear HO331; clear BK324; clear BK338; clear BK339; clear HB; have HO328 := n0_; have HO331 := n1_; have HO342 := n2_; have BK324 := n3_; have BK338 := n4_; have BK339 := n5_; have HB := n6_; clear n0_ n1_ n2_ n3_ n4_ n5_ n6_; (try clear hb); (try clear hb2); (try clear hk); (try clear hi); (try clear ho0); have hcz36_0 : w35.cell? ⟨gb338, 0, none⟩ = some (.slice Ao20 t326.length co20) := (zF BK338.out 0).trans rfl; have hcz36_1 : w35.cell? ⟨gb338, 1, none⟩ = some (.slice Ao22 t329.length co22) := (zF BK338.out 1).trans rfl; have hfz36_0 := zH BK338.out 0; have hfz36_1 := zH BK338.out 1) | ((with_reducible refine gate_callee (f := 18) rfl ?_); refine goesL_ (some 35) rfl rfl Try.func18 (by kernel_rfl) rfl #[.agg #[.slice Ao20 t326.length co20, .slice Ao22 t329.length co22]] rfl (by (try simp only [List.map_toArray, List.map_cons, List.map_nil]); first | done | rfl | (simp only [List.length_drop, List.length_take]; rfl)) ?_; (with_reducible refine (items_Parts.calls k _ _ t326 _ _ t329 t344 _ ?side1 ?side2 ?side3 ?side4 A11.out).mono ?_); (case side1 => repeat (first | exact (Kd.R_reads' HO328.out).2.2 | (with_reducible refine Kd.C_alloc ?_ _) | (with_reducible refine Kd.C_drewN ?_ _) | (with_reducible refine Kd.C_drew ?_))); (case side2 => exact (Kd.R_reads' HO328.out).2.1); (case side3 => repeat (first | exact (Kd.R_reads' HO331.out).2.2 | (with_reducible refine Kd.C_alloc ?_ _) | (with_reducible refine Kd.C_drewN ?_ _) | (with_reducible refine Kd.C_drew ?_))); (case side4 => exact (Kd.R_reads' HO331.out).2.1); rintro e w37 ⟨v345, rfl, ho0, hb⟩; refine ⟨_, rfl, ?_⟩; have n0_ := zA.mk (Kd.R_below (by (with_reducible repeat (first | apply Kd.R_alloc | apply Kd.R_drewN | apply Kd.R_drew)); exact HO328.out) hb); have n1_ := zA.mk (Kd.R_below (by (with_reducible repeat (first | apply Kd.R_alloc | apply Kd.R_drewN | apply Kd.R_drew)); exact HO331.out) hb); have n2_ := zA.mk (Kd.R_below (by (with_reducible repeat (first | apply Kd.R_alloc | apply Kd.R_drewN | apply Kd.R_drew)); exact HO342.out) hb); have n3_ := zA.mk (Kd.R_lower ho0 (zL (by repeat (first | (with_reducible first | exact HB.out | apply zJ | apply zG | apply zI | refine zE ?_ GE324.out | refine zE ?_ GE338.out | refine zE ?_ GE339.out) | exact HB.out)))); have n4_ := zA.mk (zK (g := gb324) (o := .cells #[.int .u8 a1_0, .int .u8 a1_1, .int .u8 a1_2, .int .u16 a1_3, .int .u16 a1_4, .float .f64 a1_5] 26 (0, 0)) (by (with_reducible repeat (first | refine zC ?_ _ | refine zD ?_ | refine zB ?_ _)); exact BK324.out) hb); have n5_ := zA.mk (zK (g := gb338) (o := .cells #[.slice Ao20 t326.length co20, .slice Ao22 t329.length co22] 31 (0, 0)) (by (with_reducible repeat (first | refine zC ?_ _ | refine zD ?_ | refine zB ?_ _)); exact BK338.out) hb); have n6_ := zA.mk (zK (g := gb339) (o := .cells #[.int .i64 t332, .int .i64 t333, .int .u8 t334, .int .i64 t335, .int .i64 t336, .float .f64 t337] 35 (0, 0)) (by (with_reducible repeat (first | refine zC ?_ _ | refine zD ?_ | refine zB ?_ _)); exact BK339.out) hb); have n7_ := zA.mk (zN (by repeat (first | (with_reducible first | exact HB.out | apply zJ | apply zG | apply zI | refine zE ?_ GE324.out | refine zE ?_ GE338.out | refine zE ?_ GE339.out) | exact HB.out)) hb); clear HO328; clear HO331; clear HO342; clear BK324; clear BK338; clear BK339; clear HB; have HO328 := n0_; have HO331 := n1_; have HO342 := n2_; have HO346 := n3_; have BK324 := n4_; have BK338 := n5_; have BK339 := n6_; have HB := n7_; clear n0_ n1_ n2_ n3_ n4_ n5_ n6_ n7_; (try clear hb); (try clear hb2); (try clear hk); (try clear hi); (try clear ho0); obtain ⟨Ao38, co38, eo38⟩ := Kd.R_slice HO346.out; subst eo38))
  go_loopg [9, 10, 11, 37] k (fun kq v9 v10 v11 v37 w' => ∃ (x9_1 : Int) (x10_1 : Int) (x11_1 : Bool) (x37_1 : Int), v9 = .int .i64 x9_1 ∧ v10 = .int .i64 x10_1 ∧ v11 = .bool x11_1 ∧ v37 = .int .i64 x37_1 ∧ zA (stanzalaw16_LinesParts.l0 kq t340 t343 x9_1 x10_1 x11_1 t344 (t344.length : Int) x37_1 t326 t329 t332 t333 t334 t335 t336 t337 = some r) ∧ zA (kq ≤ k) ∧ zA (Kd.R k54 54 w' w.heap.size (fun _ => True) v341 t340) ∧ zA (Kd.R (Kd.int .i64) 3 w' w.heap.size (fun _ => True) (.slice Ao38 t344.length co38) t344) ∧ zA (Kd.R k66 66 w' w.heap.size (fun _ => True) (.slice Ao20 t326.length co20) t326) ∧ zA (Kd.R (Kd.int .u8) 51 w' w.heap.size (fun _ => True) (.slice Ao22 t329.length co22) t329) ∧ zA (w'.heap[gb324]? = some (.cells #[.int .u8 a1_0, .int .u8 a1_1, .int .u8 a1_2, .int .u16 a1_3, .int .u16 a1_4, .float .f64 a1_5] 26 (0, 0))) ∧ zA (w'.heap[gb338]? = some (.cells #[(.slice Ao20 t326.length co20), (.slice Ao22 t329.length co22)] 31 (0, 0))) ∧ zA (w'.heap[gb339]? = some (.cells #[.int .i64 t332, .int .i64 t333, .int .u8 t334, .int .i64 t335, .int .i64 t336, .float .f64 t337] 35 (0, 0))) ∧ zA (Below w.heap.size w w'))
  case atStart => exact ⟨(0), (0), (false), (0), (by first | rfl | (simp; done) | (simp [*]; done)), (by first | rfl | (simp; done) | (simp [*]; done)), (by first | rfl | (simp; done) | (simp [*]; done)), (by first | rfl | (simp; done) | (simp [*]; done)), H', ⟨Nat.le_refl _⟩, ⟨by (with_reducible repeat (first | apply Kd.R_alloc | apply Kd.R_drewN | apply Kd.R_drew)); exact HO342.out⟩, ⟨by (with_reducible repeat (first | apply Kd.R_alloc | apply Kd.R_drewN | apply Kd.R_drew)); exact HO346.out⟩, ⟨by (with_reducible repeat (first | apply Kd.R_alloc | apply Kd.R_drewN | apply Kd.R_drew)); exact HO328.out⟩, ⟨by (with_reducible repeat (first | apply Kd.R_alloc | apply Kd.R_drewN | apply Kd.R_drew)); exact HO331.out⟩, ⟨by (with_reducible repeat (first | refine zC ?_ _ | refine zD ?_ | refine zB ?_ _)); exact BK324.out⟩, ⟨by (with_reducible repeat (first | refine zC ?_ _ | refine zD ?_ | refine zB ?_ _)); exact BK338.out⟩, ⟨by (with_reducible repeat (first | refine zC ?_ _ | refine zD ?_ | refine zB ?_ _)); exact BK339.out⟩, ⟨by repeat (first | (with_reducible first | exact HB.out | apply zJ | apply zG | apply zI | refine zE ?_ GE324.out | refine zE ?_ GE338.out | refine zE ?_ GE339.out) | exact HB.out)⟩⟩
  clear H'; try clear c1
  try clear p2
  try clear c3
  try clear c11
  try clear c12
  try clear c18
  try clear c30
  try clear c31
  try clear c33
  try clear hcz32_0
  try clear hcz32_1
  try clear hcz34_0
  try clear hcz34_1
  try clear hcz34_2
  try clear hcz34_3
  try clear hcz34_4
  try clear hcz34_5
  try clear hcz36_0
  try clear hcz36_1
  try clear hfz32_0
  try clear hfz32_1
  try clear hfz34_0
  try clear hfz34_1
  try clear hfz34_2
  try clear hfz34_3
  try clear hfz34_4
  try clear hfz34_5
  try clear hfz36_0
  try clear hfz36_1
  obtain ⟨x9_1, x10_1, x11_1, x37_1, rfl, rfl, rfl, rfl, HA, HK1, HO_7, HO_35, HO_339000, HO_339001, BK324, BK338, BK339, HB⟩ := hrel; cases gk with
  | zero => exact absurd HA.out (by simp [stanzalaw16_LinesParts.l0])
  | succ k1 =>
    have H := HA.out; clear HA; simp only [stanzalaw16_LinesParts.l0] at H; by_cases c39 : x37_1 < (t344.length : Int)
    rotate_left
    · rw [if_neg c39] at H
      have c39b0 : decide (x37_1 < (t344.length : Int)) = false := decide_eq_false c39
      clear c39; by_cases c114 : x10_1 = (t340.length : Int)
      rotate_left
      · rw [if_neg c114] at H
        have c114b0 : (x10_1 == (t340.length : Int)) = false := beq_eq_false_iff_ne.mpr c114
        have c114b1 : (x10_1 != (t340.length : Int)) = true := bne_iff_ne.mpr c114
        exact absurd ((Option.some.inj H).trans hrt_.out) (by decide)
      rw [if_pos c114] at H; have c114b0 : (x10_1 == (t340.length : Int)) = true := beq_iff_eq.mpr c114
      have c114b1 : (x10_1 != (t340.length : Int)) = false := bne_eq_false_iff_eq.mpr c114
      clear c114; obtain rfl := Option.some.inj H
      obtain ⟨Ao115, co115, eo115⟩ := Kd.R_slice HO_7.out; subst eo115; go_wp2
      go_ret
      exact ⟨by first | rfl | (simp [errW_none, errW_some] <;> rfl) | (simp [*, errW_none, errW_some] <;> rfl), by repeat (first | (with_reducible first | exact HB.out | apply zJ | apply zG | apply zI | refine zE ?_ GE324.out | refine zE ?_ GE338.out | refine zE ?_ GE339.out) | exact HB.out)⟩
    rw [if_pos c39] at H; have c39b0 : decide (x37_1 < (t344.length : Int)) = true := decide_eq_true c39
    clear c39; by_cases c40 : 0 ≤ x37_1
    rotate_left
    · rw [if_neg c40] at H
      exact absurd H (by simp)
    rw [if_pos c40] at H; have c40b0 : decide (0 ≤ x37_1) = true := decide_eq_true c40
    clear c40; by_cases c41 : x37_1 < (t344.length : Int)
    rotate_left
    · rw [if_neg c41] at H
      exact absurd H (by simp)
    rw [if_pos c41] at H; have c41b0 : decide (x37_1 < (t344.length : Int)) = true := decide_eq_true c41
    clear c41; replace H := Option.bind_eq_some_iff.mp H; obtain ⟨⟨t348, t351⟩, A420, H⟩ := H; replace H : ((first_Break.f k1 t326 t329 x9_1 (rd t344 x37_1) t332 t333 t334 t335 t336 t337).bind fun t352 => ((best_Break.f k1 t326 t329 x9_1 (rd t344 x37_1) t332 t333 t334 t335 t336 t337).bind fun bt355 => (if t334 = 1 then (stanzalaw16_LinesParts.j1 k1 t340 t343 x10_1 x11_1 (rd t344 x37_1) t348 t351 t352 bt355.1 bt355.2 t344 (t344.length : Int) x37_1 bt355.2 t326 t329 t332 t333 t334 t335 t336 t337) else (stanzalaw16_LinesParts.j1 k1 t340 t343 x10_1 x11_1 (rd t344 x37_1) t348 t351 t352 bt355.1 bt355.2 t344 (t344.length : Int) x37_1 false t326 t329 t332 t333 t334 t335 t336 t337)))) = some r := H
    have A42 := zA.mk A420; clear A420; replace H := Option.bind_eq_some_iff.mp H; obtain ⟨t352, A430, H⟩ := H; replace H : ((best_Break.f k1 t326 t329 x9_1 (rd t344 x37_1) t332 t333 t334 t335 t336 t337).bind fun bt355 => (if t334 = 1 then (stanzalaw16_LinesParts.j1 k1 t340 t343 x10_1 x11_1 (rd t344 x37_1) t348 t351 t352 bt355.1 bt355.2 t344 (t344.length : Int) x37_1 bt355.2 t326 t329 t332 t333 t334 t335 t336 t337) else (stanzalaw16_LinesParts.j1 k1 t340 t343 x10_1 x11_1 (rd t344 x37_1) t348 t351 t352 bt355.1 bt355.2 t344 (t344.length : Int) x37_1 false t326 t329 t332 t333 t334 t335 t336 t337))) = some r := H
    have A43 := zA.mk A430; clear A430; replace H := Option.bind_eq_some_iff.mp H; obtain ⟨⟨t355, t358⟩, A440, H⟩ := H; replace H : (if t334 = 1 then (stanzalaw16_LinesParts.j1 k1 t340 t343 x10_1 x11_1 (rd t344 x37_1) t348 t351 t352 t355 t358 t344 (t344.length : Int) x37_1 t358 t326 t329 t332 t333 t334 t335 t336 t337) else (stanzalaw16_LinesParts.j1 k1 t340 t343 x10_1 x11_1 (rd t344 x37_1) t348 t351 t352 t355 t358 t344 (t344.length : Int) x37_1 false t326 t329 t332 t333 t334 t335 t336 t337)) = some r := H; have A44 := zA.mk A440; clear A440; have HC45 := zA.mk H; clear H; have p347 : 0 ≤ (x37_1 : Int) := of_decide_eq_true (by first | (with_reducible assumption) | assumption)
    have q347 : x37_1 < (t344.length : Int) := of_decide_eq_true (by first | (with_reducible assumption) | assumption)
    obtain ⟨ad347, e347, hx347_0⟩ := Kd.at_int (Kd.R_reads' HO_35.out).2.2 x37_1 p347 q347; cases e347
    replace p347 := eq_true p347; replace q347 := eq_true q347; have hnb46 := NB338_324.out; have hnc46 := NB324_338.out; have hnb47 := NB338_339.out; have hnc47 := NB339_338.out; have hcz48_0 : wr.cell? ⟨gb338, 0, none⟩ = some (.slice Ao20 t326.length co20) := (zF BK338.out 0).trans rfl
    have hcz48_1 : wr.cell? ⟨gb338, 1, none⟩ = some (.slice Ao22 t329.length co22) := (zF BK338.out 1).trans rfl
    have hfz48_0 := zH BK338.out 0; have hfz48_1 := zH BK338.out 1; have hnb49 := NB339_324.out; have hnc49 := NB324_339.out; have hcz50_0 : wr.cell? ⟨gb339, 0, none⟩ = some (.int .i64 t332) := (zF BK339.out 0).trans rfl
    have hcz50_1 : wr.cell? ⟨gb339, 1, none⟩ = some (.int .i64 t333) := (zF BK339.out 1).trans rfl
    have hcz50_2 : wr.cell? ⟨gb339, 2, none⟩ = some (.int .u8 t334) := (zF BK339.out 2).trans rfl
    have hcz50_3 : wr.cell? ⟨gb339, 3, none⟩ = some (.int .i64 t335) := (zF BK339.out 3).trans rfl
    have hcz50_4 : wr.cell? ⟨gb339, 4, none⟩ = some (.int .i64 t336) := (zF BK339.out 4).trans rfl
    have hcz50_5 : wr.cell? ⟨gb339, 5, none⟩ = some (.float .f64 t337) := (zF BK339.out 5).trans rfl
    have hfz50_0 := zH BK339.out 0; have hfz50_1 := zH BK339.out 1; have hfz50_2 := zH BK339.out 2; have hfz50_3 := zH BK339.out 3; have hfz50_4 := zH BK339.out 4; have hfz50_5 := zH BK339.out 5; go_upto_region 14 with (first | ((with_reducible refine gate_callee (f := 19) rfl ?_); refine goesL_ (some 46) rfl rfl Try.func19 (by kernel_rfl) rfl #[.agg #[.slice Ao20 t326.length co20, .slice Ao22 t329.length co22], .int .i64 x9_1, .int .i64 (rd t344 x37_1), .agg #[.int .i64 t332, .int .i64 t333, .int .u8 t334, .int .i64 t335, .int .i64 t336, .float .f64 t337]] rfl (by (try simp only [List.map_toArray, List.map_cons, List.map_nil]); first | done | rfl | (simp only [List.length_drop, List.length_take]; rfl)) ?_; (with_reducible refine (lines_Part.calls k1 _ _ t326 _ _ t329 x9_1 (rd t344 x37_1) t332 t333 t334 t335 t336 t337 t348 t351 _ ?side1 ?side2 ?side3 ?side4 A42.out).mono ?_); (case side1 => repeat (first | exact (Kd.R_reads' HO_339000.out).2.2 | (with_reducible refine Kd.C_alloc ?_ _) | (with_reducible refine Kd.C_drewN ?_ _) | (with_reducible refine Kd.C_drew ?_))); (case side2 => exact (Kd.R_reads' HO_339000.out).2.1); (case side3 => repeat (first | exact (Kd.R_reads' HO_339001.out).2.2 | (with_reducible refine Kd.C_alloc ?_ _) | (with_reducible refine Kd.C_drewN ?_ _) | (with_reducible refine Kd.C_drew ?_))); (case side4 => exact (Kd.R_reads' HO_339001.out).2.1); rintro e w51 ⟨v349, rfl, ho0, hb⟩; refine ⟨_, rfl, ?_⟩; have n0_ := zA.mk (Kd.R_elder' (by (with_reducible repeat (first | apply Kd.R_alloc | apply Kd.R_drewN | apply Kd.R_drew)); exact HO_7.out) (Kd.R_base ho0) hb); have n1_ := zA.mk (Kd.R_below (by (with_reducible repeat (first | apply Kd.R_alloc | apply Kd.R_drewN | apply Kd.R_drew)); exact HO_35.out) hb); have n2_ := zA.mk (Kd.R_below (by (with_reducible repeat (first | apply Kd.R_alloc | apply Kd.R_drewN | apply Kd.R_drew)); exact HO_339000.out) hb); have n3_ := zA.mk (Kd.R_below (by (with_reducible repeat (first | apply Kd.R_alloc | apply Kd.R_drewN | apply Kd.R_drew)); exact HO_339001.out) hb); have n4_ := zA.mk (Kd.R_lower (Kd.R_new' ho0 (Kd.R_lt (by (with_reducible repeat (first | apply Kd.R_alloc | apply Kd.R_drewN | apply Kd.R_drew)); exact HO_7.out))) (zL (by repeat (first | (with_reducible first | exact HB.out | apply zJ | apply zG | apply zI | refine zE ?_ GE324.out | refine zE ?_ GE338.out | refine zE ?_ GE339.out) | exact HB.out)))); have n5_ := zA.mk (zK (g := gb324) (o := .cells #[.int .u8 a1_0, .int .u8 a1_1, .int .u8 a1_2, .int .u16 a1_3, .int .u16 a1_4, .float .f64 a1_5] 26 (0, 0)) (by (with_reducible repeat (first | refine zC ?_ _ | refine zD ?_ | refine zB ?_ _)); exact BK324.out) hb); have n6_ := zA.mk (zK (g := gb338) (o := .cells #[.slice Ao20 t326.length co20, .slice Ao22 t329.length co22] 31 (0, 0)) (by (with_reducible repeat (first | refine zC ?_ _ | refine zD ?_ | refine zB ?_ _)); exact BK338.out) hb); have n7_ := zA.mk (zK (g := gb339) (o := .cells #[.int .i64 t332, .int .i64 t333, .int .u8 t334, .int .i64 t335, .int .i64 t336, .float .f64 t337] 35 (0, 0)) (by (with_reducible repeat (first | refine zC ?_ _ | refine zD ?_ | refine zB ?_ _)); exact BK339.out) hb); have n8_ := zA.mk (zN (by repeat (first | (with_reducible first | exact HB.out | apply zJ | apply zG | apply zI | refine zE ?_ GE324.out | refine zE ?_ GE338.out | refine zE ?_ GE339.out) | exact HB.out)) hb); clear HO_7; clear HO_35; clear HO_339000; clear HO_339001; clear BK324; clear BK338; clear BK339; clear HB; have HO_7 := n0_; have HO_35 := n1_; have HO_339000 := n2_; have HO_339001 := n3_; have HO350 := n4_; have BK324 := n5_; have BK338 := n6_; have BK339 := n7_; have HB := n8_; clear n0_ n1_ n2_ n3_ n4_ n5_ n6_ n7_ n8_; (try clear hb); (try clear hb2); (try clear hk); (try clear hi); (try clear ho0); have hcz52_0 : w51.cell? ⟨gb338, 0, none⟩ = some (.slice Ao20 t326.length co20) := (zF BK338.out 0).trans rfl; have hcz52_1 : w51.cell? ⟨gb338, 1, none⟩ = some (.slice Ao22 t329.length co22) := (zF BK338.out 1).trans rfl; have hfz52_0 := zH BK338.out 0; have hfz52_1 := zH BK338.out 1; have hcz53_0 : w51.cell? ⟨gb339, 0, none⟩ = some (.int .i64 t332) := (zF BK339.out 0).trans rfl; have hcz53_1 : w51.cell? ⟨gb339, 1, none⟩ = some (.int .i64 t333) := (zF BK339.out 1).trans rfl; have hcz53_2 : w51.cell? ⟨gb339, 2, none⟩ = some (.int .u8 t334) := (zF BK339.out 2).trans rfl; have hcz53_3 : w51.cell? ⟨gb339, 3, none⟩ = some (.int .i64 t335) := (zF BK339.out 3).trans rfl; have hcz53_4 : w51.cell? ⟨gb339, 4, none⟩ = some (.int .i64 t336) := (zF BK339.out 4).trans rfl; have hcz53_5 : w51.cell? ⟨gb339, 5, none⟩ = some (.float .f64 t337) := (zF BK339.out 5).trans rfl; have hfz53_0 := zH BK339.out 0; have hfz53_1 := zH BK339.out 1; have hfz53_2 := zH BK339.out 2; have hfz53_3 := zH BK339.out 3; have hfz53_4 := zH BK339.out 4; have hfz53_5 := zH BK339.out 5) | ((with_reducible refine gate_callee (f := 20) rfl ?_); refine goesL_ (some 53) rfl rfl Try.func20 (by kernel_rfl) rfl #[.agg #[.slice Ao20 t326.length co20, .slice Ao22 t329.length co22], .int .i64 x9_1, .int .i64 (rd t344 x37_1), .agg #[.int .i64 t332, .int .i64 t333, .int .u8 t334, .int .i64 t335, .int .i64 t336, .float .f64 t337]] rfl (by (try simp only [List.map_toArray, List.map_cons, List.map_nil]); first | done | rfl | (simp only [List.length_drop, List.length_take]; rfl)) ?_; (with_reducible refine (first_Break.calls k1 _ _ t326 _ _ t329 x9_1 (rd t344 x37_1) t332 t333 t334 t335 t336 t337 t352 _ ?side1 ?side2 ?side3 ?side4 A43.out).mono ?_); (case side1 => repeat (first | exact (Kd.R_reads' HO_339000.out).2.2 | (with_reducible refine Kd.C_alloc ?_ _) | (with_reducible refine Kd.C_drewN ?_ _) | (with_reducible refine Kd.C_drew ?_))); (case side2 => exact (Kd.R_reads' HO_339000.out).2.1); (case side3 => repeat (first | exact (Kd.R_reads' HO_339001.out).2.2 | (with_reducible refine Kd.C_alloc ?_ _) | (with_reducible refine Kd.C_drewN ?_ _) | (with_reducible refine Kd.C_drew ?_))); (case side4 => exact (Kd.R_reads' HO_339001.out).2.1); rintro e w54 ⟨v353, rfl, ho0, hb⟩; refine ⟨_, rfl, ?_⟩; have n0_ := zA.mk (Kd.R_elder' (by (with_reducible repeat (first | apply Kd.R_alloc | apply Kd.R_drewN | apply Kd.R_drew)); exact HO_7.out) (Kd.R_base ho0) hb); have n1_ := zA.mk (Kd.R_below (by (with_reducible repeat (first | apply Kd.R_alloc | apply Kd.R_drewN | apply Kd.R_drew)); exact HO_35.out) hb); have n2_ := zA.mk (Kd.R_below (by (with_reducible repeat (first | apply Kd.R_alloc | apply Kd.R_drewN | apply Kd.R_drew)); exact HO_339000.out) hb); have n3_ := zA.mk (Kd.R_below (by (with_reducible repeat (first | apply Kd.R_alloc | apply Kd.R_drewN | apply Kd.R_drew)); exact HO_339001.out) hb); have n4_ := zA.mk (Kd.R_elder' (by (with_reducible repeat (first | apply Kd.R_alloc | apply Kd.R_drewN | apply Kd.R_drew)); exact HO350.out) (Kd.R_base ho0) hb); have n5_ := zA.mk (Kd.R_lower (Kd.R_new' (Kd.R_new' ho0 (Kd.R_lt (by (with_reducible repeat (first | apply Kd.R_alloc | apply Kd.R_drewN | apply Kd.R_drew)); exact HO_7.out))) (Kd.R_lt (by (with_reducible repeat (first | apply Kd.R_alloc | apply Kd.R_drewN | apply Kd.R_drew)); exact HO350.out))) (zL (by repeat (first | (with_reducible first | exact HB.out | apply zJ | apply zG | apply zI | refine zE ?_ GE324.out | refine zE ?_ GE338.out | refine zE ?_ GE339.out) | exact HB.out)))); have n6_ := zA.mk (zK (g := gb324) (o := .cells #[.int .u8 a1_0, .int .u8 a1_1, .int .u8 a1_2, .int .u16 a1_3, .int .u16 a1_4, .float .f64 a1_5] 26 (0, 0)) (by (with_reducible repeat (first | refine zC ?_ _ | refine zD ?_ | refine zB ?_ _)); exact BK324.out) hb); have n7_ := zA.mk (zK (g := gb338) (o := .cells #[.slice Ao20 t326.length co20, .slice Ao22 t329.length co22] 31 (0, 0)) (by (with_reducible repeat (first | refine zC ?_ _ | refine zD ?_ | refine zB ?_ _)); exact BK338.out) hb); have n8_ := zA.mk (zK (g := gb339) (o := .cells #[.int .i64 t332, .int .i64 t333, .int .u8 t334, .int .i64 t335, .int .i64 t336, .float .f64 t337] 35 (0, 0)) (by (with_reducible repeat (first | refine zC ?_ _ | refine zD ?_ | refine zB ?_ _)); exact BK339.out) hb); have n9_ := zA.mk (zN (by repeat (first | (with_reducible first | exact HB.out | apply zJ | apply zG | apply zI | refine zE ?_ GE324.out | refine zE ?_ GE338.out | refine zE ?_ GE339.out) | exact HB.out)) hb); clear HO_7; clear HO_35; clear HO_339000; clear HO_339001; clear HO350; clear BK324; clear BK338; clear BK339; clear HB; have HO_7 := n0_; have HO_35 := n1_; have HO_339000 := n2_; have HO_339001 := n3_; have HO350 := n4_; have HO354 := n5_; have BK324 := n6_; have BK338 := n7_; have BK339 := n8_; have HB := n9_; clear n0_ n1_ n2_ n3_ n4_ n5_ n6_ n7_ n8_ n9_; (try clear hb); (try clear hb2); (try clear hk); (try clear hi); (try clear ho0); have hcz55_0 : w54.cell? ⟨gb338, 0, none⟩ = some (.slice Ao20 t326.length co20) := (zF BK338.out 0).trans rfl; have hcz55_1 : w54.cell? ⟨gb338, 1, none⟩ = some (.slice Ao22 t329.length co22) := (zF BK338.out 1).trans rfl; have hfz55_0 := zH BK338.out 0; have hfz55_1 := zH BK338.out 1; have hcz56_0 : w54.cell? ⟨gb339, 0, none⟩ = some (.int .i64 t332) := (zF BK339.out 0).trans rfl; have hcz56_1 : w54.cell? ⟨gb339, 1, none⟩ = some (.int .i64 t333) := (zF BK339.out 1).trans rfl; have hcz56_2 : w54.cell? ⟨gb339, 2, none⟩ = some (.int .u8 t334) := (zF BK339.out 2).trans rfl; have hcz56_3 : w54.cell? ⟨gb339, 3, none⟩ = some (.int .i64 t335) := (zF BK339.out 3).trans rfl; have hcz56_4 : w54.cell? ⟨gb339, 4, none⟩ = some (.int .i64 t336) := (zF BK339.out 4).trans rfl; have hcz56_5 : w54.cell? ⟨gb339, 5, none⟩ = some (.float .f64 t337) := (zF BK339.out 5).trans rfl; have hfz56_0 := zH BK339.out 0; have hfz56_1 := zH BK339.out 1; have hfz56_2 := zH BK339.out 2; have hfz56_3 := zH BK339.out 3; have hfz56_4 := zH BK339.out 4; have hfz56_5 := zH BK339.out 5) | ((with_reducible refine gate_callee (f := 21) rfl ?_); refine goesL_ (some 59) rfl rfl Try.func21 (by kernel_rfl) rfl #[.agg #[.slice Ao20 t326.length co20, .slice Ao22 t329.length co22], .int .i64 x9_1, .int .i64 (rd t344 x37_1), .agg #[.int .i64 t332, .int .i64 t333, .int .u8 t334, .int .i64 t335, .int .i64 t336, .float .f64 t337]] rfl (by (try simp only [List.map_toArray, List.map_cons, List.map_nil]); first | done | rfl | (simp only [List.length_drop, List.length_take]; rfl)) ?_; (with_reducible refine (best_Break.calls k1 _ _ t326 _ _ t329 x9_1 (rd t344 x37_1) t332 t333 t334 t335 t336 t337 t355 t358 _ ?side1 ?side2 ?side3 ?side4 A44.out).mono ?_); (case side1 => repeat (first | exact (Kd.R_reads' HO_339000.out).2.2 | (with_reducible refine Kd.C_alloc ?_ _) | (with_reducible refine Kd.C_drewN ?_ _) | (with_reducible refine Kd.C_drew ?_))); (case side2 => exact (Kd.R_reads' HO_339000.out).2.1); (case side3 => repeat (first | exact (Kd.R_reads' HO_339001.out).2.2 | (with_reducible refine Kd.C_alloc ?_ _) | (with_reducible refine Kd.C_drewN ?_ _) | (with_reducible refine Kd.C_drew ?_))); (case side4 => exact (Kd.R_reads' HO_339001.out).2.1); rintro e w57 ⟨v356, rfl, ho0, hb⟩; refine ⟨_, rfl, ?_⟩; have n0_ := zA.mk (Kd.R_elder' (by (with_reducible repeat (first | apply Kd.R_alloc | apply Kd.R_drewN | apply Kd.R_drew)); exact HO_7.out) (Kd.R_base ho0) hb); have n1_ := zA.mk (Kd.R_below (by (with_reducible repeat (first | apply Kd.R_alloc | apply Kd.R_drewN | apply Kd.R_drew)); exact HO_35.out) hb); have n2_ := zA.mk (Kd.R_below (by (with_reducible repeat (first | apply Kd.R_alloc | apply Kd.R_drewN | apply Kd.R_drew)); exact HO_339000.out) hb); have n3_ := zA.mk (Kd.R_below (by (with_reducible repeat (first | apply Kd.R_alloc | apply Kd.R_drewN | apply Kd.R_drew)); exact HO_339001.out) hb); have n4_ := zA.mk (Kd.R_elder' (by (with_reducible repeat (first | apply Kd.R_alloc | apply Kd.R_drewN | apply Kd.R_drew)); exact HO350.out) (Kd.R_base ho0) hb); have n5_ := zA.mk (Kd.R_elder' (by (with_reducible repeat (first | apply Kd.R_alloc | apply Kd.R_drewN | apply Kd.R_drew)); exact HO354.out) (Kd.R_base ho0) hb); have n6_ := zA.mk (Kd.R_lower (Kd.R_new' (Kd.R_new' (Kd.R_new' ho0 (Kd.R_lt (by (with_reducible repeat (first | apply Kd.R_alloc | apply Kd.R_drewN | apply Kd.R_drew)); exact HO_7.out))) (Kd.R_lt (by (with_reducible repeat (first | apply Kd.R_alloc | apply Kd.R_drewN | apply Kd.R_drew)); exact HO350.out))) (Kd.R_lt (by (with_reducible repeat (first | apply Kd.R_alloc | apply Kd.R_drewN | apply Kd.R_drew)); exact HO354.out))) (zL (by repeat (first | (with_reducible first | exact HB.out | apply zJ | apply zG | apply zI | refine zE ?_ GE324.out | refine zE ?_ GE338.out | refine zE ?_ GE339.out) | exact HB.out)))); have n7_ := zA.mk (zK (g := gb324) (o := .cells #[.int .u8 a1_0, .int .u8 a1_1, .int .u8 a1_2, .int .u16 a1_3, .int .u16 a1_4, .float .f64 a1_5] 26 (0, 0)) (by (with_reducible repeat (first | refine zC ?_ _ | refine zD ?_ | refine zB ?_ _)); exact BK324.out) hb); have n8_ := zA.mk (zK (g := gb338) (o := .cells #[.slice Ao20 t326.length co20, .slice Ao22 t329.length co22] 31 (0, 0)) (by (with_reducible repeat (first | refine zC ?_ _ | refine zD ?_ | refine zB ?_ _)); exact BK338.out) hb); have n9_ := zA.mk (zK (g := gb339) (o := .cells #[.int .i64 t332, .int .i64 t333, .int .u8 t334, .int .i64 t335, .int .i64 t336, .float .f64 t337] 35 (0, 0)) (by (with_reducible repeat (first | refine zC ?_ _ | refine zD ?_ | refine zB ?_ _)); exact BK339.out) hb); have n10_ := zA.mk (zN (by repeat (first | (with_reducible first | exact HB.out | apply zJ | apply zG | apply zI | refine zE ?_ GE324.out | refine zE ?_ GE338.out | refine zE ?_ GE339.out) | exact HB.out)) hb); clear HO_7; clear HO_35; clear HO_339000; clear HO_339001; clear HO350; clear HO354; clear BK324; clear BK338; clear BK339; clear HB; have HO_7 := n0_; have HO_35 := n1_; have HO_339000 := n2_; have HO_339001 := n3_; have HO350 := n4_; have HO354 := n5_; have HO357 := n6_; have BK324 := n7_; have BK338 := n8_; have BK339 := n9_; have HB := n10_; clear n0_ n1_ n2_ n3_ n4_ n5_ n6_ n7_ n8_ n9_ n10_; (try clear hb); (try clear hb2); (try clear hk); (try clear hi); (try clear ho0)))
    (try simp only [Act.put, sA_, sB_, sC_])
    go_cut [67] (fun v67 wc => ∃ (kq : Nat) (x67_44 : Bool), v67 = .bool x67_44 ∧ zA (stanzalaw16_LinesParts.j1 kq t340 t343 x10_1 x11_1 (rd t344 x37_1) t348 t351 t352 t355 t358 t344 (t344.length : Int) x37_1 x67_44 t326 t329 t332 t333 t334 t335 t336 t337 = some r) ∧ zA (kq ≤ k1) ∧ zA (Kd.R k54 54 wc w.heap.size (fun k_ => some k_ ≠ (v349 : Value).ownBlock ∧ some k_ ≠ (v353 : Value).ownBlock ∧ some k_ ≠ (v356 : Value).ownBlock) v341 t340) ∧ zA (Kd.R k54 54 wc w.heap.size (fun k_ => some k_ ≠ (v341 : Value).ownBlock ∧ some k_ ≠ (v353 : Value).ownBlock ∧ some k_ ≠ (v356 : Value).ownBlock) v349 t348) ∧ zA (Kd.R k54 54 wc w.heap.size (fun k_ => some k_ ≠ (v341 : Value).ownBlock ∧ some k_ ≠ (v349 : Value).ownBlock ∧ some k_ ≠ (v356 : Value).ownBlock) v353 t352) ∧ zA (Kd.R k54 54 wc w.heap.size (fun k_ => some k_ ≠ (v341 : Value).ownBlock ∧ some k_ ≠ (v349 : Value).ownBlock ∧ some k_ ≠ (v353 : Value).ownBlock) v356 t355) ∧ zA (Kd.R (Kd.int .i64) 3 wc w.heap.size (fun _ => True) (.slice (some ad347) t344.length co38) t344) ∧ zA (Kd.R k66 66 wc w.heap.size (fun _ => True) (.slice Ao20 t326.length co20) t326) ∧ zA (Kd.R (Kd.int .u8) 51 wc w.heap.size (fun _ => True) (.slice Ao22 t329.length co22) t329) ∧ zA (wc.heap[gb324]? = some (.cells #[.int .u8 a1_0, .int .u8 a1_1, .int .u8 a1_2, .int .u16 a1_3, .int .u16 a1_4, .float .f64 a1_5] 26 (0, 0))) ∧ zA (wc.heap[gb338]? = some (.cells #[(.slice Ao20 t326.length co20), (.slice Ao22 t329.length co22)] 31 (0, 0))) ∧ zA (wc.heap[gb339]? = some (.cells #[.int .i64 t332, .int .i64 t333, .int .u8 t334, .int .i64 t335, .int .i64 t336, .float .f64 t337] 35 (0, 0))) ∧ zA (Below w.heap.size w wc))
    case first =>
      have H := HC45.out; clear HC45; by_cases c58 : t334 = 1
      · rw [if_pos c58] at H
        have c58b0 : (t334 == 1) = true := beq_iff_eq.mpr c58
        have c58b1 : (t334 != 1) = false := bne_eq_false_iff_eq.mpr c58
        clear c58; (first | rw [c58b0] | (simp only [i64_w, i32_w]; rw [c58b0]) | skip)
        have H' := zA.mk H
        clear H; have hnb59 := NB339_324.out; have hnc59 := NB324_339.out; have hnb60 := NB339_338.out; have hnc60 := NB338_339.out; have hcz61_0 : w57.cell? ⟨gb339, 0, none⟩ = some (.int .i64 t332) := (zF BK339.out 0).trans rfl
        have hcz61_1 : w57.cell? ⟨gb339, 1, none⟩ = some (.int .i64 t333) := (zF BK339.out 1).trans rfl
        have hcz61_2 : w57.cell? ⟨gb339, 2, none⟩ = some (.int .u8 t334) := (zF BK339.out 2).trans rfl
        have hcz61_3 : w57.cell? ⟨gb339, 3, none⟩ = some (.int .i64 t335) := (zF BK339.out 3).trans rfl
        have hcz61_4 : w57.cell? ⟨gb339, 4, none⟩ = some (.int .i64 t336) := (zF BK339.out 4).trans rfl
        have hcz61_5 : w57.cell? ⟨gb339, 5, none⟩ = some (.float .f64 t337) := (zF BK339.out 5).trans rfl
        have hfz61_0 := zH BK339.out 0; have hfz61_1 := zH BK339.out 1; have hfz61_2 := zH BK339.out 2; have hfz61_3 := zH BK339.out 3; have hfz61_4 := zH BK339.out 4; have hfz61_5 := zH BK339.out 5; go_wp2
        go_meet
        case rel => exact ⟨_, (t358), (by first | rfl | (simp; done) | (simp [*]; done)), H', ⟨by have := HK1.out; first | omega | exact Nat.le_refl _⟩, ⟨by (with_reducible repeat (first | apply Kd.R_alloc | apply Kd.R_drewN | apply Kd.R_drew)); exact Kd.R_mono HO_7.out (fun _ hk => ⟨hk.1.1.2, ⟨hk.1.2, hk.2⟩⟩)⟩, ⟨by (with_reducible repeat (first | apply Kd.R_alloc | apply Kd.R_drewN | apply Kd.R_drew)); exact Kd.R_mono HO350.out (fun _ hk => ⟨hk.1.1.2, ⟨hk.1.2, hk.2⟩⟩)⟩, ⟨by (with_reducible repeat (first | apply Kd.R_alloc | apply Kd.R_drewN | apply Kd.R_drew)); exact Kd.R_mono HO354.out (fun _ hk => ⟨hk.1.1.2, ⟨hk.1.2, hk.2⟩⟩)⟩, ⟨by (with_reducible repeat (first | apply Kd.R_alloc | apply Kd.R_drewN | apply Kd.R_drew)); exact Kd.R_mono HO357.out (fun _ hk => ⟨hk.1.1.2, ⟨hk.1.2, hk.2⟩⟩)⟩, ⟨by (with_reducible repeat (first | apply Kd.R_alloc | apply Kd.R_drewN | apply Kd.R_drew)); exact HO_35.out⟩, ⟨by (with_reducible repeat (first | apply Kd.R_alloc | apply Kd.R_drewN | apply Kd.R_drew)); exact HO_339000.out⟩, ⟨by (with_reducible repeat (first | apply Kd.R_alloc | apply Kd.R_drewN | apply Kd.R_drew)); exact HO_339001.out⟩, ⟨by (with_reducible repeat (first | refine zC ?_ _ | refine zD ?_ | refine zB ?_ _)); exact BK324.out⟩, ⟨by (with_reducible repeat (first | refine zC ?_ _ | refine zD ?_ | refine zB ?_ _)); exact BK338.out⟩, ⟨by (with_reducible repeat (first | refine zC ?_ _ | refine zD ?_ | refine zB ?_ _)); exact BK339.out⟩, ⟨by repeat (first | (with_reducible first | exact HB.out | apply zJ | apply zG | apply zI | refine zE ?_ GE324.out | refine zE ?_ GE338.out | refine zE ?_ GE339.out) | exact HB.out)⟩⟩
      rw [if_neg c58] at H; have c58b0 : (t334 == 1) = false := beq_eq_false_iff_ne.mpr c58
      have c58b1 : (t334 != 1) = true := bne_iff_ne.mpr c58
      (first | rw [c58b0] | (simp only [i64_w, i32_w]; rw [c58b0]) | skip)
      have H' := zA.mk H
      clear H; have hnb62 := NB339_324.out; have hnc62 := NB324_339.out; have hnb63 := NB339_338.out; have hnc63 := NB338_339.out; have hcz64_0 : w57.cell? ⟨gb339, 0, none⟩ = some (.int .i64 t332) := (zF BK339.out 0).trans rfl
      have hcz64_1 : w57.cell? ⟨gb339, 1, none⟩ = some (.int .i64 t333) := (zF BK339.out 1).trans rfl
      have hcz64_2 : w57.cell? ⟨gb339, 2, none⟩ = some (.int .u8 t334) := (zF BK339.out 2).trans rfl
      have hcz64_3 : w57.cell? ⟨gb339, 3, none⟩ = some (.int .i64 t335) := (zF BK339.out 3).trans rfl
      have hcz64_4 : w57.cell? ⟨gb339, 4, none⟩ = some (.int .i64 t336) := (zF BK339.out 4).trans rfl
      have hcz64_5 : w57.cell? ⟨gb339, 5, none⟩ = some (.float .f64 t337) := (zF BK339.out 5).trans rfl
      have hfz64_0 := zH BK339.out 0; have hfz64_1 := zH BK339.out 1; have hfz64_2 := zH BK339.out 2; have hfz64_3 := zH BK339.out 3; have hfz64_4 := zH BK339.out 4; have hfz64_5 := zH BK339.out 5; go_wp2
      go_meet
      case rel => exact ⟨_, (false), (by first | rfl | (simp; done) | (simp [*]; done)), H', ⟨by have := HK1.out; first | omega | exact Nat.le_refl _⟩, ⟨by (with_reducible repeat (first | apply Kd.R_alloc | apply Kd.R_drewN | apply Kd.R_drew)); exact Kd.R_mono HO_7.out (fun _ hk => ⟨hk.1.1.2, ⟨hk.1.2, hk.2⟩⟩)⟩, ⟨by (with_reducible repeat (first | apply Kd.R_alloc | apply Kd.R_drewN | apply Kd.R_drew)); exact Kd.R_mono HO350.out (fun _ hk => ⟨hk.1.1.2, ⟨hk.1.2, hk.2⟩⟩)⟩, ⟨by (with_reducible repeat (first | apply Kd.R_alloc | apply Kd.R_drewN | apply Kd.R_drew)); exact Kd.R_mono HO354.out (fun _ hk => ⟨hk.1.1.2, ⟨hk.1.2, hk.2⟩⟩)⟩, ⟨by (with_reducible repeat (first | apply Kd.R_alloc | apply Kd.R_drewN | apply Kd.R_drew)); exact Kd.R_mono HO357.out (fun _ hk => ⟨hk.1.1.2, ⟨hk.1.2, hk.2⟩⟩)⟩, ⟨by (with_reducible repeat (first | apply Kd.R_alloc | apply Kd.R_drewN | apply Kd.R_drew)); exact HO_35.out⟩, ⟨by (with_reducible repeat (first | apply Kd.R_alloc | apply Kd.R_drewN | apply Kd.R_drew)); exact HO_339000.out⟩, ⟨by (with_reducible repeat (first | apply Kd.R_alloc | apply Kd.R_drewN | apply Kd.R_drew)); exact HO_339001.out⟩, ⟨by (with_reducible repeat (first | refine zC ?_ _ | refine zD ?_ | refine zB ?_ _)); exact BK324.out⟩, ⟨by (with_reducible repeat (first | refine zC ?_ _ | refine zD ?_ | refine zB ?_ _)); exact BK338.out⟩, ⟨by (with_reducible repeat (first | refine zC ?_ _ | refine zD ?_ | refine zB ?_ _)); exact BK339.out⟩, ⟨by repeat (first | (with_reducible first | exact HB.out | apply zJ | apply zG | apply zI | refine zE ?_ GE324.out | refine zE ?_ GE338.out | refine zE ?_ GE339.out) | exact HB.out)⟩⟩
    clear HC45; try clear c1
    try clear c2
    try clear p2
    try clear c3
    try clear p3
    try clear q3
    try clear hx3
    try clear c4
    try clear c5
    try clear c6
    try clear c11
    try clear c12
    try clear c18
    try clear c19
    try clear c20
    try clear c21
    try clear c30
    try clear c31
    try clear c33
    try clear p34
    try clear q34
    try clear hx34
    try clear c39
    try clear c39b0
    try clear c40
    try clear c40b0
    try clear c41
    try clear c41b0
    try clear c46
    try clear c47
    try clear c49
    try clear c58
    try clear c58b0
    try clear c58b1
    try clear c59
    try clear c60
    try clear c62
    try clear c63
    try clear hcz32_0
    try clear hcz32_1
    try clear hcz34_0
    try clear hcz34_1
    try clear hcz34_2
    try clear hcz34_3
    try clear hcz34_4
    try clear hcz34_5
    try clear hcz36_0
    try clear hcz36_1
    try clear hcz48_0
    try clear hcz48_1
    try clear hcz50_0
    try clear hcz50_1
    try clear hcz50_2
    try clear hcz50_3
    try clear hcz50_4
    try clear hcz50_5
    try clear hcz52_0
    try clear hcz52_1
    try clear hcz53_0
    try clear hcz53_1
    try clear hcz53_2
    try clear hcz53_3
    try clear hcz53_4
    try clear hcz53_5
    try clear hcz55_0
    try clear hcz55_1
    try clear hcz56_0
    try clear hcz56_1
    try clear hcz56_2
    try clear hcz56_3
    try clear hcz56_4
    try clear hcz56_5
    try clear hcz61_0
    try clear hcz61_1
    try clear hcz61_2
    try clear hcz61_3
    try clear hcz61_4
    try clear hcz61_5
    try clear hcz64_0
    try clear hcz64_1
    try clear hcz64_2
    try clear hcz64_3
    try clear hcz64_4
    try clear hcz64_5
    try clear hfz32_0
    try clear hfz32_1
    try clear hfz34_0
    try clear hfz34_1
    try clear hfz34_2
    try clear hfz34_3
    try clear hfz34_4
    try clear hfz34_5
    try clear hfz36_0
    try clear hfz36_1
    try clear hfz48_0
    try clear hfz48_1
    try clear hfz50_0
    try clear hfz50_1
    try clear hfz50_2
    try clear hfz50_3
    try clear hfz50_4
    try clear hfz50_5
    try clear hfz52_0
    try clear hfz52_1
    try clear hfz53_0
    try clear hfz53_1
    try clear hfz53_2
    try clear hfz53_3
    try clear hfz53_4
    try clear hfz53_5
    try clear hfz55_0
    try clear hfz55_1
    try clear hfz56_0
    try clear hfz56_1
    try clear hfz56_2
    try clear hfz56_3
    try clear hfz56_4
    try clear hfz56_5
    try clear hfz61_0
    try clear hfz61_1
    try clear hfz61_2
    try clear hfz61_3
    try clear hfz61_4
    try clear hfz61_5
    try clear hfz64_0
    try clear hfz64_1
    try clear hfz64_2
    try clear hfz64_3
    try clear hfz64_4
    try clear hfz64_5
    try clear hx347_0
    try clear p2
    try clear p347
    try clear q347
    obtain ⟨kq, x67_44, rfl, HA, HJ44, HO_7, HO_14, HO_16, HO_17, HO_35, HO_339000, HO_339001, BK324, BK338, BK339, HB⟩ := hcut; cases kq with
    | zero => exact absurd HA.out (by simp [stanzalaw16_LinesParts.j1])
    | succ kj44 =>
      have H := HA.out; clear HA; simp only [stanzalaw16_LinesParts.j1] at H; have HC65 := zA.mk H; clear H; go_upto_if 67 with (fail)
      go_cut [16] (fun v16 wc => ∃ (kq : Nat) (x16_64 : List (S54)), zA (stanzalaw16_LinesParts.j2 kq t340 t343 x10_1 x11_1 (rd t344 x37_1) t348 t351 x16_64 t358 t344 (t344.length : Int) x37_1 t326 t329 t332 t333 t334 t335 t336 t337 = some r) ∧ zA (kq ≤ kj44) ∧ zA (Kd.R k54 54 wc w.heap.size (fun k_ => some k_ ≠ (v349 : Value).ownBlock ∧ some k_ ≠ (v16 : Value).ownBlock) v341 t340) ∧ zA (Kd.R k54 54 wc w.heap.size (fun k_ => some k_ ≠ (v341 : Value).ownBlock ∧ some k_ ≠ (v16 : Value).ownBlock) v349 t348) ∧ zA (Kd.R k54 54 wc w.heap.size (fun k_ => some k_ ≠ (v341 : Value).ownBlock ∧ some k_ ≠ (v349 : Value).ownBlock) v16 x16_64) ∧ zA (Kd.R (Kd.int .i64) 3 wc w.heap.size (fun _ => True) (.slice (some ad347) t344.length co38) t344) ∧ zA (Kd.R k66 66 wc w.heap.size (fun _ => True) (.slice Ao20 t326.length co20) t326) ∧ zA (Kd.R (Kd.int .u8) 51 wc w.heap.size (fun _ => True) (.slice Ao22 t329.length co22) t329) ∧ zA (wc.heap[gb324]? = some (.cells #[.int .u8 a1_0, .int .u8 a1_1, .int .u8 a1_2, .int .u16 a1_3, .int .u16 a1_4, .float .f64 a1_5] 26 (0, 0))) ∧ zA (wc.heap[gb338]? = some (.cells #[(.slice Ao20 t326.length co20), (.slice Ao22 t329.length co22)] 31 (0, 0))) ∧ zA (wc.heap[gb339]? = some (.cells #[.int .i64 t332, .int .i64 t333, .int .u8 t334, .int .i64 t335, .int .i64 t336, .float .f64 t337] 35 (0, 0))) ∧ zA (Below w.heap.size w wc))
      case first =>
        have H := HC65.out; clear HC65; by_cases c66 : x67_44 = true
        · subst c66
          have H1 : (stanzalaw16_LinesParts.j2 kj44 t340 t343 x10_1 x11_1 (rd t344 x37_1) t348 t351 t355 t358 t344 (t344.length : Int) x37_1 t326 t329 t332 t333 t334 t335 t336 t337) = some r := by rw [if_pos rfl] at H; exact H
          clear H; have H := H1; clear H1; have H' := zA.mk H
          clear H; go_wp2
          go_meet
          case rel => exact ⟨_, (t355), H', ⟨by have := HK1.out; have := HJ44.out; first | omega | exact Nat.le_refl _⟩, ⟨by (with_reducible repeat (first | apply Kd.R_alloc | apply Kd.R_drewN | apply Kd.R_drew)); exact Kd.R_mono HO_7.out (fun _ hk => ⟨hk.1, hk.2.2⟩)⟩, ⟨by (with_reducible repeat (first | apply Kd.R_alloc | apply Kd.R_drewN | apply Kd.R_drew)); exact Kd.R_mono HO_14.out (fun _ hk => ⟨hk.1, hk.2.2⟩)⟩, ⟨by (with_reducible repeat (first | apply Kd.R_alloc | apply Kd.R_drewN | apply Kd.R_drew)); exact Kd.R_mono HO_17.out (fun _ hk => ⟨hk.1, hk.2.1⟩)⟩, ⟨by (with_reducible repeat (first | apply Kd.R_alloc | apply Kd.R_drewN | apply Kd.R_drew)); exact HO_35.out⟩, ⟨by (with_reducible repeat (first | apply Kd.R_alloc | apply Kd.R_drewN | apply Kd.R_drew)); exact HO_339000.out⟩, ⟨by (with_reducible repeat (first | apply Kd.R_alloc | apply Kd.R_drewN | apply Kd.R_drew)); exact HO_339001.out⟩, ⟨by (with_reducible repeat (first | refine zC ?_ _ | refine zD ?_ | refine zB ?_ _)); exact BK324.out⟩, ⟨by (with_reducible repeat (first | refine zC ?_ _ | refine zD ?_ | refine zB ?_ _)); exact BK338.out⟩, ⟨by (with_reducible repeat (first | refine zC ?_ _ | refine zD ?_ | refine zB ?_ _)); exact BK339.out⟩, ⟨by repeat (first | (with_reducible first | exact HB.out | apply zJ | apply zG | apply zI | refine zE ?_ GE324.out | refine zE ?_ GE338.out | refine zE ?_ GE339.out) | exact HB.out)⟩⟩
        replace c66 := Bool.eq_false_iff.mpr c66; subst c66; have H1 : (stanzalaw16_LinesParts.j2 kj44 t340 t343 x10_1 x11_1 (rd t344 x37_1) t348 t351 t352 t358 t344 (t344.length : Int) x37_1 t326 t329 t332 t333 t334 t335 t336 t337) = some r := by rw [if_neg (show ¬ (false = true) by decide)] at H; exact H
        clear H; have H := H1; clear H1; have H' := zA.mk H
        clear H; go_wp2
        go_meet
        case rel => exact ⟨_, (t352), H', ⟨by have := HK1.out; have := HJ44.out; first | omega | exact Nat.le_refl _⟩, ⟨by (with_reducible repeat (first | apply Kd.R_alloc | apply Kd.R_drewN | apply Kd.R_drew)); exact Kd.R_mono HO_7.out (fun _ hk => ⟨hk.1, hk.2.1⟩)⟩, ⟨by (with_reducible repeat (first | apply Kd.R_alloc | apply Kd.R_drewN | apply Kd.R_drew)); exact Kd.R_mono HO_14.out (fun _ hk => ⟨hk.1, hk.2.1⟩)⟩, ⟨by (with_reducible repeat (first | apply Kd.R_alloc | apply Kd.R_drewN | apply Kd.R_drew)); exact Kd.R_mono HO_16.out (fun _ hk => ⟨hk.1, hk.2.1⟩)⟩, ⟨by (with_reducible repeat (first | apply Kd.R_alloc | apply Kd.R_drewN | apply Kd.R_drew)); exact HO_35.out⟩, ⟨by (with_reducible repeat (first | apply Kd.R_alloc | apply Kd.R_drewN | apply Kd.R_drew)); exact HO_339000.out⟩, ⟨by (with_reducible repeat (first | apply Kd.R_alloc | apply Kd.R_drewN | apply Kd.R_drew)); exact HO_339001.out⟩, ⟨by (with_reducible repeat (first | refine zC ?_ _ | refine zD ?_ | refine zB ?_ _)); exact BK324.out⟩, ⟨by (with_reducible repeat (first | refine zC ?_ _ | refine zD ?_ | refine zB ?_ _)); exact BK338.out⟩, ⟨by (with_reducible repeat (first | refine zC ?_ _ | refine zD ?_ | refine zB ?_ _)); exact BK339.out⟩, ⟨by repeat (first | (with_reducible first | exact HB.out | apply zJ | apply zG | apply zI | refine zE ?_ GE324.out | refine zE ?_ GE338.out | refine zE ?_ GE339.out) | exact HB.out)⟩⟩
      clear HC65; try clear c1
      try clear c2
      try clear p2
      try clear c3
      try clear p3
      try clear q3
      try clear hx3
      try clear c4
      try clear c5
      try clear c6
      try clear c11
      try clear c12
      try clear c18
      try clear c19
      try clear c20
      try clear c21
      try clear c30
      try clear c31
      try clear c33
      try clear p34
      try clear q34
      try clear hx34
      try clear c39
      try clear c39b0
      try clear c40
      try clear c40b0
      try clear c41
      try clear c41b0
      try clear c46
      try clear c47
      try clear c49
      try clear c58
      try clear c58b0
      try clear c58b1
      try clear c59
      try clear c60
      try clear c62
      try clear c63
      try clear c66
      try clear hcz32_0
      try clear hcz32_1
      try clear hcz34_0
      try clear hcz34_1
      try clear hcz34_2
      try clear hcz34_3
      try clear hcz34_4
      try clear hcz34_5
      try clear hcz36_0
      try clear hcz36_1
      try clear hcz48_0
      try clear hcz48_1
      try clear hcz50_0
      try clear hcz50_1
      try clear hcz50_2
      try clear hcz50_3
      try clear hcz50_4
      try clear hcz50_5
      try clear hcz52_0
      try clear hcz52_1
      try clear hcz53_0
      try clear hcz53_1
      try clear hcz53_2
      try clear hcz53_3
      try clear hcz53_4
      try clear hcz53_5
      try clear hcz55_0
      try clear hcz55_1
      try clear hcz56_0
      try clear hcz56_1
      try clear hcz56_2
      try clear hcz56_3
      try clear hcz56_4
      try clear hcz56_5
      try clear hcz61_0
      try clear hcz61_1
      try clear hcz61_2
      try clear hcz61_3
      try clear hcz61_4
      try clear hcz61_5
      try clear hcz64_0
      try clear hcz64_1
      try clear hcz64_2
      try clear hcz64_3
      try clear hcz64_4
      try clear hcz64_5
      try clear hfz32_0
      try clear hfz32_1
      try clear hfz34_0
      try clear hfz34_1
      try clear hfz34_2
      try clear hfz34_3
      try clear hfz34_4
      try clear hfz34_5
      try clear hfz36_0
      try clear hfz36_1
      try clear hfz48_0
      try clear hfz48_1
      try clear hfz50_0
      try clear hfz50_1
      try clear hfz50_2
      try clear hfz50_3
      try clear hfz50_4
      try clear hfz50_5
      try clear hfz52_0
      try clear hfz52_1
      try clear hfz53_0
      try clear hfz53_1
      try clear hfz53_2
      try clear hfz53_3
      try clear hfz53_4
      try clear hfz53_5
      try clear hfz55_0
      try clear hfz55_1
      try clear hfz56_0
      try clear hfz56_1
      try clear hfz56_2
      try clear hfz56_3
      try clear hfz56_4
      try clear hfz56_5
      try clear hfz61_0
      try clear hfz61_1
      try clear hfz61_2
      try clear hfz61_3
      try clear hfz61_4
      try clear hfz61_5
      try clear hfz64_0
      try clear hfz64_1
      try clear hfz64_2
      try clear hfz64_3
      try clear hfz64_4
      try clear hfz64_5
      try clear hx347_0
      try clear p2
      try clear p3
      try clear p34
      try clear p347
      try clear q3
      try clear q34
      try clear q347
      obtain ⟨kq, x16_64, HA, HJ64, HO_7, HO_14, HO_16, HO_35, HO_339000, HO_339001, BK324, BK338, BK339, HB⟩ := hcut; cases kq with
      | zero => exact absurd HA.out (by simp [stanzalaw16_LinesParts.j2])
      | succ kj64 =>
        have H := HA.out; clear HA; simp only [stanzalaw16_LinesParts.j2] at H; replace H := Option.bind_eq_some_iff.mp H; obtain ⟨t359, A670, H⟩ := H; replace H : (if t359 = true then (if t334 = 1 then (if (t351 != (!t358)) = true then (some false) else (if (wrap64 (x10_1 + (t348.length : Int))) > (t340.length : Int) then (some false) else (if 0 ≤ x10_1 then (if x10_1 ≤ (wrap64 (x10_1 + (t348.length : Int))) then (if (wrap64 (x10_1 + (t348.length : Int))) ≤ (t340.length : Int) then ((stanzaref13_SameLines.f kj64 t348 ((t340.take ((wrap64 (x10_1 + (t348.length : Int))) : Int).toNat).drop (x10_1 : Int).toNat)).bind fun t364 => (if t364 = true then (if x11_1 = true then (stanzalaw16_LinesParts.l0 kj64 t340 t343 (rd t344 x37_1) (wrap64 (x10_1 + (t348.length : Int))) true t344 (t344.length : Int) (wrap64 (x37_1 + 1)) t326 t329 t332 t333 t334 t335 t336 t337) else (stanzalaw16_LinesParts.l0 kj64 t340 t343 (rd t344 x37_1) (wrap64 (x10_1 + (t348.length : Int))) t351 t344 (t344.length : Int) (wrap64 (x37_1 + 1)) t326 t329 t332 t333 t334 t335 t336 t337)) else (some false))) else (none)) else (none)) else (none)))) else (if (t351 != false) = true then (some false) else (if (wrap64 (x10_1 + (t348.length : Int))) > (t340.length : Int) then (some false) else (if 0 ≤ x10_1 then (if x10_1 ≤ (wrap64 (x10_1 + (t348.length : Int))) then (if (wrap64 (x10_1 + (t348.length : Int))) ≤ (t340.length : Int) then ((stanzaref13_SameLines.f kj64 t348 ((t340.take ((wrap64 (x10_1 + (t348.length : Int))) : Int).toNat).drop (x10_1 : Int).toNat)).bind fun t369 => (if t369 = true then (if x11_1 = true then (stanzalaw16_LinesParts.l0 kj64 t340 t343 (rd t344 x37_1) (wrap64 (x10_1 + (t348.length : Int))) true t344 (t344.length : Int) (wrap64 (x37_1 + 1)) t326 t329 t332 t333 t334 t335 t336 t337) else (stanzalaw16_LinesParts.l0 kj64 t340 t343 (rd t344 x37_1) (wrap64 (x10_1 + (t348.length : Int))) t351 t344 (t344.length : Int) (wrap64 (x37_1 + 1)) t326 t329 t332 t333 t334 t335 t336 t337)) else (some false))) else (none)) else (none)) else (none))))) else (some false)) = some r := H
        have A67 := zA.mk A670; clear A670; by_cases c68 : t359 = true
        rotate_left
        · replace c68 := Bool.eq_false_iff.mpr c68
          subst c68; have H1 : (some false) = some r := by rw [if_neg (show ¬ (false = true) by decide)] at H; exact H
          clear H; have H := H1; clear H1; exact absurd ((Option.some.inj H).trans hrt_.out) (by decide)
        subst c68; have H1 : (if t334 = 1 then (if (t351 != (!t358)) = true then (some false) else (if (wrap64 (x10_1 + (t348.length : Int))) > (t340.length : Int) then (some false) else (if 0 ≤ x10_1 then (if x10_1 ≤ (wrap64 (x10_1 + (t348.length : Int))) then (if (wrap64 (x10_1 + (t348.length : Int))) ≤ (t340.length : Int) then ((stanzaref13_SameLines.f kj64 t348 ((t340.take ((wrap64 (x10_1 + (t348.length : Int))) : Int).toNat).drop (x10_1 : Int).toNat)).bind fun t364 => (if t364 = true then (if x11_1 = true then (stanzalaw16_LinesParts.l0 kj64 t340 t343 (rd t344 x37_1) (wrap64 (x10_1 + (t348.length : Int))) true t344 (t344.length : Int) (wrap64 (x37_1 + 1)) t326 t329 t332 t333 t334 t335 t336 t337) else (stanzalaw16_LinesParts.l0 kj64 t340 t343 (rd t344 x37_1) (wrap64 (x10_1 + (t348.length : Int))) t351 t344 (t344.length : Int) (wrap64 (x37_1 + 1)) t326 t329 t332 t333 t334 t335 t336 t337)) else (some false))) else (none)) else (none)) else (none)))) else (if (t351 != false) = true then (some false) else (if (wrap64 (x10_1 + (t348.length : Int))) > (t340.length : Int) then (some false) else (if 0 ≤ x10_1 then (if x10_1 ≤ (wrap64 (x10_1 + (t348.length : Int))) then (if (wrap64 (x10_1 + (t348.length : Int))) ≤ (t340.length : Int) then ((stanzaref13_SameLines.f kj64 t348 ((t340.take ((wrap64 (x10_1 + (t348.length : Int))) : Int).toNat).drop (x10_1 : Int).toNat)).bind fun t369 => (if t369 = true then (if x11_1 = true then (stanzalaw16_LinesParts.l0 kj64 t340 t343 (rd t344 x37_1) (wrap64 (x10_1 + (t348.length : Int))) true t344 (t344.length : Int) (wrap64 (x37_1 + 1)) t326 t329 t332 t333 t334 t335 t336 t337) else (stanzalaw16_LinesParts.l0 kj64 t340 t343 (rd t344 x37_1) (wrap64 (x10_1 + (t348.length : Int))) t351 t344 (t344.length : Int) (wrap64 (x37_1 + 1)) t326 t329 t332 t333 t334 t335 t336 t337)) else (some false))) else (none)) else (none)) else (none))))) = some r := by rw [if_pos rfl] at H; exact H
        clear H; have H := H1; clear H1; by_cases c69 : t334 = 1
        rotate_left
        · rw [if_neg c69] at H
          have c69b0 : (t334 == 1) = false := beq_eq_false_iff_ne.mpr c69
          have c69b1 : (t334 != 1) = true := bne_iff_ne.mpr c69
          by_cases c92 : (t351 != false) = true
          · rw [if_pos c92] at H
            have c92b0 : (t351 != false) = true := c92
            (try (have c92b1 : decide (t351 = false) = false := by simpa using c92))
            (try (have c92b2 : (t351 == false) = false := by simpa using c92))
            (try (have c92b3 : ¬ (t351 = false) := by simpa using c92))
            clear c92; exact absurd ((Option.some.inj H).trans hrt_.out) (by decide)
          rw [if_neg c92] at H; have c92b0 : (t351 != false) = false := by simpa using c92
          (try (have c92b1 : decide (t351 = false) = true := by simpa using c92))
          (try (have c92b2 : (t351 == false) = true := by simpa using c92))
          clear c92; by_cases c93 : (wrap64 (x10_1 + (t348.length : Int))) > (t340.length : Int)
          · rw [if_pos c93] at H
            have c93b0 : decide ((t340.length : Int) < (wrap64 (x10_1 + (t348.length : Int)))) = true := decide_eq_true c93
            clear c93; exact absurd ((Option.some.inj H).trans hrt_.out) (by decide)
          rw [if_neg c93] at H; have c93b0 : decide ((t340.length : Int) < (wrap64 (x10_1 + (t348.length : Int)))) = false := decide_eq_false c93
          clear c93; by_cases c94 : 0 ≤ x10_1
          rotate_left
          · rw [if_neg c94] at H
            exact absurd H (by simp)
          rw [if_pos c94] at H; have c94b0 := eq_true c94; have c94b1 : decide (0 ≤ x10_1) = true := decide_eq_true c94
          clear c94; by_cases c95 : x10_1 ≤ (wrap64 (x10_1 + (t348.length : Int)))
          rotate_left
          · rw [if_neg c95] at H
            exact absurd H (by simp)
          rw [if_pos c95] at H; have c95b0 := eq_true c95; have c95b1 : decide (x10_1 ≤ (wrap64 (x10_1 + (t348.length : Int)))) = true := decide_eq_true c95
          by_cases c96 : (wrap64 (x10_1 + (t348.length : Int))) ≤ (t340.length : Int)
          rotate_left
          · rw [if_neg c96] at H
            exact absurd H (by simp)
          rw [if_pos c96] at H; have c96b0 := eq_true c96; have c96b1 : decide ((wrap64 (x10_1 + (t348.length : Int))) ≤ (t340.length : Int)) = true := decide_eq_true c96
          obtain ⟨y365, hy365⟩ : ∃ y_ : List (S54), y_ = ((t340.take ((wrap64 (x10_1 + (t348.length : Int))) : Int).toNat).drop (x10_1 : Int).toNat) := ⟨_, rfl⟩; replace H : ((stanzaref13_SameLines.f kj64 t348 y365).bind fun t369 => (if t369 = true then (if x11_1 = true then (stanzalaw16_LinesParts.l0 kj64 t340 t343 (rd t344 x37_1) (wrap64 (x10_1 + (t348.length : Int))) true t344 (t344.length : Int) (wrap64 (x37_1 + 1)) t326 t329 t332 t333 t334 t335 t336 t337) else (stanzalaw16_LinesParts.l0 kj64 t340 t343 (rd t344 x37_1) (wrap64 (x10_1 + (t348.length : Int))) t351 t344 (t344.length : Int) (wrap64 (x37_1 + 1)) t326 t329 t332 t333 t334 t335 t336 t337)) else (some false))) = some r := by first | (rw [hy365]; with_reducible exact H) | (have H2_ := (Option.bind_some _ _).symm.trans H; rw [hy365]; with_reducible exact H2_) | (have H2_ := (Option.bind_some _ _).symm.trans H; with_reducible exact H2_) | with_reducible exact H | (rw [hy365]; exact H) | exact H
          have Ny365 := zA.mk hy365; clear hy365; replace H := Option.bind_eq_some_iff.mp H; obtain ⟨t369, A970, H⟩ := H; replace H : (if t369 = true then (if x11_1 = true then (stanzalaw16_LinesParts.l0 kj64 t340 t343 (rd t344 x37_1) (wrap64 (x10_1 + (t348.length : Int))) true t344 (t344.length : Int) (wrap64 (x37_1 + 1)) t326 t329 t332 t333 t334 t335 t336 t337) else (stanzalaw16_LinesParts.l0 kj64 t340 t343 (rd t344 x37_1) (wrap64 (x10_1 + (t348.length : Int))) t351 t344 (t344.length : Int) (wrap64 (x37_1 + 1)) t326 t329 t332 t333 t334 t335 t336 t337)) else (some false)) = some r := H; have A97 := zA.mk A970; clear A970; by_cases c98 : t369 = true
          rotate_left
          · replace c98 := Bool.eq_false_iff.mpr c98
            subst c98; have H1 : (some false) = some r := by rw [if_neg (show ¬ (false = true) by decide)] at H; exact H
            clear H; have H := H1; clear H1; exact absurd ((Option.some.inj H).trans hrt_.out) (by decide)
          subst c98; have H1 : (if x11_1 = true then (stanzalaw16_LinesParts.l0 kj64 t340 t343 (rd t344 x37_1) (wrap64 (x10_1 + (t348.length : Int))) true t344 (t344.length : Int) (wrap64 (x37_1 + 1)) t326 t329 t332 t333 t334 t335 t336 t337) else (stanzalaw16_LinesParts.l0 kj64 t340 t343 (rd t344 x37_1) (wrap64 (x10_1 + (t348.length : Int))) t351 t344 (t344.length : Int) (wrap64 (x37_1 + 1)) t326 t329 t332 t333 t334 t335 t336 t337)) = some r := by rw [if_pos rfl] at H; exact H
          clear H; have H := H1; clear H1; by_cases c99 : x11_1 = true
          · subst c99
            have H1 : (stanzalaw16_LinesParts.l0 kj64 t340 t343 (rd t344 x37_1) (wrap64 (x10_1 + (t348.length : Int))) true t344 (t344.length : Int) (wrap64 (x37_1 + 1)) t326 t329 t332 t333 t334 t335 t336 t337) = some r := by rw [if_pos rfl] at H; exact H
            clear H; have H := H1; clear H1; have H' := zA.mk H
            clear H; obtain ⟨Ao100, co100, eo100⟩ := Kd.R_slice HO_14.out; subst eo100; obtain ⟨Ao101, co101, eo101⟩ := Kd.R_slice HO_16.out; subst eo101; go_wp2_with (first | ((with_reducible refine gate_callee (f := 14) rfl ?_); refine goesL_ (some 71) rfl rfl Try.func14 (by kernel_rfl) rfl #[.slice Ao100 t348.length co100, .slice Ao101 x16_64.length co101] rfl (by (try simp only [List.map_toArray, List.map_cons, List.map_nil]); first | done | rfl | (simp only [List.length_drop, List.length_take]; rfl)) ?_; (with_reducible refine (stanzaref13_SameLines.calls kj64 _ _ t348 _ _ x16_64 true _ ?side1 ?side2 ?side3 ?side4 A67.out).mono ?_); (case side1 => repeat (first | exact (Kd.R_reads' HO_14.out).2.2 | (with_reducible refine Kd.C_alloc ?_ _) | (with_reducible refine Kd.C_drewN ?_ _) | (with_reducible refine Kd.C_drew ?_))); (case side2 => exact (Kd.R_reads' HO_14.out).2.1); (case side3 => repeat (first | exact (Kd.R_reads' HO_16.out).2.2 | (with_reducible refine Kd.C_alloc ?_ _) | (with_reducible refine Kd.C_drewN ?_ _) | (with_reducible refine Kd.C_drew ?_))); (case side4 => exact (Kd.R_reads' HO_16.out).2.1); rintro e w' ⟨rfl, ⟨nd, rfl⟩⟩; refine ⟨_, rfl, ?_⟩; have hnb102 := NB339_324.out; have hnc102 := NB324_339.out; have hnb103 := NB339_338.out; have hnc103 := NB338_339.out; have hcz104_0 : wc.cell? ⟨gb339, 0, none⟩ = some (.int .i64 t332) := (zF BK339.out 0).trans rfl; have hcz104_1 : wc.cell? ⟨gb339, 1, none⟩ = some (.int .i64 t333) := (zF BK339.out 1).trans rfl; have hcz104_2 : wc.cell? ⟨gb339, 2, none⟩ = some (.int .u8 t334) := (zF BK339.out 2).trans rfl; have hcz104_3 : wc.cell? ⟨gb339, 3, none⟩ = some (.int .i64 t335) := (zF BK339.out 3).trans rfl; have hcz104_4 : wc.cell? ⟨gb339, 4, none⟩ = some (.int .i64 t336) := (zF BK339.out 4).trans rfl; have hcz104_5 : wc.cell? ⟨gb339, 5, none⟩ = some (.float .f64 t337) := (zF BK339.out 5).trans rfl; have hfz104_0 := zH BK339.out 0; have hfz104_1 := zH BK339.out 1; have hfz104_2 := zH BK339.out 2; have hfz104_3 := zH BK339.out 3; have hfz104_4 := zH BK339.out 4; have hfz104_5 := zH BK339.out 5; obtain ⟨Ao105, co105, eo105⟩ := Kd.R_slice HO_7.out; subst eo105; have q106 : ((wrap64 (x10_1 + (t348.length : Int))) : Int) ≤ ((t340.length : Int) : Int) := of_decide_eq_true (by first | (with_reducible assumption) | assumption); obtain ⟨i0106, hi0106, _, hsz106, _⟩ := info_parts info54; have hroom106 : t340.length ≤ co105 := (Kd.R_reads' HO_7.out).2.1; have hC106 : Kd.C k54 _ Ao105 t340.length t340 := (Kd.R_reads' HO_7.out).2.2; have ql106 : (x10_1 : Int) ≤ ((wrap64 (x10_1 + (t348.length : Int))) : Int) := of_decide_eq_true (by first | (with_reducible assumption) | assumption); have q0106 : (0 : Int) ≤ (x10_1 : Int) := of_decide_eq_true (by first | (with_reducible assumption) | assumption); have hcut106 := cut_mid (P := Try.prog) 37 54 .i64 .i64 Try.underlying37 hi0106 4 hsz106 Ao105 t340.length co105 x10_1 (wrap64 (x10_1 + (t348.length : Int))) q0106 ql106 q106 hroom106; have hr106 := Kd.C_mid (lo := (x10_1 : Int).toNat) (hi := ((wrap64 (x10_1 + (t348.length : Int))) : Int).toNat) (c := co105) hC106 (by omega) (by omega) hroom106; obtain ⟨A106, hA106⟩ : ∃ A1, A1 = (if co105 = (x10_1 : Int).toNat then Ao105 else (Ao105 : Option Addr).map (·.add ((x10_1 : Int).toNat * 4))) := ⟨_, rfl⟩; obtain ⟨c106, hc106⟩ : ∃ c1, c1 = co105 - (x10_1 : Int).toNat := ⟨_, rfl⟩; have hy106 : y365.length = ((wrap64 (x10_1 + (t348.length : Int))) : Int).toNat - (x10_1 : Int).toNat := (by rw [Ny365.out, List.length_drop, List.length_take] <;> omega); rw [show ((t340).take ((wrap64 (x10_1 + (t348.length : Int))) : Int).toNat).drop (x10_1 : Int).toNat = y365 from Ny365.out.symm] at hr106; replace hr106 : Kd.C k54 _ A106 y365.length y365 := (by rw [hA106]; exact hr106); rw [← hy106, ← hA106, ← hc106] at hcut106; have HR368 := zA.mk hr106; have HC368 := zA.mk (show y365.length ≤ c106 from by rw [hy106, hc106]; exact Nat.sub_le_sub_right (Nat.le_trans (by omega) hroom106) _); clear hr106 hC106 hroom106 hi0106 hsz106 hc106; have KY106 := zA.mk hy106; have KA106 := zA.mk hA106; clear hy106 hA106; have KL106 := zA.mk (show ((wrap64 (x10_1 + (t348.length : Int))) : Int).toNat ≤ t340.length from by omega); have KM106 := zA.mk (show (x10_1 : Int).toNat ≤ ((wrap64 (x10_1 + (t348.length : Int))) : Int).toNat from by omega); replace q106 := eq_true q106) | (go_at_call 14; (with_reducible refine (stanzaref13_SameLines.calls kj64 _ _ t348 _ _ y365 true _ ?side1 ?side2 ?side3 ?side4 A97.out).mono ?_); (case side1 => repeat (first | exact (Kd.R_reads' HO_14.out).2.2 | (with_reducible refine Kd.C_alloc ?_ _) | (with_reducible refine Kd.C_drewN ?_ _) | (with_reducible refine Kd.C_drew ?_))); (case side2 => exact (Kd.R_reads' HO_14.out).2.1); (case side3 => repeat (first | exact (by repeat (first | (with_reducible exact HR368.out) | (with_reducible refine Kd.C_alloc ?_ _) | (with_reducible refine Kd.C_drewN ?_ _) | (with_reducible refine Kd.C_drew ?_) | exact HR368.out)) | (with_reducible refine Kd.C_alloc ?_ _) | (with_reducible refine Kd.C_drewN ?_ _) | (with_reducible refine Kd.C_drew ?_))); (case side4 => exact HC368.out); rintro e w' ⟨rfl, ⟨nd, rfl⟩⟩))
            go_roundg kj64
            case measure => have := HK1.out; have := HJ44.out; have := HJ64.out; omega
            case rel => exact ⟨((rd t344 x37_1)), (wrap64 (x10_1 + (t348.length : Int))), (true), (wrap64 (x37_1 + 1)), (by first | rfl | (simp; done) | (simp [*]; done)), (by first | rfl | (simp; done) | (simp [*]; done)), (by first | rfl | (simp; done) | (simp [*]; done)), (by first | rfl | (simp; done) | (simp [*]; done)), H', ⟨by have := HK1.out; have := HJ44.out; have := HJ64.out; omega⟩, ⟨by (with_reducible repeat (first | apply Kd.R_alloc | apply Kd.R_drewN | apply Kd.R_drew)); exact Kd.R_mono HO_7.out (fun _ hk => trivial)⟩, ⟨by (with_reducible repeat (first | apply Kd.R_alloc | apply Kd.R_drewN | apply Kd.R_drew)); exact HO_35.out⟩, ⟨by (with_reducible repeat (first | apply Kd.R_alloc | apply Kd.R_drewN | apply Kd.R_drew)); exact HO_339000.out⟩, ⟨by (with_reducible repeat (first | apply Kd.R_alloc | apply Kd.R_drewN | apply Kd.R_drew)); exact HO_339001.out⟩, ⟨by (with_reducible repeat (first | refine zC ?_ _ | refine zD ?_ | refine zB ?_ _)); exact BK324.out⟩, ⟨by (with_reducible repeat (first | refine zC ?_ _ | refine zD ?_ | refine zB ?_ _)); exact BK338.out⟩, ⟨by (with_reducible repeat (first | refine zC ?_ _ | refine zD ?_ | refine zB ?_ _)); exact BK339.out⟩, ⟨by repeat (first | (with_reducible first | exact HB.out | apply zJ | apply zG | apply zI | refine zE ?_ GE324.out | refine zE ?_ GE338.out | refine zE ?_ GE339.out) | exact HB.out)⟩⟩
          replace c99 := Bool.eq_false_iff.mpr c99; subst c99; have H1 : (stanzalaw16_LinesParts.l0 kj64 t340 t343 (rd t344 x37_1) (wrap64 (x10_1 + (t348.length : Int))) t351 t344 (t344.length : Int) (wrap64 (x37_1 + 1)) t326 t329 t332 t333 t334 t335 t336 t337) = some r := by rw [if_neg (show ¬ (false = true) by decide)] at H; exact H
          clear H; have H := H1; clear H1; have H' := zA.mk H
          clear H; obtain ⟨Ao107, co107, eo107⟩ := Kd.R_slice HO_14.out; subst eo107; obtain ⟨Ao108, co108, eo108⟩ := Kd.R_slice HO_16.out; subst eo108; go_wp2_with (first | ((with_reducible refine gate_callee (f := 14) rfl ?_); refine goesL_ (some 71) rfl rfl Try.func14 (by kernel_rfl) rfl #[.slice Ao107 t348.length co107, .slice Ao108 x16_64.length co108] rfl (by (try simp only [List.map_toArray, List.map_cons, List.map_nil]); first | done | rfl | (simp only [List.length_drop, List.length_take]; rfl)) ?_; (with_reducible refine (stanzaref13_SameLines.calls kj64 _ _ t348 _ _ x16_64 true _ ?side1 ?side2 ?side3 ?side4 A67.out).mono ?_); (case side1 => repeat (first | exact (Kd.R_reads' HO_14.out).2.2 | (with_reducible refine Kd.C_alloc ?_ _) | (with_reducible refine Kd.C_drewN ?_ _) | (with_reducible refine Kd.C_drew ?_))); (case side2 => exact (Kd.R_reads' HO_14.out).2.1); (case side3 => repeat (first | exact (Kd.R_reads' HO_16.out).2.2 | (with_reducible refine Kd.C_alloc ?_ _) | (with_reducible refine Kd.C_drewN ?_ _) | (with_reducible refine Kd.C_drew ?_))); (case side4 => exact (Kd.R_reads' HO_16.out).2.1); rintro e w' ⟨rfl, ⟨nd, rfl⟩⟩; refine ⟨_, rfl, ?_⟩; have hnb109 := NB339_324.out; have hnc109 := NB324_339.out; have hnb110 := NB339_338.out; have hnc110 := NB338_339.out; have hcz111_0 : wc.cell? ⟨gb339, 0, none⟩ = some (.int .i64 t332) := (zF BK339.out 0).trans rfl; have hcz111_1 : wc.cell? ⟨gb339, 1, none⟩ = some (.int .i64 t333) := (zF BK339.out 1).trans rfl; have hcz111_2 : wc.cell? ⟨gb339, 2, none⟩ = some (.int .u8 t334) := (zF BK339.out 2).trans rfl; have hcz111_3 : wc.cell? ⟨gb339, 3, none⟩ = some (.int .i64 t335) := (zF BK339.out 3).trans rfl; have hcz111_4 : wc.cell? ⟨gb339, 4, none⟩ = some (.int .i64 t336) := (zF BK339.out 4).trans rfl; have hcz111_5 : wc.cell? ⟨gb339, 5, none⟩ = some (.float .f64 t337) := (zF BK339.out 5).trans rfl; have hfz111_0 := zH BK339.out 0; have hfz111_1 := zH BK339.out 1; have hfz111_2 := zH BK339.out 2; have hfz111_3 := zH BK339.out 3; have hfz111_4 := zH BK339.out 4; have hfz111_5 := zH BK339.out 5; obtain ⟨Ao112, co112, eo112⟩ := Kd.R_slice HO_7.out; subst eo112; have q113 : ((wrap64 (x10_1 + (t348.length : Int))) : Int) ≤ ((t340.length : Int) : Int) := of_decide_eq_true (by first | (with_reducible assumption) | assumption); obtain ⟨i0113, hi0113, _, hsz113, _⟩ := info_parts info54; have hroom113 : t340.length ≤ co112 := (Kd.R_reads' HO_7.out).2.1; have hC113 : Kd.C k54 _ Ao112 t340.length t340 := (Kd.R_reads' HO_7.out).2.2; have ql113 : (x10_1 : Int) ≤ ((wrap64 (x10_1 + (t348.length : Int))) : Int) := of_decide_eq_true (by first | (with_reducible assumption) | assumption); have q0113 : (0 : Int) ≤ (x10_1 : Int) := of_decide_eq_true (by first | (with_reducible assumption) | assumption); have hcut113 := cut_mid (P := Try.prog) 37 54 .i64 .i64 Try.underlying37 hi0113 4 hsz113 Ao112 t340.length co112 x10_1 (wrap64 (x10_1 + (t348.length : Int))) q0113 ql113 q113 hroom113; have hr113 := Kd.C_mid (lo := (x10_1 : Int).toNat) (hi := ((wrap64 (x10_1 + (t348.length : Int))) : Int).toNat) (c := co112) hC113 (by omega) (by omega) hroom113; obtain ⟨A113, hA113⟩ : ∃ A1, A1 = (if co112 = (x10_1 : Int).toNat then Ao112 else (Ao112 : Option Addr).map (·.add ((x10_1 : Int).toNat * 4))) := ⟨_, rfl⟩; obtain ⟨c113, hc113⟩ : ∃ c1, c1 = co112 - (x10_1 : Int).toNat := ⟨_, rfl⟩; have hy113 : y365.length = ((wrap64 (x10_1 + (t348.length : Int))) : Int).toNat - (x10_1 : Int).toNat := (by rw [Ny365.out, List.length_drop, List.length_take] <;> omega); rw [show ((t340).take ((wrap64 (x10_1 + (t348.length : Int))) : Int).toNat).drop (x10_1 : Int).toNat = y365 from Ny365.out.symm] at hr113; replace hr113 : Kd.C k54 _ A113 y365.length y365 := (by rw [hA113]; exact hr113); rw [← hy113, ← hA113, ← hc113] at hcut113; have HR368 := zA.mk hr113; have HC368 := zA.mk (show y365.length ≤ c113 from by rw [hy113, hc113]; exact Nat.sub_le_sub_right (Nat.le_trans (by omega) hroom113) _); clear hr113 hC113 hroom113 hi0113 hsz113 hc113; have KY113 := zA.mk hy113; have KA113 := zA.mk hA113; clear hy113 hA113; have KL113 := zA.mk (show ((wrap64 (x10_1 + (t348.length : Int))) : Int).toNat ≤ t340.length from by omega); have KM113 := zA.mk (show (x10_1 : Int).toNat ≤ ((wrap64 (x10_1 + (t348.length : Int))) : Int).toNat from by omega); replace q113 := eq_true q113) | (go_at_call 14; (with_reducible refine (stanzaref13_SameLines.calls kj64 _ _ t348 _ _ y365 true _ ?side1 ?side2 ?side3 ?side4 A97.out).mono ?_); (case side1 => repeat (first | exact (Kd.R_reads' HO_14.out).2.2 | (with_reducible refine Kd.C_alloc ?_ _) | (with_reducible refine Kd.C_drewN ?_ _) | (with_reducible refine Kd.C_drew ?_))); (case side2 => exact (Kd.R_reads' HO_14.out).2.1); (case side3 => repeat (first | exact (by repeat (first | (with_reducible exact HR368.out) | (with_reducible refine Kd.C_alloc ?_ _) | (with_reducible refine Kd.C_drewN ?_ _) | (with_reducible refine Kd.C_drew ?_) | exact HR368.out)) | (with_reducible refine Kd.C_alloc ?_ _) | (with_reducible refine Kd.C_drewN ?_ _) | (with_reducible refine Kd.C_drew ?_))); (case side4 => exact HC368.out); rintro e w' ⟨rfl, ⟨nd, rfl⟩⟩))
          go_roundg kj64
          case measure => have := HK1.out; have := HJ44.out; have := HJ64.out; omega
          case rel => exact ⟨((rd t344 x37_1)), (wrap64 (x10_1 + (t348.length : Int))), (t351), (wrap64 (x37_1 + 1)), (by first | rfl | (simp; done) | (simp [*]; done)), (by first | rfl | (simp; done) | (simp [*]; done)), (by first | rfl | (simp; done) | (simp [*]; done)), (by first | rfl | (simp; done) | (simp [*]; done)), H', ⟨by have := HK1.out; have := HJ44.out; have := HJ64.out; omega⟩, ⟨by (with_reducible repeat (first | apply Kd.R_alloc | apply Kd.R_drewN | apply Kd.R_drew)); exact Kd.R_mono HO_7.out (fun _ hk => trivial)⟩, ⟨by (with_reducible repeat (first | apply Kd.R_alloc | apply Kd.R_drewN | apply Kd.R_drew)); exact HO_35.out⟩, ⟨by (with_reducible repeat (first | apply Kd.R_alloc | apply Kd.R_drewN | apply Kd.R_drew)); exact HO_339000.out⟩, ⟨by (with_reducible repeat (first | apply Kd.R_alloc | apply Kd.R_drewN | apply Kd.R_drew)); exact HO_339001.out⟩, ⟨by (with_reducible repeat (first | refine zC ?_ _ | refine zD ?_ | refine zB ?_ _)); exact BK324.out⟩, ⟨by (with_reducible repeat (first | refine zC ?_ _ | refine zD ?_ | refine zB ?_ _)); exact BK338.out⟩, ⟨by (with_reducible repeat (first | refine zC ?_ _ | refine zD ?_ | refine zB ?_ _)); exact BK339.out⟩, ⟨by repeat (first | (with_reducible first | exact HB.out | apply zJ | apply zG | apply zI | refine zE ?_ GE324.out | refine zE ?_ GE338.out | refine zE ?_ GE339.out) | exact HB.out)⟩⟩
        rw [if_pos c69] at H; have c69b0 : (t334 == 1) = true := beq_iff_eq.mpr c69
        have c69b1 : (t334 != 1) = false := bne_eq_false_iff_eq.mpr c69
        clear c69; by_cases c70 : (t351 != (!t358)) = true
        · rw [if_pos c70] at H
          have c70b0 : (t351 != (!t358)) = true := c70
          (try (have c70b1 : decide (t351 = (!t358)) = false := by simpa using c70))
          (try (have c70b2 : (t351 == (!t358)) = false := by simpa using c70))
          (try (have c70b3 : ¬ (t351 = (!t358)) := by simpa using c70))
          clear c70; exact absurd ((Option.some.inj H).trans hrt_.out) (by decide)
        rw [if_neg c70] at H; have c70b0 : (t351 != (!t358)) = false := by simpa using c70
        (try (have c70b1 : (t351 = (!t358)) = True := eq_true (by have h_ := c70; revert h_; generalize (t351) = a_; generalize (t358) = b_; revert a_ b_; decide)))
        (try (have c70b2 : decide (t351 = (!t358)) = true := decide_eq_true (by have h_ := c70; revert h_; generalize (t351) = a_; generalize (t358) = b_; revert a_ b_; decide)))
        (try (have c70b3 : (t351 == (!t358)) = true := (by have h_ := c70; revert h_; generalize (t351) = a_; generalize (t358) = b_; revert a_ b_; decide)))
        (try (have c70b4 : ¬ (t351 = t358) := (by have h_ := c70; revert h_; generalize (t351) = a_; generalize (t358) = b_; revert a_ b_; decide)))
        (try (have c70b5 : decide (t351 = (!t358)) = true := by simpa using c70))
        (try (have c70b6 : (t351 == (!t358)) = true := by simpa using c70))
        clear c70; by_cases c71 : (wrap64 (x10_1 + (t348.length : Int))) > (t340.length : Int)
        · rw [if_pos c71] at H
          have c71b0 : decide ((t340.length : Int) < (wrap64 (x10_1 + (t348.length : Int)))) = true := decide_eq_true c71
          clear c71; exact absurd ((Option.some.inj H).trans hrt_.out) (by decide)
        rw [if_neg c71] at H; have c71b0 : decide ((t340.length : Int) < (wrap64 (x10_1 + (t348.length : Int)))) = false := decide_eq_false c71
        clear c71; by_cases c72 : 0 ≤ x10_1
        rotate_left
        · rw [if_neg c72] at H
          exact absurd H (by simp)
        rw [if_pos c72] at H; have c72b0 := eq_true c72; have c72b1 : decide (0 ≤ x10_1) = true := decide_eq_true c72
        clear c72; by_cases c73 : x10_1 ≤ (wrap64 (x10_1 + (t348.length : Int)))
        rotate_left
        · rw [if_neg c73] at H
          exact absurd H (by simp)
        rw [if_pos c73] at H; have c73b0 := eq_true c73; have c73b1 : decide (x10_1 ≤ (wrap64 (x10_1 + (t348.length : Int)))) = true := decide_eq_true c73
        by_cases c74 : (wrap64 (x10_1 + (t348.length : Int))) ≤ (t340.length : Int)
        rotate_left
        · rw [if_neg c74] at H
          exact absurd H (by simp)
        rw [if_pos c74] at H; have c74b0 := eq_true c74; have c74b1 : decide ((wrap64 (x10_1 + (t348.length : Int))) ≤ (t340.length : Int)) = true := decide_eq_true c74
        obtain ⟨y360, hy360⟩ : ∃ y_ : List (S54), y_ = ((t340.take ((wrap64 (x10_1 + (t348.length : Int))) : Int).toNat).drop (x10_1 : Int).toNat) := ⟨_, rfl⟩; replace H : ((stanzaref13_SameLines.f kj64 t348 y360).bind fun t364 => (if t364 = true then (if x11_1 = true then (stanzalaw16_LinesParts.l0 kj64 t340 t343 (rd t344 x37_1) (wrap64 (x10_1 + (t348.length : Int))) true t344 (t344.length : Int) (wrap64 (x37_1 + 1)) t326 t329 t332 t333 t334 t335 t336 t337) else (stanzalaw16_LinesParts.l0 kj64 t340 t343 (rd t344 x37_1) (wrap64 (x10_1 + (t348.length : Int))) t351 t344 (t344.length : Int) (wrap64 (x37_1 + 1)) t326 t329 t332 t333 t334 t335 t336 t337)) else (some false))) = some r := by first | (rw [hy360]; with_reducible exact H) | (have H2_ := (Option.bind_some _ _).symm.trans H; rw [hy360]; with_reducible exact H2_) | (have H2_ := (Option.bind_some _ _).symm.trans H; with_reducible exact H2_) | with_reducible exact H | (rw [hy360]; exact H) | exact H
        have Ny360 := zA.mk hy360; clear hy360; replace H := Option.bind_eq_some_iff.mp H; obtain ⟨t364, A750, H⟩ := H; replace H : (if t364 = true then (if x11_1 = true then (stanzalaw16_LinesParts.l0 kj64 t340 t343 (rd t344 x37_1) (wrap64 (x10_1 + (t348.length : Int))) true t344 (t344.length : Int) (wrap64 (x37_1 + 1)) t326 t329 t332 t333 t334 t335 t336 t337) else (stanzalaw16_LinesParts.l0 kj64 t340 t343 (rd t344 x37_1) (wrap64 (x10_1 + (t348.length : Int))) t351 t344 (t344.length : Int) (wrap64 (x37_1 + 1)) t326 t329 t332 t333 t334 t335 t336 t337)) else (some false)) = some r := H; have A75 := zA.mk A750; clear A750; by_cases c76 : t364 = true
        rotate_left
        · replace c76 := Bool.eq_false_iff.mpr c76
          subst c76; have H1 : (some false) = some r := by rw [if_neg (show ¬ (false = true) by decide)] at H; exact H
          clear H; have H := H1; clear H1; exact absurd ((Option.some.inj H).trans hrt_.out) (by decide)
        subst c76; have H1 : (if x11_1 = true then (stanzalaw16_LinesParts.l0 kj64 t340 t343 (rd t344 x37_1) (wrap64 (x10_1 + (t348.length : Int))) true t344 (t344.length : Int) (wrap64 (x37_1 + 1)) t326 t329 t332 t333 t334 t335 t336 t337) else (stanzalaw16_LinesParts.l0 kj64 t340 t343 (rd t344 x37_1) (wrap64 (x10_1 + (t348.length : Int))) t351 t344 (t344.length : Int) (wrap64 (x37_1 + 1)) t326 t329 t332 t333 t334 t335 t336 t337)) = some r := by rw [if_pos rfl] at H; exact H
        clear H; have H := H1; clear H1; by_cases c77 : x11_1 = true
        · subst c77
          have H1 : (stanzalaw16_LinesParts.l0 kj64 t340 t343 (rd t344 x37_1) (wrap64 (x10_1 + (t348.length : Int))) true t344 (t344.length : Int) (wrap64 (x37_1 + 1)) t326 t329 t332 t333 t334 t335 t336 t337) = some r := by rw [if_pos rfl] at H; exact H
          clear H; have H := H1; clear H1; have H' := zA.mk H
          clear H; obtain ⟨Ao78, co78, eo78⟩ := Kd.R_slice HO_14.out; subst eo78; obtain ⟨Ao79, co79, eo79⟩ := Kd.R_slice HO_16.out; subst eo79; go_wp2_with (first | ((with_reducible refine gate_callee (f := 14) rfl ?_); refine goesL_ (some 71) rfl rfl Try.func14 (by kernel_rfl) rfl #[.slice Ao78 t348.length co78, .slice Ao79 x16_64.length co79] rfl (by (try simp only [List.map_toArray, List.map_cons, List.map_nil]); first | done | rfl | (simp only [List.length_drop, List.length_take]; rfl)) ?_; (with_reducible refine (stanzaref13_SameLines.calls kj64 _ _ t348 _ _ x16_64 true _ ?side1 ?side2 ?side3 ?side4 A67.out).mono ?_); (case side1 => repeat (first | exact (Kd.R_reads' HO_14.out).2.2 | (with_reducible refine Kd.C_alloc ?_ _) | (with_reducible refine Kd.C_drewN ?_ _) | (with_reducible refine Kd.C_drew ?_))); (case side2 => exact (Kd.R_reads' HO_14.out).2.1); (case side3 => repeat (first | exact (Kd.R_reads' HO_16.out).2.2 | (with_reducible refine Kd.C_alloc ?_ _) | (with_reducible refine Kd.C_drewN ?_ _) | (with_reducible refine Kd.C_drew ?_))); (case side4 => exact (Kd.R_reads' HO_16.out).2.1); rintro e w' ⟨rfl, ⟨nd, rfl⟩⟩; refine ⟨_, rfl, ?_⟩; have hnb80 := NB339_324.out; have hnc80 := NB324_339.out; have hnb81 := NB339_338.out; have hnc81 := NB338_339.out; have hcz82_0 : wc.cell? ⟨gb339, 0, none⟩ = some (.int .i64 t332) := (zF BK339.out 0).trans rfl; have hcz82_1 : wc.cell? ⟨gb339, 1, none⟩ = some (.int .i64 t333) := (zF BK339.out 1).trans rfl; have hcz82_2 : wc.cell? ⟨gb339, 2, none⟩ = some (.int .u8 t334) := (zF BK339.out 2).trans rfl; have hcz82_3 : wc.cell? ⟨gb339, 3, none⟩ = some (.int .i64 t335) := (zF BK339.out 3).trans rfl; have hcz82_4 : wc.cell? ⟨gb339, 4, none⟩ = some (.int .i64 t336) := (zF BK339.out 4).trans rfl; have hcz82_5 : wc.cell? ⟨gb339, 5, none⟩ = some (.float .f64 t337) := (zF BK339.out 5).trans rfl; have hfz82_0 := zH BK339.out 0; have hfz82_1 := zH BK339.out 1; have hfz82_2 := zH BK339.out 2; have hfz82_3 := zH BK339.out 3; have hfz82_4 := zH BK339.out 4; have hfz82_5 := zH BK339.out 5; obtain ⟨Ao83, co83, eo83⟩ := Kd.R_slice HO_7.out; subst eo83; have q84 : ((wrap64 (x10_1 + (t348.length : Int))) : Int) ≤ ((t340.length : Int) : Int) := of_decide_eq_true (by first | (with_reducible assumption) | assumption); obtain ⟨i084, hi084, _, hsz84, _⟩ := info_parts info54; have hroom84 : t340.length ≤ co83 := (Kd.R_reads' HO_7.out).2.1; have hC84 : Kd.C k54 _ Ao83 t340.length t340 := (Kd.R_reads' HO_7.out).2.2; have ql84 : (x10_1 : Int) ≤ ((wrap64 (x10_1 + (t348.length : Int))) : Int) := of_decide_eq_true (by first | (with_reducible assumption) | assumption); have q084 : (0 : Int) ≤ (x10_1 : Int) := of_decide_eq_true (by first | (with_reducible assumption) | assumption); have hcut84 := cut_mid (P := Try.prog) 37 54 .i64 .i64 Try.underlying37 hi084 4 hsz84 Ao83 t340.length co83 x10_1 (wrap64 (x10_1 + (t348.length : Int))) q084 ql84 q84 hroom84; have hr84 := Kd.C_mid (lo := (x10_1 : Int).toNat) (hi := ((wrap64 (x10_1 + (t348.length : Int))) : Int).toNat) (c := co83) hC84 (by omega) (by omega) hroom84; obtain ⟨A84, hA84⟩ : ∃ A1, A1 = (if co83 = (x10_1 : Int).toNat then Ao83 else (Ao83 : Option Addr).map (·.add ((x10_1 : Int).toNat * 4))) := ⟨_, rfl⟩; obtain ⟨c84, hc84⟩ : ∃ c1, c1 = co83 - (x10_1 : Int).toNat := ⟨_, rfl⟩; have hy84 : y360.length = ((wrap64 (x10_1 + (t348.length : Int))) : Int).toNat - (x10_1 : Int).toNat := (by rw [Ny360.out, List.length_drop, List.length_take] <;> omega); rw [show ((t340).take ((wrap64 (x10_1 + (t348.length : Int))) : Int).toNat).drop (x10_1 : Int).toNat = y360 from Ny360.out.symm] at hr84; replace hr84 : Kd.C k54 _ A84 y360.length y360 := (by rw [hA84]; exact hr84); rw [← hy84, ← hA84, ← hc84] at hcut84; have HR363 := zA.mk hr84; have HC363 := zA.mk (show y360.length ≤ c84 from by rw [hy84, hc84]; exact Nat.sub_le_sub_right (Nat.le_trans (by omega) hroom84) _); clear hr84 hC84 hroom84 hi084 hsz84 hc84; have KY84 := zA.mk hy84; have KA84 := zA.mk hA84; clear hy84 hA84; have KL84 := zA.mk (show ((wrap64 (x10_1 + (t348.length : Int))) : Int).toNat ≤ t340.length from by omega); have KM84 := zA.mk (show (x10_1 : Int).toNat ≤ ((wrap64 (x10_1 + (t348.length : Int))) : Int).toNat from by omega); replace q84 := eq_true q84) | (go_at_call 14; (with_reducible refine (stanzaref13_SameLines.calls kj64 _ _ t348 _ _ y360 true _ ?side1 ?side2 ?side3 ?side4 A75.out).mono ?_); (case side1 => repeat (first | exact (Kd.R_reads' HO_14.out).2.2 | (with_reducible refine Kd.C_alloc ?_ _) | (with_reducible refine Kd.C_drewN ?_ _) | (with_reducible refine Kd.C_drew ?_))); (case side2 => exact (Kd.R_reads' HO_14.out).2.1); (case side3 => repeat (first | exact (by repeat (first | (with_reducible exact HR363.out) | (with_reducible refine Kd.C_alloc ?_ _) | (with_reducible refine Kd.C_drewN ?_ _) | (with_reducible refine Kd.C_drew ?_) | exact HR363.out)) | (with_reducible refine Kd.C_alloc ?_ _) | (with_reducible refine Kd.C_drewN ?_ _) | (with_reducible refine Kd.C_drew ?_))); (case side4 => exact HC363.out); rintro e w' ⟨rfl, ⟨nd, rfl⟩⟩))
          go_roundg kj64
          case measure => have := HK1.out; have := HJ44.out; have := HJ64.out; omega
          case rel => exact ⟨((rd t344 x37_1)), (wrap64 (x10_1 + (t348.length : Int))), (true), (wrap64 (x37_1 + 1)), (by first | rfl | (simp; done) | (simp [*]; done)), (by first | rfl | (simp; done) | (simp [*]; done)), (by first | rfl | (simp; done) | (simp [*]; done)), (by first | rfl | (simp; done) | (simp [*]; done)), H', ⟨by have := HK1.out; have := HJ44.out; have := HJ64.out; omega⟩, ⟨by (with_reducible repeat (first | apply Kd.R_alloc | apply Kd.R_drewN | apply Kd.R_drew)); exact Kd.R_mono HO_7.out (fun _ hk => trivial)⟩, ⟨by (with_reducible repeat (first | apply Kd.R_alloc | apply Kd.R_drewN | apply Kd.R_drew)); exact HO_35.out⟩, ⟨by (with_reducible repeat (first | apply Kd.R_alloc | apply Kd.R_drewN | apply Kd.R_drew)); exact HO_339000.out⟩, ⟨by (with_reducible repeat (first | apply Kd.R_alloc | apply Kd.R_drewN | apply Kd.R_drew)); exact HO_339001.out⟩, ⟨by (with_reducible repeat (first | refine zC ?_ _ | refine zD ?_ | refine zB ?_ _)); exact BK324.out⟩, ⟨by (with_reducible repeat (first | refine zC ?_ _ | refine zD ?_ | refine zB ?_ _)); exact BK338.out⟩, ⟨by (with_reducible repeat (first | refine zC ?_ _ | refine zD ?_ | refine zB ?_ _)); exact BK339.out⟩, ⟨by repeat (first | (with_reducible first | exact HB.out | apply zJ | apply zG | apply zI | refine zE ?_ GE324.out | refine zE ?_ GE338.out | refine zE ?_ GE339.out) | exact HB.out)⟩⟩
        replace c77 := Bool.eq_false_iff.mpr c77; subst c77; have H1 : (stanzalaw16_LinesParts.l0 kj64 t340 t343 (rd t344 x37_1) (wrap64 (x10_1 + (t348.length : Int))) t351 t344 (t344.length : Int) (wrap64 (x37_1 + 1)) t326 t329 t332 t333 t334 t335 t336 t337) = some r := by rw [if_neg (show ¬ (false = true) by decide)] at H; exact H
        clear H; have H := H1; clear H1; have H' := zA.mk H
        clear H; obtain ⟨Ao85, co85, eo85⟩ := Kd.R_slice HO_14.out; subst eo85; obtain ⟨Ao86, co86, eo86⟩ := Kd.R_slice HO_16.out; subst eo86; go_wp2_with (first | ((with_reducible refine gate_callee (f := 14) rfl ?_); refine goesL_ (some 71) rfl rfl Try.func14 (by kernel_rfl) rfl #[.slice Ao85 t348.length co85, .slice Ao86 x16_64.length co86] rfl (by (try simp only [List.map_toArray, List.map_cons, List.map_nil]); first | done | rfl | (simp only [List.length_drop, List.length_take]; rfl)) ?_; (with_reducible refine (stanzaref13_SameLines.calls kj64 _ _ t348 _ _ x16_64 true _ ?side1 ?side2 ?side3 ?side4 A67.out).mono ?_); (case side1 => repeat (first | exact (Kd.R_reads' HO_14.out).2.2 | (with_reducible refine Kd.C_alloc ?_ _) | (with_reducible refine Kd.C_drewN ?_ _) | (with_reducible refine Kd.C_drew ?_))); (case side2 => exact (Kd.R_reads' HO_14.out).2.1); (case side3 => repeat (first | exact (Kd.R_reads' HO_16.out).2.2 | (with_reducible refine Kd.C_alloc ?_ _) | (with_reducible refine Kd.C_drewN ?_ _) | (with_reducible refine Kd.C_drew ?_))); (case side4 => exact (Kd.R_reads' HO_16.out).2.1); rintro e w' ⟨rfl, ⟨nd, rfl⟩⟩; refine ⟨_, rfl, ?_⟩; have hnb87 := NB339_324.out; have hnc87 := NB324_339.out; have hnb88 := NB339_338.out; have hnc88 := NB338_339.out; have hcz89_0 : wc.cell? ⟨gb339, 0, none⟩ = some (.int .i64 t332) := (zF BK339.out 0).trans rfl; have hcz89_1 : wc.cell? ⟨gb339, 1, none⟩ = some (.int .i64 t333) := (zF BK339.out 1).trans rfl; have hcz89_2 : wc.cell? ⟨gb339, 2, none⟩ = some (.int .u8 t334) := (zF BK339.out 2).trans rfl; have hcz89_3 : wc.cell? ⟨gb339, 3, none⟩ = some (.int .i64 t335) := (zF BK339.out 3).trans rfl; have hcz89_4 : wc.cell? ⟨gb339, 4, none⟩ = some (.int .i64 t336) := (zF BK339.out 4).trans rfl; have hcz89_5 : wc.cell? ⟨gb339, 5, none⟩ = some (.float .f64 t337) := (zF BK339.out 5).trans rfl; have hfz89_0 := zH BK339.out 0; have hfz89_1 := zH BK339.out 1; have hfz89_2 := zH BK339.out 2; have hfz89_3 := zH BK339.out 3; have hfz89_4 := zH BK339.out 4; have hfz89_5 := zH BK339.out 5; obtain ⟨Ao90, co90, eo90⟩ := Kd.R_slice HO_7.out; subst eo90; have q91 : ((wrap64 (x10_1 + (t348.length : Int))) : Int) ≤ ((t340.length : Int) : Int) := of_decide_eq_true (by first | (with_reducible assumption) | assumption); obtain ⟨i091, hi091, _, hsz91, _⟩ := info_parts info54; have hroom91 : t340.length ≤ co90 := (Kd.R_reads' HO_7.out).2.1; have hC91 : Kd.C k54 _ Ao90 t340.length t340 := (Kd.R_reads' HO_7.out).2.2; have ql91 : (x10_1 : Int) ≤ ((wrap64 (x10_1 + (t348.length : Int))) : Int) := of_decide_eq_true (by first | (with_reducible assumption) | assumption); have q091 : (0 : Int) ≤ (x10_1 : Int) := of_decide_eq_true (by first | (with_reducible assumption) | assumption); have hcut91 := cut_mid (P := Try.prog) 37 54 .i64 .i64 Try.underlying37 hi091 4 hsz91 Ao90 t340.length co90 x10_1 (wrap64 (x10_1 + (t348.length : Int))) q091 ql91 q91 hroom91; have hr91 := Kd.C_mid (lo := (x10_1 : Int).toNat) (hi := ((wrap64 (x10_1 + (t348.length : Int))) : Int).toNat) (c := co90) hC91 (by omega) (by omega) hroom91; obtain ⟨A91, hA91⟩ : ∃ A1, A1 = (if co90 = (x10_1 : Int).toNat then Ao90 else (Ao90 : Option Addr).map (·.add ((x10_1 : Int).toNat * 4))) := ⟨_, rfl⟩; obtain ⟨c91, hc91⟩ : ∃ c1, c1 = co90 - (x10_1 : Int).toNat := ⟨_, rfl⟩; have hy91 : y360.length = ((wrap64 (x10_1 + (t348.length : Int))) : Int).toNat - (x10_1 : Int).toNat := (by rw [Ny360.out, List.length_drop, List.length_take] <;> omega); rw [show ((t340).take ((wrap64 (x10_1 + (t348.length : Int))) : Int).toNat).drop (x10_1 : Int).toNat = y360 from Ny360.out.symm] at hr91; replace hr91 : Kd.C k54 _ A91 y360.length y360 := (by rw [hA91]; exact hr91); rw [← hy91, ← hA91, ← hc91] at hcut91; have HR363 := zA.mk hr91; have HC363 := zA.mk (show y360.length ≤ c91 from by rw [hy91, hc91]; exact Nat.sub_le_sub_right (Nat.le_trans (by omega) hroom91) _); clear hr91 hC91 hroom91 hi091 hsz91 hc91; have KY91 := zA.mk hy91; have KA91 := zA.mk hA91; clear hy91 hA91; have KL91 := zA.mk (show ((wrap64 (x10_1 + (t348.length : Int))) : Int).toNat ≤ t340.length from by omega); have KM91 := zA.mk (show (x10_1 : Int).toNat ≤ ((wrap64 (x10_1 + (t348.length : Int))) : Int).toNat from by omega); replace q91 := eq_true q91) | (go_at_call 14; (with_reducible refine (stanzaref13_SameLines.calls kj64 _ _ t348 _ _ y360 true _ ?side1 ?side2 ?side3 ?side4 A75.out).mono ?_); (case side1 => repeat (first | exact (Kd.R_reads' HO_14.out).2.2 | (with_reducible refine Kd.C_alloc ?_ _) | (with_reducible refine Kd.C_drewN ?_ _) | (with_reducible refine Kd.C_drew ?_))); (case side2 => exact (Kd.R_reads' HO_14.out).2.1); (case side3 => repeat (first | exact (by repeat (first | (with_reducible exact HR363.out) | (with_reducible refine Kd.C_alloc ?_ _) | (with_reducible refine Kd.C_drewN ?_ _) | (with_reducible refine Kd.C_drew ?_) | exact HR363.out)) | (with_reducible refine Kd.C_alloc ?_ _) | (with_reducible refine Kd.C_drewN ?_ _) | (with_reducible refine Kd.C_drew ?_))); (case side4 => exact HC363.out); rintro e w' ⟨rfl, ⟨nd, rfl⟩⟩))
        go_roundg kj64
        case measure => have := HK1.out; have := HJ44.out; have := HJ64.out; omega
        case rel => exact ⟨((rd t344 x37_1)), (wrap64 (x10_1 + (t348.length : Int))), (t351), (wrap64 (x37_1 + 1)), (by first | rfl | (simp; done) | (simp [*]; done)), (by first | rfl | (simp; done) | (simp [*]; done)), (by first | rfl | (simp; done) | (simp [*]; done)), (by first | rfl | (simp; done) | (simp [*]; done)), H', ⟨by have := HK1.out; have := HJ44.out; have := HJ64.out; omega⟩, ⟨by (with_reducible repeat (first | apply Kd.R_alloc | apply Kd.R_drewN | apply Kd.R_drew)); exact Kd.R_mono HO_7.out (fun _ hk => trivial)⟩, ⟨by (with_reducible repeat (first | apply Kd.R_alloc | apply Kd.R_drewN | apply Kd.R_drew)); exact HO_35.out⟩, ⟨by (with_reducible repeat (first | apply Kd.R_alloc | apply Kd.R_drewN | apply Kd.R_drew)); exact HO_339000.out⟩, ⟨by (with_reducible repeat (first | apply Kd.R_alloc | apply Kd.R_drewN | apply Kd.R_drew)); exact HO_339001.out⟩, ⟨by (with_reducible repeat (first | refine zC ?_ _ | refine zD ?_ | refine zB ?_ _)); exact BK324.out⟩, ⟨by (with_reducible repeat (first | refine zC ?_ _ | refine zD ?_ | refine zB ?_ _)); exact BK338.out⟩, ⟨by (with_reducible repeat (first | refine zC ?_ _ | refine zD ?_ | refine zB ?_ _)); exact BK339.out⟩, ⟨by repeat (first | (with_reducible first | exact HB.out | apply zJ | apply zG | apply zI | refine zE ?_ GE324.out | refine zE ?_ GE338.out | refine zE ?_ GE339.out) | exact HB.out)⟩⟩
def stanzalaw16_LinesParts.Pure : Prop := ∀ (l0 : List (S63)) (a1_0 : Int) (a1_1 : Int) (a1_2 : Int) (a1_3 : Int) (a1_4 : Int) (a1_5 : Nat), (l0.length * 4 ≤ 140737488351232 ∧ ∀ y0 ∈ l0, ((Lit.int .u8 y0.f0).wf = true ∧ ((Lit.int .u8 y0.f1).wf = true ∧ ((Lit.int .u8 y0.f2).wf = true ∧ (Lit.int .u8 y0.f3).wf = true)))) → ((Lit.int .u8 a1_0).wf = true ∧ ((Lit.int .u8 a1_1).wf = true ∧ ((Lit.int .u8 a1_2).wf = true ∧ ((Lit.int .u16 a1_3).wf = true ∧ ((Lit.int .u16 a1_4).wf = true ∧ (Lit.float .f64 a1_5).wf = true))))) → ∃ k, stanzalaw16_LinesParts.f k l0 a1_0 a1_1 a1_2 a1_3 a1_4 a1_5 = some true
end Go.Proofs.Ytcnblneghbgjgaa.F
end
