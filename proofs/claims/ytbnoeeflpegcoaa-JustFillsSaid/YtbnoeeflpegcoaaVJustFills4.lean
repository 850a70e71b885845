/- Printed by a program: Lean functions that answer as the Go functions do, and the proofs of it. -/
import Derived.Test.YtbnoeeflpegcoaaVJustFills0
import Derived.Test.YtbnoeeflpegcoaaVJustFills2
import Derived.Test.YtbnoeeflpegcoaaVJustFills3
section
namespace Go.Proofs.Ytbnoeeflpegcoaa.F
open Go.RowKit Go.Proofs.YtbnoeeflpegcoaaW.PrintWords Go.Proofs.YtbnoeeflpegcoaaW.PrintLast Go.Proofs.YtbnoeeflpegcoaaW.PrintMore
attribute [local go_sem] max2_int min2_int max_two min_two max_three min_three max_four min_four   -- for this text's walks alone
set_option linter.unusedVariables false
set_option linter.unusedSimpArgs false
mutual
def stanzalaw18_JustFills.l0 : Nat → List (S63) → Int → Int → List (S41) → List Int → Int → Int → Int → Int → Int → Nat → Option (Bool)
  | 0, _, _, _, _, _, _, _, _, _, _, _ => none
  | k + 1, x26, x27, x28, x592000, x592001, x593000, x593001, x593002, x593003, x593004, x593005 => if x28 < x27 then (if 0 ≤ x28 then (if x28 < (x26.length : Int) then ((just_Line.f k x592000 x592001 ((rd_T63 x26 x28).f0) ((rd_T63 x26 x28).f1) ((rd_T63 x26 x28).f2) ((rd_T63 x26 x28).f3) x593000 x593001 x593002 x593003 x593004 x593005).bind fun t595 => (stanzalaw18_JustFills.l1 k 0 0 x26 x27 x28 t595 (t595.length : Int) 0 x592000 x592001 x593000 x593001 x593002 x593003 x593004 x593005 ((rd_T63 x26 x28).f0) ((rd_T63 x26 x28).f1) ((rd_T63 x26 x28).f2) ((rd_T63 x26 x28).f3))) else (none)) else (none)) else (some true)
def stanzalaw18_JustFills.l1 : Nat → Int → Int → List (S63) → Int → Int → List Int → Int → Int → List (S41) → List Int → Int → Int → Int → Int → Int → Nat → Int → Int → Int → Int → Option (Bool)
  | 0, _, _, _, _, _, _, _, _, _, _, _, _, _, _, _, _, _, _, _, _ => none
  | k + 1, x11, x12, x26, x27, x28, x36, x37, x38, x592000, x592001, x593000, x593001, x593002, x593003, x593004, x593005, x595000, x595001, x595002, x595003 => if x38 < x37 then (if 0 ≤ x38 then (if x38 < (x36.length : Int) then (if 0 ≤ (wrap64 (x595000 + x38)) then (if (wrap64 (x595000 + x38)) < (x592000.length : Int) then (if ((rd_T41 x592000 (wrap64 (x595000 + x38))).f3) = 1 then (if (rd x36 x38) < ((rd_T41 x592000 (wrap64 (x595000 + x38))).f2) then (some false) else (stanzalaw18_JustFills.l1 k (wrap64 (x11 + (rd x36 x38))) (wrap64 (x12 + 1)) x26 x27 x28 x36 x37 (wrap64 (x38 + 1)) x592000 x592001 x593000 x593001 x593002 x593003 x593004 x593005 x595000 x595001 x595002 x595003)) else (if ((rd_T41 x592000 (wrap64 (x595000 + x38))).f3) = 0 then (if (rd x36 x38) = ((rd_T41 x592000 (wrap64 (x595000 + x38))).f2) then (stanzalaw18_JustFills.l1 k (wrap64 (x11 + (rd x36 x38))) x12 x26 x27 x28 x36 x37 (wrap64 (x38 + 1)) x592000 x592001 x593000 x593001 x593002 x593003 x593004 x593005 x595000 x595001 x595002 x595003) else (some false)) else (stanzalaw18_JustFills.l1 k (wrap64 (x11 + (rd x36 x38))) x12 x26 x27 x28 x36 x37 (wrap64 (x38 + 1)) x592000 x592001 x593000 x593001 x593002 x593003 x593004 x593005 x595000 x595001 x595002 x595003))) else (none)) else (none)) else (none)) else (none)) else (if x595003 = 3 then (stanzalaw18_JustFills.j2 k (wrap64 (x11 + 1)) x12 x26 x27 x28 x592000 x592001 x593000 x593001 x593002 x593003 x593004 x593005 x595000 x595001 x595002 x595003) else (stanzalaw18_JustFills.j2 k x11 x12 x26 x27 x28 x592000 x592001 x593000 x593001 x593002 x593003 x593004 x593005 x595000 x595001 x595002 x595003))
def stanzalaw18_JustFills.j2 : Nat → Int → Int → List (S63) → Int → Int → List (S41) → List Int → Int → Int → Int → Int → Int → Nat → Int → Int → Int → Int → Option (Bool)
  | 0, _, _, _, _, _, _, _, _, _, _, _, _, _, _, _, _, _ => none
  | k + 1, x11, x12, x26, x27, x28, x592000, x592001, x593000, x593001, x593002, x593003, x593004, x593005, x595000, x595001, x595002, x595003 => if x595003 = 2 then (stanzalaw18_JustFills.j3 k x11 x595002 x26 x27 x28 false x592000 x592001 x593000 x593001 x593002 x593003 x593004 x593005) else (if x595003 = 4 then (stanzalaw18_JustFills.j3 k x11 x595002 x26 x27 x28 false x592000 x592001 x593000 x593001 x593002 x593003 x593004 x593005) else (if x12 > 0 then (stanzalaw18_JustFills.j3 k x11 x595002 x26 x27 x28 (decide (x595002 ≤ x593000)) x592000 x592001 x593000 x593001 x593002 x593003 x593004 x593005) else (stanzalaw18_JustFills.j3 k x11 x595002 x26 x27 x28 false x592000 x592001 x593000 x593001 x593002 x593003 x593004 x593005)))
def stanzalaw18_JustFills.j3 : Nat → Int → Int → List (S63) → Int → Int → Bool → List (S41) → List Int → Int → Int → Int → Int → Int → Nat → Option (Bool)
  | 0, _, _, _, _, _, _, _, _, _, _, _, _, _, _ => none
  | k + 1, x11, x16, x26, x27, x28, x98, x592000, x592001, x593000, x593001, x593002, x593003, x593004, x593005 => if x98 = true then (if x11 = x593000 then (stanzalaw18_JustFills.l0 k x26 x27 (wrap64 (x28 + 1)) x592000 x592001 x593000 x593001 x593002 x593003 x593004 x593005) else (some false)) else (if x11 = x16 then (stanzalaw18_JustFills.l0 k x26 x27 (wrap64 (x28 + 1)) x592000 x592001 x593000 x593001 x593002 x593003 x593004 x593005) else (some false))
end
def stanzalaw18_JustFills.f (k : Nat) (l0 : List (S50)) (a1_0 : Int) (a1_1 : Int) (a1_2 : Int) (a1_3 : Int) (a1_4 : Int) (a1_5 : Nat) : Option (Bool) := (stanzalaw18_Awake.f k).bind fun t575 => (if t575 = true then ((stanzalaw18_lined.f k l0 a1_0 a1_1 a1_2 a1_3 a1_4 a1_5).bind fun bt576 => (stanzalaw18_JustFills.l0 k bt576.2.2.1 (bt576.2.2.1.length : Int) 0 bt576.1 bt576.2.1 bt576.2.2.2.1 bt576.2.2.2.2.1 bt576.2.2.2.2.2.1 bt576.2.2.2.2.2.2.1 bt576.2.2.2.2.2.2.2.1 bt576.2.2.2.2.2.2.2.2)) else (some false))
theorem stanzalaw18_JustFills.mono_l : ∀ k, (∀ y0 y1 y2 y3 y4 y5 y6 y7 y8 y9 y10, LeO (stanzalaw18_JustFills.l0 k y0 y1 y2 y3 y4 y5 y6 y7 y8 y9 y10) (stanzalaw18_JustFills.l0 (k + 1) y0 y1 y2 y3 y4 y5 y6 y7 y8 y9 y10)) ∧ (∀ y0 y1 y2 y3 y4 y5 y6 y7 y8 y9 y10 y11 y12 y13 y14 y15 y16 y17 y18 y19, LeO (stanzalaw18_JustFills.l1 k y0 y1 y2 y3 y4 y5 y6 y7 y8 y9 y10 y11 y12 y13 y14 y15 y16 y17 y18 y19) (stanzalaw18_JustFills.l1 (k + 1) y0 y1 y2 y3 y4 y5 y6 y7 y8 y9 y10 y11 y12 y13 y14 y15 y16 y17 y18 y19)) ∧ (∀ y0 y1 y2 y3 y4 y5 y6 y7 y8 y9 y10 y11 y12 y13 y14 y15 y16, LeO (stanzalaw18_JustFills.j2 k y0 y1 y2 y3 y4 y5 y6 y7 y8 y9 y10 y11 y12 y13 y14 y15 y16) (stanzalaw18_JustFills.j2 (k + 1) y0 y1 y2 y3 y4 y5 y6 y7 y8 y9 y10 y11 y12 y13 y14 y15 y16)) ∧ (∀ y0 y1 y2 y3 y4 y5 y6 y7 y8 y9 y10 y11 y12 y13, LeO (stanzalaw18_JustFills.j3 k y0 y1 y2 y3 y4 y5 y6 y7 y8 y9 y10 y11 y12 y13) (stanzalaw18_JustFills.j3 (k + 1) y0 y1 y2 y3 y4 y5 y6 y7 y8 y9 y10 y11 y12 y13))
  | 0 => ⟨fun _ _ _ _ _ _ _ _ _ _ _ r h => by simp [stanzalaw18_JustFills.l0] at h, fun _ _ _ _ _ _ _ _ _ _ _ _ _ _ _ _ _ _ _ _ r h => by simp [stanzalaw18_JustFills.l1] at h, fun _ _ _ _ _ _ _ _ _ _ _ _ _ _ _ _ _ r h => by simp [stanzalaw18_JustFills.j2] at h, fun _ _ _ _ _ _ _ _ _ _ _ _ _ _ r h => by simp [stanzalaw18_JustFills.j3] at h⟩
  | k + 1 => by
    obtain ⟨ih0, ih1, ih2, ih3⟩ := stanzalaw18_JustFills.mono_l k; refine ⟨?_, ?_, ?_, ?_⟩
    · intro y0 y1 y2 y3 y4 y5 y6 y7 y8 y9 y10
      unfold stanzalaw18_JustFills.l0
      repeat' first
      | (with_reducible exact ih0 _ _ _ _ _ _ _ _ _ _ _)
      | (with_reducible exact ih1 _ _ _ _ _ _ _ _ _ _ _ _ _ _ _ _ _ _ _ _)
      | (with_reducible exact ih2 _ _ _ _ _ _ _ _ _ _ _ _ _ _ _ _ _)
      | (with_reducible exact ih3 _ _ _ _ _ _ _ _ _ _ _ _ _ _)
      | (with_reducible exact just_Line.mono _ _ _ _ _ _ _ _ _ _ _ _ _)
      | (with_reducible exact stanzalaw18_Awake.mono _)
      | (with_reducible exact stanzalaw18_lined.mono _ _ _ _ _ _ _ _)
      | (with_reducible exact LeO.refl _)
      | (with_reducible exact LeO.none _)
      | (with_reducible refine LeO.ite ?_ ?_)
      | (with_reducible refine LeO.bind ?_ (fun _ => ?_))
      | exact ih0 _ _ _ _ _ _ _ _ _ _ _
      | exact ih1 _ _ _ _ _ _ _ _ _ _ _ _ _ _ _ _ _ _ _ _
      | exact ih2 _ _ _ _ _ _ _ _ _ _ _ _ _ _ _ _ _
      | exact ih3 _ _ _ _ _ _ _ _ _ _ _ _ _ _
      | exact just_Line.mono _ _ _ _ _ _ _ _ _ _ _ _ _
      | exact stanzalaw18_Awake.mono _
      | exact stanzalaw18_lined.mono _ _ _ _ _ _ _ _
      | exact LeO.none _
      | refine LeO.ite ?_ ?_
      | refine LeO.bind ?_ (fun _ => ?_)
    · intro y0 y1 y2 y3 y4 y5 y6 y7 y8 y9 y10 y11 y12 y13 y14 y15 y16 y17 y18 y19
      unfold stanzalaw18_JustFills.l1
      repeat' first
      | (with_reducible exact ih0 _ _ _ _ _ _ _ _ _ _ _)
      | (with_reducible exact ih1 _ _ _ _ _ _ _ _ _ _ _ _ _ _ _ _ _ _ _ _)
      | (with_reducible exact ih2 _ _ _ _ _ _ _ _ _ _ _ _ _ _ _ _ _)
      | (with_reducible exact ih3 _ _ _ _ _ _ _ _ _ _ _ _ _ _)
      | (with_reducible exact just_Line.mono _ _ _ _ _ _ _ _ _ _ _ _ _)
      | (with_reducible exact stanzalaw18_Awake.mono _)
      | (with_reducible exact stanzalaw18_lined.mono _ _ _ _ _ _ _ _)
      | (with_reducible exact LeO.refl _)
      | (with_reducible exact LeO.none _)
      | (with_reducible refine LeO.ite ?_ ?_)
      | (with_reducible refine LeO.bind ?_ (fun _ => ?_))
      | exact ih0 _ _ _ _ _ _ _ _ _ _ _
      | exact ih1 _ _ _ _ _ _ _ _ _ _ _ _ _ _ _ _ _ _ _ _
      | exact ih2 _ _ _ _ _ _ _ _ _ _ _ _ _ _ _ _ _
      | exact ih3 _ _ _ _ _ _ _ _ _ _ _ _ _ _
      | exact just_Line.mono _ _ _ _ _ _ _ _ _ _ _ _ _
      | exact stanzalaw18_Awake.mono _
      | exact stanzalaw18_lined.mono _ _ _ _ _ _ _ _
      | exact LeO.none _
      | refine LeO.ite ?_ ?_
      | refine LeO.bind ?_ (fun _ => ?_)
    · intro y0 y1 y2 y3 y4 y5 y6 y7 y8 y9 y10 y11 y12 y13 y14 y15 y16
      unfold stanzalaw18_JustFills.j2
      repeat' first
      | (with_reducible exact ih0 _ _ _ _ _ _ _ _ _ _ _)
      | (with_reducible exact ih1 _ _ _ _ _ _ _ _ _ _ _ _ _ _ _ _ _ _ _ _)
      | (with_reducible exact ih2 _ _ _ _ _ _ _ _ _ _ _ _ _ _ _ _ _)
      | (with_reducible exact ih3 _ _ _ _ _ _ _ _ _ _ _ _ _ _)
      | (with_reducible exact just_Line.mono _ _ _ _ _ _ _ _ _ _ _ _ _)
      | (with_reducible exact stanzalaw18_Awake.mono _)
      | (with_reducible exact stanzalaw18_lined.mono _ _ _ _ _ _ _ _)
      | (with_reducible exact LeO.refl _)
      | (with_reducible exact LeO.none _)
      | (with_reducible refine LeO.ite ?_ ?_)
      | (with_reducible refine LeO.bind ?_ (fun _ => ?_))
      | exact ih0 _ _ _ _ _ _ _ _ _ _ _
      | exact ih1 _ _ _ _ _ _ _ _ _ _ _ _ _ _ _ _ _ _ _ _
      | exact ih2 _ _ _ _ _ _ _ _ _ _ _ _ _ _ _ _ _
      | exact ih3 _ _ _ _ _ _ _ _ _ _ _ _ _ _
      | exact just_Line.mono _ _ _ _ _ _ _ _ _ _ _ _ _
      | exact stanzalaw18_Awake.mono _
      | exact stanzalaw18_lined.mono _ _ _ _ _ _ _ _
      | exact LeO.none _
      | refine LeO.ite ?_ ?_
      | refine LeO.bind ?_ (fun _ => ?_)
    · intro y0 y1 y2 y3 y4 y5 y6 y7 y8 y9 y10 y11 y12 y13
      unfold stanzalaw18_JustFills.j3
      repeat' first
      | (with_reducible exact ih0 _ _ _ _ _ _ _ _ _ _ _)
      | (with_reducible exact ih1 _ _ _ _ _ _ _ _ _ _ _ _ _ _ _ _ _ _ _ _)
      | (with_reducible exact ih2 _ _ _ _ _ _ _ _ _ _ _ _ _ _ _ _ _)
      | (with_reducible exact ih3 _ _ _ _ _ _ _ _ _ _ _ _ _ _)
      | (with_reducible exact just_Line.mono _ _ _ _ _ _ _ _ _ _ _ _ _)
      | (with_reducible exact stanzalaw18_Awake.mono _)
      | (with_reducible exact stanzalaw18_lined.mono _ _ _ _ _ _ _ _)
      | (with_reducible exact LeO.refl _)
      | (with_reducible exact LeO.none _)
      | (with_reducible refine LeO.ite ?_ ?_)
      | (with_reducible refine LeO.bind ?_ (fun _ => ?_))
      | exact ih0 _ _ _ _ _ _ _ _ _ _ _
      | exact ih1 _ _ _ _ _ _ _ _ _ _ _ _ _ _ _ _ _ _ _ _
      | exact ih2 _ _ _ _ _ _ _ _ _ _ _ _ _ _ _ _ _
      | exact ih3 _ _ _ _ _ _ _ _ _ _ _ _ _ _
      | exact just_Line.mono _ _ _ _ _ _ _ _ _ _ _ _ _
      | exact stanzalaw18_Awake.mono _
      | exact stanzalaw18_lined.mono _ _ _ _ _ _ _ _
      | exact LeO.none _
      | refine LeO.ite ?_ ?_
      | refine LeO.bind ?_ (fun _ => ?_)
theorem stanzalaw18_JustFills.mono : ∀ a0 a1 a2 a3 a4 a5 a6 k, LeO (stanzalaw18_JustFills.f k a0 a1 a2 a3 a4 a5 a6) (stanzalaw18_JustFills.f (k + 1) a0 a1 a2 a3 a4 a5 a6) := by
  intro a0 a1 a2 a3 a4 a5 a6 k
  obtain ⟨ih0, ih1, ih2, ih3⟩ := stanzalaw18_JustFills.mono_l k; unfold stanzalaw18_JustFills.f
  repeat' first
      | (with_reducible exact ih0 _ _ _ _ _ _ _ _ _ _ _)
      | (with_reducible exact ih1 _ _ _ _ _ _ _ _ _ _ _ _ _ _ _ _ _ _ _ _)
      | (with_reducible exact ih2 _ _ _ _ _ _ _ _ _ _ _ _ _ _ _ _ _)
      | (with_reducible exact ih3 _ _ _ _ _ _ _ _ _ _ _ _ _ _)
      | (with_reducible exact just_Line.mono _ _ _ _ _ _ _ _ _ _ _ _ _)
      | (with_reducible exact stanzalaw18_Awake.mono _)
      | (with_reducible exact stanzalaw18_lined.mono _ _ _ _ _ _ _ _)
      | (with_reducible exact LeO.refl _)
      | (with_reducible exact LeO.none _)
      | (with_reducible refine LeO.ite ?_ ?_)
      | (with_reducible refine LeO.bind ?_ (fun _ => ?_))
      | exact ih0 _ _ _ _ _ _ _ _ _ _ _
      | exact ih1 _ _ _ _ _ _ _ _ _ _ _ _ _ _ _ _ _ _ _ _
      | exact ih2 _ _ _ _ _ _ _ _ _ _ _ _ _ _ _ _ _
      | exact ih3 _ _ _ _ _ _ _ _ _ _ _ _ _ _
      | exact just_Line.mono _ _ _ _ _ _ _ _ _ _ _ _ _
      | exact stanzalaw18_Awake.mono _
      | exact stanzalaw18_lined.mono _ _ _ _ _ _ _ _
      | exact LeO.none _
      | refine LeO.ite ?_ ?_
      | refine LeO.bind ?_ (fun _ => ?_)
set_option maxHeartbeats 8000000 in
set_option maxRecDepth 100000 in
theorem stanzalaw18_JustFills.calls (k : Nat) (A0 : Option Addr) (c0 : Nat) (l0 : List (S50)) (a1_0 : Int) (a1_1 : Int) (a1_2 : Int) (a1_3 : Int) (a1_4 : Int) (a1_5 : Nat) (r : Bool) (w : World) (hr0 : Kd.C k50 w A0 l0.length l0) (hc0 : l0.length ≤ c0) (h : stanzalaw18_JustFills.f k l0 a1_0 a1_1 a1_2 a1_3 a1_4 a1_5 = some r) (hrt_ : zA (r = true)) :
    Calls Try.prog 13 #[.slice A0 l0.length c0, .agg #[.int .u8 a1_0, .int .u8 a1_1, .int .u8 a1_2, .int .u16 a1_3, .int .u16 a1_4, .float .f64 a1_5]] w fun e w' => e = .returned (.bool r) ∧ Below w.heap.size w w' := by
  have hu67 := Try.underlying67; have hu35 := Try.underlying35; have hu58 := Try.underlying58; have hu63 := Try.underlying63; have hu41 := Try.underlying41; have HR0 := zA.mk hr0; have HC0 := zA.mk hc0; clear hr0 hc0; have HB := zA.mk (Below.refl w.heap.size w); have H : ((stanzalaw18_Awake.f k).bind fun t575 => (if t575 = true then ((stanzalaw18_lined.f k l0 a1_0 a1_1 a1_2 a1_3 a1_4 a1_5).bind fun bt576 => (stanzalaw18_JustFills.l0 k bt576.2.2.1 (bt576.2.2.1.length : Int) 0 bt576.1 bt576.2.1 bt576.2.2.2.1 bt576.2.2.2.2.1 bt576.2.2.2.2.2.1 bt576.2.2.2.2.2.2.1 bt576.2.2.2.2.2.2.2.1 bt576.2.2.2.2.2.2.2.2)) else (some false))) = some r := h
  clear h; replace H := Option.bind_eq_some_iff.mp H; obtain ⟨t575, A30, H⟩ := H; replace H : (if t575 = true then ((stanzalaw18_lined.f k l0 a1_0 a1_1 a1_2 a1_3 a1_4 a1_5).bind fun bt576 => (stanzalaw18_JustFills.l0 k bt576.2.2.1 (bt576.2.2.1.length : Int) 0 bt576.1 bt576.2.1 bt576.2.2.2.1 bt576.2.2.2.2.1 bt576.2.2.2.2.2.1 bt576.2.2.2.2.2.2.1 bt576.2.2.2.2.2.2.2.1 bt576.2.2.2.2.2.2.2.2)) else (some false)) = some r := H
  have A3 := zA.mk A30; clear A30; by_cases c4 : t575 = true
  · subst c4
    have H1 : ((stanzalaw18_lined.f k l0 a1_0 a1_1 a1_2 a1_3 a1_4 a1_5).bind fun bt576 => (stanzalaw18_JustFills.l0 k bt576.2.2.1 (bt576.2.2.1.length : Int) 0 bt576.1 bt576.2.1 bt576.2.2.2.1 bt576.2.2.2.2.1 bt576.2.2.2.2.2.1 bt576.2.2.2.2.2.2.1 bt576.2.2.2.2.2.2.2.1 bt576.2.2.2.2.2.2.2.2)) = some r := by rw [if_pos rfl] at H; exact H
    clear H; have H := H1; clear H1; replace H := Option.bind_eq_some_iff.mp H; obtain ⟨⟨t576, t579, t582, t585, t586, t587, t588, t589, t590⟩, A50, H⟩ := H; replace H : (stanzalaw18_JustFills.l0 k t582 (t582.length : Int) 0 t576 t579 t585 t586 t587 t588 t589 t590) = some r := H; have A5 := zA.mk A50; clear A50; have H' := zA.mk H
    clear H; go_enter Try.func13, Try.ntmps13
    go_wp2_with (first | ((with_reducible refine gate_dst (N := 3) rfl ?_); refine box_event ?hg (N := 3) ?hd (cs := #[.int .u8 a1_0, .int .u8 a1_1, .int .u8 a1_2, .int .u16 a1_3, .int .u16 a1_4, .float .f64 a1_5]) (t := 67) ?hr ?_; (case hd => rfl); (case hg => rfl); (case hr => first | (go_simp; done) | (go_simp; rfl)); intro gb574 hg w6 hbox hb; have n0_ := zA.mk (zO (by repeat (first | (with_reducible first | exact HB.out | apply zI | apply zF | apply zH) | exact HB.out)) hb); have n1_ := zA.mk (hbox); have n2_ := zA.mk ((by rw [hg]; exact (zK (by repeat (first | (with_reducible first | exact HB.out | apply zI | apply zF | apply zH) | exact HB.out))) : w.heap.size ≤ gb574)); have n3_ := zA.mk ((by rw [hg]; exact (zK (by repeat (first | (with_reducible first | exact HB.out | apply zI | apply zF | apply zH) | exact HB.out))) : w.heap.size ≤ gb574)); clear HB; have HB := n0_; have BK574 := n1_; have GW574 := n2_; have GE574 := n3_; clear n0_ n1_ n2_ n3_; clear hb hbox hg) | ((with_reducible refine gate_callee (f := 14) rfl ?_); refine goesL_ (some 17) rfl rfl Try.func14 (by kernel_rfl) rfl #[] rfl (by (try simp only [List.map_toArray, List.map_cons, List.map_nil]); first | done | rfl | (simp only [List.length_drop, List.length_take]; rfl)) ?_; (with_reducible refine (stanzalaw18_Awake.calls k  true _ A3.out (by first | exact ⟨rfl⟩ | exact hrt_)).mono ?_); rintro e w7 ⟨rfl, hb⟩; refine ⟨_, rfl, ?_⟩; have n0_ := zA.mk (zL (g := gb574) (o := .cells #[.int .u8 a1_0, .int .u8 a1_1, .int .u8 a1_2, .int .u16 a1_3, .int .u16 a1_4, .float .f64 a1_5] 67 (0, 0)) (by (with_reducible repeat (first | refine zC ?_ _ | refine zD ?_ | refine zB ?_ _)); exact BK574.out) hb); have n1_ := zA.mk (zO (by repeat (first | (with_reducible first | exact HB.out | apply zI | apply zF | apply zH | refine zE ?_ GE574.out) | exact HB.out)) hb); clear BK574; clear HB; have BK574 := n0_; have HB := n1_; clear n0_ n1_; (try clear hb); (try clear hb2); (try clear hk); (try clear hi); have hcz8_0 : w7.cell? ⟨gb574, 0, none⟩ = some (.int .u8 a1_0) := (zG BK574.out 0).trans rfl; have hcz8_1 : w7.cell? ⟨gb574, 1, none⟩ = some (.int .u8 a1_1) := (zG BK574.out 1).trans rfl; have hcz8_2 : w7.cell? ⟨gb574, 2, none⟩ = some (.int .u8 a1_2) := (zG BK574.out 2).trans rfl; have hcz8_3 : w7.cell? ⟨gb574, 3, none⟩ = some (.int .u16 a1_3) := (zG BK574.out 3).trans rfl; have hcz8_4 : w7.cell? ⟨gb574, 4, none⟩ = some (.int .u16 a1_4) := (zG BK574.out 4).trans rfl; have hcz8_5 : w7.cell? ⟨gb574, 5, none⟩ = some (.float .f64 a1_5) := (zG BK574.out 5).trans rfl; have hfz8_0 := zJ BK574.out 0; have hfz8_1 := zJ BK574.out 1; have hfz8_2 := zJ BK574.out 2; have hfz8_3 := zJ BK574.out 3; have hfz8_4 := zJ BK574.out 4; have hfz8_5 := zJ BK574.out 5) | ((with_reducible refine gate_callee (f := 36) rfl ?_); refine goesL_ (some 22) rfl rfl Try.func36 (by kernel_rfl) rfl #[.slice A0 l0.length c0, .agg #[.int .u8 a1_0, .int .u8 a1_1, .int .u8 a1_2, .int .u16 a1_3, .int .u16 a1_4, .float .f64 a1_5]] rfl (by (try simp only [List.map_toArray, List.map_cons, List.map_nil]); first | done | rfl | (simp only [List.length_drop, List.length_take]; rfl)) ?_; (with_reducible refine (stanzalaw18_lined.calls k _ _ l0 a1_0 a1_1 a1_2 a1_3 a1_4 a1_5 t576 t579 t582 t585 t586 t587 t588 t589 t590 _ ?side1 ?side2 A5.out).mono ?_); (case side1 => repeat (first | exact (Kd.C_below HR0.out HB.out) | (with_reducible refine Kd.C_alloc ?_ _) | (with_reducible refine Kd.C_drewN ?_ _) | (with_reducible refine Kd.C_drew ?_))); (case side2 => exact HC0.out); rintro e w9 ⟨v577, v580, v583, rfl, ho0, ho1, ho2, hb⟩; refine ⟨_, rfl, ?_⟩; have n0_ := zA.mk (Kd.R_lower ho0 (zK (by repeat (first | (with_reducible first | exact HB.out | apply zI | apply zF | apply zH | refine zE ?_ GE574.out) | exact HB.out)))); have n1_ := zA.mk (Kd.R_lower ho1 (zK (by repeat (first | (with_reducible first | exact HB.out | apply zI | apply zF | apply zH | refine zE ?_ GE574.out) | exact HB.out)))); have n2_ := zA.mk (Kd.R_lower ho2 (zK (by repeat (first | (with_reducible first | exact HB.out | apply zI | apply zF | apply zH | refine zE ?_ GE574.out) | exact HB.out)))); have n3_ := zA.mk (zL (g := gb574) (o := .cells #[.int .u8 a1_0, .int .u8 a1_1, .int .u8 a1_2, .int .u16 a1_3, .int .u16 a1_4, .float .f64 a1_5] 67 (0, 0)) (by (with_reducible repeat (first | refine zC ?_ _ | refine zD ?_ | refine zB ?_ _)); exact BK574.out) hb); have n4_ := zA.mk (zO (by repeat (first | (with_reducible first | exact HB.out | apply zI | apply zF | apply zH | refine zE ?_ GE574.out) | exact HB.out)) hb); clear BK574; clear HB; have HO578 := n0_; have HO581 := n1_; have HO584 := n2_; have BK574 := n3_; have HB := n4_; clear n0_ n1_ n2_ n3_ n4_; (try clear hb); (try clear hb2); (try clear hk); (try clear hi); (try clear ho0); (try clear ho1); (try clear ho2)) | ((with_reducible refine gate_dst (N := 5) rfl ?_); refine box_event ?hg (N := 5) ?hd (cs := #[.slice none 0 0, .slice none 0 0]) (t := 35) ?hr ?_; (case hd => rfl); (case hg => rfl); (case hr => first | (go_simp; done) | (go_simp; rfl)); intro gb591 hg w10 hbox hb; have n0_ := zA.mk (Kd.R_below (by (with_reducible repeat (first | apply Kd.R_alloc | apply Kd.R_drewN | apply Kd.R_drew)); exact HO578.out) hb); have n1_ := zA.mk (Kd.R_below (by (with_reducible repeat (first | apply Kd.R_alloc | apply Kd.R_drewN | apply Kd.R_drew)); exact HO581.out) hb); have n2_ := zA.mk (Kd.R_below (by (with_reducible repeat (first | apply Kd.R_alloc | apply Kd.R_drewN | apply Kd.R_drew)); exact HO584.out) hb); have n3_ := zA.mk (zL (g := gb574) (o := .cells #[.int .u8 a1_0, .int .u8 a1_1, .int .u8 a1_2, .int .u16 a1_3, .int .u16 a1_4, .float .f64 a1_5] 67 (0, 0)) (by (with_reducible repeat (first | refine zC ?_ _ | refine zD ?_ | refine zB ?_ _)); exact BK574.out) hb); have n4_ := zA.mk (zO (by repeat (first | (with_reducible first | exact HB.out | apply zI | apply zF | apply zH | refine zE ?_ GE574.out) | exact HB.out)) hb); have n5_ := zA.mk (hbox); have n6_ := zA.mk ((by rw [hg]; exact (zK (by repeat (first | (with_reducible first | exact HB.out | apply zI | apply zF | apply zH | refine zE ?_ GE574.out) | exact HB.out))) : w.heap.size ≤ gb591)); have n7_ := zA.mk ((by rw [hg]; exact (zK (by repeat (first | (with_reducible first | exact HB.out | apply zI | apply zF | apply zH | refine zE ?_ GE574.out) | exact HB.out))) : w.heap.size ≤ gb591)); have n8_ := zA.mk ((by rw [hg]; exact Nat.ne_of_lt (blk_lt (g := gb574) (o := .cells #[.int .u8 a1_0, .int .u8 a1_1, .int .u8 a1_2, .int .u16 a1_3, .int .u16 a1_4, .float .f64 a1_5] 67 (0, 0)) (by (with_reducible repeat (first | refine zC ?_ _ | refine zD ?_ | refine zB ?_ _)); exact BK574.out)) : gb574 ≠ gb591)); have n9_ := zA.mk ((by rw [hg]; exact Nat.ne_of_gt (blk_lt (g := gb574) (o := .cells #[.int .u8 a1_0, .int .u8 a1_1, .int .u8 a1_2, .int .u16 a1_3, .int .u16 a1_4, .float .f64 a1_5] 67 (0, 0)) (by (with_reducible repeat (first | refine zC ?_ _ | refine zD ?_ | refine zB ?_ _)); exact BK574.out)) : gb591 ≠ gb574)); clear HO578; clear HO581; clear HO584; clear BK574; clear HB; have HO578 := n0_; have HO581 := n1_; have HO584 := n2_; have BK574 := n3_; have HB := n4_; have BK591 := n5_; have GW591 := n6_; have GE591 := n7_; have NB574_591 := n8_; have NB591_574 := n9_; clear n0_ n1_ n2_ n3_ n4_ n5_ n6_ n7_ n8_ n9_; clear hb hbox hg) | ((with_reducible refine gate_dst (N := 7) rfl ?_); refine box_event ?hg (N := 7) ?hd (cs := #[.int .i64 0, .int .i64 0, .int .u8 0, .int .i64 0, .int .i64 0, .float .f64 0]) (t := 58) ?hr ?_; (case hd => rfl); (case hg => rfl); (case hr => first | (go_simp; done) | (go_simp; rfl)); intro gb592 hg w11 hbox hb; have n0_ := zA.mk (Kd.R_below (by (with_reducible repeat (first | apply Kd.R_alloc | apply Kd.R_drewN | apply Kd.R_drew)); exact HO578.out) hb); have n1_ := zA.mk (Kd.R_below (by (with_reducible repeat (first | apply Kd.R_alloc | apply Kd.R_drewN | apply Kd.R_drew)); exact HO581.out) hb); have n2_ := zA.mk (Kd.R_below (by (with_reducible repeat (first | apply Kd.R_alloc | apply Kd.R_drewN | apply Kd.R_drew)); exact HO584.out) hb); have n3_ := zA.mk (zL (g := gb574) (o := .cells #[.int .u8 a1_0, .int .u8 a1_1, .int .u8 a1_2, .int .u16 a1_3, .int .u16 a1_4, .float .f64 a1_5] 67 (0, 0)) (by (with_reducible repeat (first | refine zC ?_ _ | refine zD ?_ | refine zB ?_ _)); exact BK574.out) hb); have n4_ := zA.mk (zL (g := gb591) (o := .cells #[.slice none 0 0, .slice none 0 0] 35 (0, 0)) (by (with_reducible repeat (first | refine zC ?_ _ | refine zD ?_ | refine zB ?_ _)); exact BK591.out) hb); have n5_ := zA.mk (zO (by repeat (first | (with_reducible first | exact HB.out | apply zI | apply zF | apply zH | refine zE ?_ GE574.out | refine zE ?_ GE591.out) | exact HB.out)) hb); have n6_ := zA.mk (hbox); have n7_ := zA.mk ((by rw [hg]; exact (zK (by repeat (first | (with_reducible first | exact HB.out | apply zI | apply zF | apply zH | refine zE ?_ GE574.out | refine zE ?_ GE591.out) | exact HB.out))) : w.heap.size ≤ gb592)); have n8_ := zA.mk ((by rw [hg]; exact (zK (by repeat (first | (with_reducible first | exact HB.out | apply zI | apply zF | apply zH | refine zE ?_ GE574.out | refine zE ?_ GE591.out) | exact HB.out))) : w.heap.size ≤ gb592)); have n9_ := zA.mk ((by rw [hg]; exact Nat.ne_of_lt (blk_lt (g := gb574) (o := .cells #[.int .u8 a1_0, .int .u8 a1_1, .int .u8 a1_2, .int .u16 a1_3, .int .u16 a1_4, .float .f64 a1_5] 67 (0, 0)) (by (with_reducible repeat (first | refine zC ?_ _ | refine zD ?_ | refine zB ?_ _)); exact BK574.out)) : gb574 ≠ gb592)); have n10_ := zA.mk ((by rw [hg]; exact Nat.ne_of_gt (blk_lt (g := gb574) (o := .cells #[.int .u8 a1_0, .int .u8 a1_1, .int .u8 a1_2, .int .u16 a1_3, .int .u16 a1_4, .float .f64 a1_5] 67 (0, 0)) (by (with_reducible repeat (first | refine zC ?_ _ | refine zD ?_ | refine zB ?_ _)); exact BK574.out)) : gb592 ≠ gb574)); have n11_ := zA.mk ((by rw [hg]; exact Nat.ne_of_lt (blk_lt (g := gb591) (o := .cells #[.slice none 0 0, .slice none 0 0] 35 (0, 0)) (by (with_reducible repeat (first | refine zC ?_ _ | refine zD ?_ | refine zB ?_ _)); exact BK591.out)) : gb591 ≠ gb592)); have n12_ := zA.mk ((by rw [hg]; exact Nat.ne_of_gt (blk_lt (g := gb591) (o := .cells #[.slice none 0 0, .slice none 0 0] 35 (0, 0)) (by (with_reducible repeat (first | refine zC ?_ _ | refine zD ?_ | refine zB ?_ _)); exact BK591.out)) : gb592 ≠ gb591)); clear HO578; clear HO581; clear HO584; clear BK574; clear BK591; clear HB; have HO578 := n0_; have HO581 := n1_; have HO584 := n2_; have BK574 := n3_; have BK591 := n4_; have HB := n5_; have BK592 := n6_; have GW592 := n7_; have GE592 := n8_; have NB574_592 := n9_; have NB592_574 := n10_; have NB591_592 := n11_; have NB592_591 := n12_; clear n0_ n1_ n2_ n3_ n4_ n5_ n6_ n7_ n8_ n9_ n10_ n11_ n12_; clear hb hbox hg; obtain ⟨Ao12, co12, eo12⟩ := Kd.R_slice HO578.out; subst eo12; have hnb13 := NB591_574.out; have hnc13 := NB574_591.out; have hnb14 := NB591_592.out; have hnc14 := NB592_591.out; have hcz15_0 : w11.cell? ⟨gb591, 0, none⟩ = some (.slice none 0 0) := (zG BK591.out 0).trans rfl; have hcz15_1 : w11.cell? ⟨gb591, 1, none⟩ = some (.slice none 0 0) := (zG BK591.out 1).trans rfl; have hfz15_0 := zJ BK591.out 0; have hfz15_1 := zJ BK591.out 1; obtain ⟨Ao16, co16, eo16⟩ := Kd.R_slice HO581.out; subst eo16) | ((with_reducible refine gate_store (t := 35) (p := 5) rfl ?_); refine store_event (t := 35) (p := 5) (v := ?vo_w17) (w1 := ((w11.setCell ⟨gb591, 0, none⟩ (.slice Ao12 t576.length co12)).setCell ⟨gb591, 1, none⟩ (.slice Ao16 t579.length co16))) ?hg ?ho ?hn ?hr ?_; (case ho => rfl); (case hg => rfl); (case hn => rfl); (case hr => first | (go_simp; done) | (go_simp; rfl)); intro w17 hw; have n0_ : zA (Kd.R k41 41 w17 w.heap.size (fun _ => True) (.slice Ao12 t576.length co12) t576) := ⟨(by rw [hw]; exact (by (with_reducible repeat (first | apply Kd.R_alloc | apply Kd.R_drewN | apply Kd.R_drew)); exact Kd.R_mono (Kd.R_far (p := ⟨gb591, 1, none⟩) (Kd.R_far (p := ⟨gb591, 0, none⟩) (Kd.R_types HO578.out BK591.out (by decide)) (fun _ hk => hk.2) (.slice Ao12 t576.length co12)) (fun _ hk => hk.2) (.slice Ao16 t579.length co16)) (fun _ hk => trivial)))⟩; have n1_ : zA (Kd.R (Kd.int .u8) 46 w17 w.heap.size (fun _ => True) (.slice Ao16 t579.length co16) t579) := ⟨(by rw [hw]; exact (by (with_reducible repeat (first | apply Kd.R_alloc | apply Kd.R_drewN | apply Kd.R_drew)); exact Kd.R_mono (Kd.R_far (p := ⟨gb591, 1, none⟩) (Kd.R_far (p := ⟨gb591, 0, none⟩) (Kd.R_types HO581.out BK591.out (by decide)) (fun _ hk => hk.2) (.slice Ao12 t576.length co12)) (fun _ hk => hk.2) (.slice Ao16 t579.length co16)) (fun _ hk => trivial)))⟩; have n2_ : zA (Kd.R k63 63 w17 w.heap.size (fun _ => True) v583 t582) := ⟨(by rw [hw]; exact (by (with_reducible repeat (first | apply Kd.R_alloc | apply Kd.R_drewN | apply Kd.R_drew)); exact Kd.R_mono (Kd.R_far (p := ⟨gb591, 1, none⟩) (Kd.R_far (p := ⟨gb591, 0, none⟩) (Kd.R_types HO584.out BK591.out (by decide)) (fun _ hk => hk.2) (.slice Ao12 t576.length co12)) (fun _ hk => hk.2) (.slice Ao16 t579.length co16)) (fun _ hk => trivial)))⟩; have n3_ : zA (w17.heap[gb574]? = some (.cells #[.int .u8 a1_0, .int .u8 a1_1, .int .u8 a1_2, .int .u16 a1_3, .int .u16 a1_4, .float .f64 a1_5] 67 (0, 0))) := ⟨(by rw [hw]; exact (by (with_reducible repeat (first | refine zC ?_ _ | refine zD ?_ | refine zB ?_ _)); refine blk_far ?_ NB574_591.out _; (with_reducible repeat (first | refine zC ?_ _ | refine zD ?_ | refine zB ?_ _)); refine blk_far ?_ NB574_591.out _; (with_reducible repeat (first | refine zC ?_ _ | refine zD ?_ | refine zB ?_ _)); exact BK574.out))⟩; have n4_ : zA (w17.heap[gb591]? = some (.cells #[.slice Ao12 t576.length co12, .slice Ao16 t579.length co16] 35 (0, 0))) := ⟨(by rw [hw]; exact (by (with_reducible repeat (first | refine zC ?_ _ | refine zD ?_ | refine zB ?_ _)); refine blk_put (cs := #[.slice Ao12 t576.length co12, .slice none 0 0]) ?_ 1 _ rfl; (with_reducible repeat (first | refine zC ?_ _ | refine zD ?_ | refine zB ?_ _)); refine blk_put (cs := #[.slice none 0 0, .slice none 0 0]) ?_ 0 _ rfl; (with_reducible repeat (first | refine zC ?_ _ | refine zD ?_ | refine zB ?_ _)); exact BK591.out))⟩; have n5_ : zA (w17.heap[gb592]? = some (.cells #[.int .i64 0, .int .i64 0, .int .u8 0, .int .i64 0, .int .i64 0, .float .f64 0] 58 (0, 0))) := ⟨(by rw [hw]; exact (by (with_reducible repeat (first | refine zC ?_ _ | refine zD ?_ | refine zB ?_ _)); refine blk_far ?_ NB592_591.out _; (with_reducible repeat (first | refine zC ?_ _ | refine zD ?_ | refine zB ?_ _)); refine blk_far ?_ NB592_591.out _; (with_reducible repeat (first | refine zC ?_ _ | refine zD ?_ | refine zB ?_ _)); exact BK592.out))⟩; have n6_ : zA (Below w.heap.size w w17) := ⟨(by rw [hw]; exact (by repeat (first | (with_reducible first | exact HB.out | apply zI | apply zF | apply zH | refine zE ?_ GE574.out | refine zE ?_ GE591.out | refine zE ?_ GE592.out) | exact HB.out)))⟩; clear hw; clear HO578; clear HO581; clear HO584; clear BK574; clear BK591; clear BK592; clear HB; have HO578 := n0_; have HO581 := n1_; have HO584 := n2_; have BK574 := n3_; have BK591 := n4_; have BK592 := n5_; have HB := n6_; clear n0_ n1_ n2_ n3_ n4_ n5_ n6_; have hnb18 := NB592_574.out; have hnc18 := NB574_592.out; have hcz19_0 : w17.cell? ⟨gb592, 0, none⟩ = some (.int .i64 0) := (zG BK592.out 0).trans rfl; have hcz19_1 : w17.cell? ⟨gb592, 1, none⟩ = some (.int .i64 0) := (zG BK592.out 1).trans rfl; have hcz19_2 : w17.cell? ⟨gb592, 2, none⟩ = some (.int .u8 0) := (zG BK592.out 2).trans rfl; have hcz19_3 : w17.cell? ⟨gb592, 3, none⟩ = some (.int .i64 0) := (zG BK592.out 3).trans rfl; have hcz19_4 : w17.cell? ⟨gb592, 4, none⟩ = some (.int .i64 0) := (zG BK592.out 4).trans rfl; have hcz19_5 : w17.cell? ⟨gb592, 5, none⟩ = some (.float .f64 0) := (zG BK592.out 5).trans rfl; have hfz19_0 := zJ BK592.out 0; have hfz19_1 := zJ BK592.out 1; have hfz19_2 := zJ BK592.out 2; have hfz19_3 := zJ BK592.out 3; have hfz19_4 := zJ BK592.out 4; have hfz19_5 := zJ BK592.out 5) | ((with_reducible refine gate_store (t := 58) (p := 7) rfl ?_); refine store_event (t := 58) (p := 7) (v := ?vo_w20) (w1 := ((((((w17.setCell ⟨gb592, 0, none⟩ (.int .i64 t585)).setCell ⟨gb592, 1, none⟩ (.int .i64 t586)).setCell ⟨gb592, 2, none⟩ (.int .u8 t587)).setCell ⟨gb592, 3, none⟩ (.int .i64 t588)).setCell ⟨gb592, 4, none⟩ (.int .i64 t589)).setCell ⟨gb592, 5, none⟩ (.float .f64 t590))) ?hg ?ho ?hn ?hr ?_; (case ho => rfl); (case hg => rfl); (case hn => rfl); (case hr => first | (go_simp; done) | (go_simp; rfl)); intro w20 hw; have n0_ : zA (Kd.R k41 41 w20 w.heap.size (fun _ => True) (.slice Ao12 t576.length co12) t576) := ⟨(by rw [hw]; exact (by (with_reducible repeat (first | apply Kd.R_alloc | apply Kd.R_drewN | apply Kd.R_drew)); exact Kd.R_mono (Kd.R_far (p := ⟨gb592, 5, none⟩) (Kd.R_far (p := ⟨gb592, 4, none⟩) (Kd.R_far (p := ⟨gb592, 3, none⟩) (Kd.R_far (p := ⟨gb592, 2, none⟩) (Kd.R_far (p := ⟨gb592, 1, none⟩) (Kd.R_far (p := ⟨gb592, 0, none⟩) (Kd.R_types HO578.out BK592.out (by decide)) (fun _ hk => hk.2) (.int .i64 t585)) (fun _ hk => hk.2) (.int .i64 t586)) (fun _ hk => hk.2) (.int .u8 t587)) (fun _ hk => hk.2) (.int .i64 t588)) (fun _ hk => hk.2) (.int .i64 t589)) (fun _ hk => hk.2) (.float .f64 t590)) (fun _ hk => trivial)))⟩; have n1_ : zA (Kd.R (Kd.int .u8) 46 w20 w.heap.size (fun _ => True) (.slice Ao16 t579.length co16) t579) := ⟨(by rw [hw]; exact (by (with_reducible repeat (first | apply Kd.R_alloc | apply Kd.R_drewN | apply Kd.R_drew)); exact Kd.R_mono (Kd.R_far (p := ⟨gb592, 5, none⟩) (Kd.R_far (p := ⟨gb592, 4, none⟩) (Kd.R_far (p := ⟨gb592, 3, none⟩) (Kd.R_far (p := ⟨gb592, 2, none⟩) (Kd.R_far (p := ⟨gb592, 1, none⟩) (Kd.R_far (p := ⟨gb592, 0, none⟩) (Kd.R_types HO581.out BK592.out (by decide)) (fun _ hk => hk.2) (.int .i64 t585)) (fun _ hk => hk.2) (.int .i64 t586)) (fun _ hk => hk.2) (.int .u8 t587)) (fun _ hk => hk.2) (.int .i64 t588)) (fun _ hk => hk.2) (.int .i64 t589)) (fun _ hk => hk.2) (.float .f64 t590)) (fun _ hk => trivial)))⟩; have n2_ : zA (Kd.R k63 63 w20 w.heap.size (fun _ => True) v583 t582) := ⟨(by rw [hw]; exact (by (with_reducible repeat (first | apply Kd.R_alloc | apply Kd.R_drewN | apply Kd.R_drew)); exact Kd.R_mono (Kd.R_far (p := ⟨gb592, 5, none⟩) (Kd.R_far (p := ⟨gb592, 4, none⟩) (Kd.R_far (p := ⟨gb592, 3, none⟩) (Kd.R_far (p := ⟨gb592, 2, none⟩) (Kd.R_far (p := ⟨gb592, 1, none⟩) (Kd.R_far (p := ⟨gb592, 0, none⟩) (Kd.R_types HO584.out BK592.out (by decide)) (fun _ hk => hk.2) (.int .i64 t585)) (fun _ hk => hk.2) (.int .i64 t586)) (fun _ hk => hk.2) (.int .u8 t587)) (fun _ hk => hk.2) (.int .i64 t588)) (fun _ hk => hk.2) (.int .i64 t589)) (fun _ hk => hk.2) (.float .f64 t590)) (fun _ hk => trivial)))⟩; have n3_ : zA (w20.heap[gb574]? = some (.cells #[.int .u8 a1_0, .int .u8 a1_1, .int .u8 a1_2, .int .u16 a1_3, .int .u16 a1_4, .float .f64 a1_5] 67 (0, 0))) := ⟨(by rw [hw]; exact (by (with_reducible repeat (first | refine zC ?_ _ | refine zD ?_ | refine zB ?_ _)); refine blk_far ?_ NB574_592.out _; (with_reducible repeat (first | refine zC ?_ _ | refine zD ?_ | refine zB ?_ _)); refine blk_far ?_ NB574_592.out _; (with_reducible repeat (first | refine zC ?_ _ | refine zD ?_ | refine zB ?_ _)); refine blk_far ?_ NB574_592.out _; (with_reducible repeat (first | refine zC ?_ _ | refine zD ?_ | refine zB ?_ _)); refine blk_far ?_ NB574_592.out _; (with_reducible repeat (first | refine zC ?_ _ | refine zD ?_ | refine zB ?_ _)); refine blk_far ?_ NB574_592.out _; (with_reducible repeat (first | refine zC ?_ _ | refine zD ?_ | refine zB ?_ _)); refine blk_far ?_ NB574_592.out _; (with_reducible repeat (first | refine zC ?_ _ | refine zD ?_ | refine zB ?_ _)); exact BK574.out))⟩; have n4_ : zA (w20.heap[gb591]? = some (.cells #[.slice Ao12 t576.length co12, .slice Ao16 t579.length co16] 35 (0, 0))) := ⟨(by rw [hw]; exact (by (with_reducible repeat (first | refine zC ?_ _ | refine zD ?_ | refine zB ?_ _)); refine blk_far ?_ NB591_592.out _; (with_reducible repeat (first | refine zC ?_ _ | refine zD ?_ | refine zB ?_ _)); refine blk_far ?_ NB591_592.out _; (with_reducible repeat (first | refine zC ?_ _ | refine zD ?_ | refine zB ?_ _)); refine blk_far ?_ NB591_592.out _; (with_reducible repeat (first | refine zC ?_ _ | refine zD ?_ | refine zB ?_ _)); refine blk_far ?_ NB591_592.out _; (with_reducible repeat (first | refine zC ?_ _ | refine zD ?_ | refine zB ?_ _)); refine blk_far ?_ NB591_592.out _; (with_reducible repeat (first | refine zC ?_ _ | refine zD ?_ | refine zB ?_ _)); refine blk_far ?_ NB591_592.out _; (with_reducible repeat (first | refine zC ?_ _ | refine zD ?_ | refine zB ?_ _)); exact BK591.out))⟩; have n5_ : zA (w20.heap[gb592]? = some (.cells #[.int .i64 t585, .int .i64 t586, .int .u8 t587, .int .i64 t588, .int .i64 t589, .float .f64 t590] 58 (0, 0))) := ⟨(by rw [hw]; exact (by (with_reducible repeat (first | refine zC ?_ _ | refine zD ?_ | refine zB ?_ _)); refine blk_put (cs := #[.int .i64 t585, .int .i64 t586, .int .u8 t587, .int .i64 t588, .int .i64 t589, .float .f64 0]) ?_ 5 _ rfl; (with_reducible repeat (first | refine zC ?_ _ | refine zD ?_ | refine zB ?_ _)); refine blk_put (cs := #[.int .i64 t585, .int .i64 t586, .int .u8 t587, .int .i64 t588, .int .i64 0, .float .f64 0]) ?_ 4 _ rfl; (with_reducible repeat (first | refine zC ?_ _ | refine zD ?_ | refine zB ?_ _)); refine blk_put (cs := #[.int .i64 t585, .int .i64 t586, .int .u8 t587, .int .i64 0, .int .i64 0, .float .f64 0]) ?_ 3 _ rfl; (with_reducible repeat (first | refine zC ?_ _ | refine zD ?_ | refine zB ?_ _)); refine blk_put (cs := #[.int .i64 t585, .int .i64 t586, .int .u8 0, .int .i64 0, .int .i64 0, .float .f64 0]) ?_ 2 _ rfl; (with_reducible repeat (first | refine zC ?_ _ | refine zD ?_ | refine zB ?_ _)); refine blk_put (cs := #[.int .i64 t585, .int .i64 0, .int .u8 0, .int .i64 0, .int .i64 0, .float .f64 0]) ?_ 1 _ rfl; (with_reducible repeat (first | refine zC ?_ _ | refine zD ?_ | refine zB ?_ _)); refine blk_put (cs := #[.int .i64 0, .int .i64 0, .int .u8 0, .int .i64 0, .int .i64 0, .float .f64 0]) ?_ 0 _ rfl; (with_reducible repeat (first | refine zC ?_ _ | refine zD ?_ | refine zB ?_ _)); exact BK592.out))⟩; have n6_ : zA (Below w.heap.size w w20) := ⟨(by rw [hw]; exact (by repeat (first | (with_reducible first | exact HB.out | apply zI | apply zF | apply zH | refine zE ?_ GE574.out | refine zE ?_ GE591.out | refine zE ?_ GE592.out) | exact HB.out)))⟩; clear hw; clear HO578; clear HO581; clear HO584; clear BK574; clear BK591; clear BK592; clear HB; have HO578 := n0_; have HO581 := n1_; have HO584 := n2_; have BK574 := n3_; have BK591 := n4_; have BK592 := n5_; have HB := n6_; clear n0_ n1_ n2_ n3_ n4_ n5_ n6_; obtain ⟨Ao21, co21, eo21⟩ := Kd.R_slice HO584.out; subst eo21))
    go_loopg [28] k (fun kq v28 w' => ∃ (x28_1 : Int), v28 = .int .i64 x28_1 ∧ zA (stanzalaw18_JustFills.l0 kq t582 (t582.length : Int) x28_1 t576 t579 t585 t586 t587 t588 t589 t590 = some r) ∧ zA (kq ≤ k) ∧ zA (Kd.R k63 63 w' w.heap.size (fun _ => True) (.slice Ao21 t582.length co21) t582) ∧ zA (Kd.R k41 41 w' w.heap.size (fun _ => True) (.slice Ao12 t576.length co12) t576) ∧ zA (Kd.R (Kd.int .u8) 46 w' w.heap.size (fun _ => True) (.slice Ao16 t579.length co16) t579) ∧ zA (w'.heap[gb574]? = some (.cells #[.int .u8 a1_0, .int .u8 a1_1, .int .u8 a1_2, .int .u16 a1_3, .int .u16 a1_4, .float .f64 a1_5] 67 (0, 0))) ∧ zA (w'.heap[gb591]? = some (.cells #[(.slice Ao12 t576.length co12), (.slice Ao16 t579.length co16)] 35 (0, 0))) ∧ zA (w'.heap[gb592]? = some (.cells #[.int .i64 t585, .int .i64 t586, .int .u8 t587, .int .i64 t588, .int .i64 t589, .float .f64 t590] 58 (0, 0))) ∧ zA (Below w.heap.size w w'))
    case atStart => exact ⟨(0), (by first | rfl | (simp; done) | (simp [*]; done)), H', ⟨Nat.le_refl _⟩, ⟨by (with_reducible repeat (first | apply Kd.R_alloc | apply Kd.R_drewN | apply Kd.R_drew)); exact HO584.out⟩, ⟨by (with_reducible repeat (first | apply Kd.R_alloc | apply Kd.R_drewN | apply Kd.R_drew)); exact HO578.out⟩, ⟨by (with_reducible repeat (first | apply Kd.R_alloc | apply Kd.R_drewN | apply Kd.R_drew)); exact HO581.out⟩, ⟨by (with_reducible repeat (first | refine zC ?_ _ | refine zD ?_ | refine zB ?_ _)); exact BK574.out⟩, ⟨by (with_reducible repeat (first | refine zC ?_ _ | refine zD ?_ | refine zB ?_ _)); exact BK591.out⟩, ⟨by (with_reducible repeat (first | refine zC ?_ _ | refine zD ?_ | refine zB ?_ _)); exact BK592.out⟩, ⟨by repeat (first | (with_reducible first | exact HB.out | apply zI | apply zF | apply zH | refine zE ?_ GE574.out | refine zE ?_ GE591.out | refine zE ?_ GE592.out) | exact HB.out)⟩⟩
    case round =>
      clear H'; try clear c1
      try clear p2
      try clear c3
      try clear c4
      try clear c13
      try clear c14
      try clear c18
      try clear hcz15_0
      try clear hcz15_1
      try clear hcz19_0
      try clear hcz19_1
      try clear hcz19_2
      try clear hcz19_3
      try clear hcz19_4
      try clear hcz19_5
      try clear hcz8_0
      try clear hcz8_1
      try clear hcz8_2
      try clear hcz8_3
      try clear hcz8_4
      try clear hcz8_5
      try clear hfz15_0
      try clear hfz15_1
      try clear hfz19_0
      try clear hfz19_1
      try clear hfz19_2
      try clear hfz19_3
      try clear hfz19_4
      try clear hfz19_5
      try clear hfz8_0
      try clear hfz8_1
      try clear hfz8_2
      try clear hfz8_3
      try clear hfz8_4
      try clear hfz8_5
      obtain ⟨x28_1, rfl, HA, HK1, HO_26, HO_592000, HO_592001, BK574, BK591, BK592, HB⟩ := hrel; cases gk with
      | zero => exact absurd HA.out (by simp [stanzalaw18_JustFills.l0])
      | succ k1 =>
        have H := HA.out; clear HA; simp only [stanzalaw18_JustFills.l0] at H; by_cases c22 : x28_1 < (t582.length : Int)
        · rw [if_pos c22] at H
          have c22b0 : decide (x28_1 < (t582.length : Int)) = true := decide_eq_true c22
          clear c22; by_cases c23 : 0 ≤ x28_1
          · rw [if_pos c23] at H
            have c23b0 : decide (0 ≤ x28_1) = true := decide_eq_true c23
            clear c23; by_cases c24 : x28_1 < (t582.length : Int)
            · rw [if_pos c24] at H
              have c24b0 : decide (x28_1 < (t582.length : Int)) = true := decide_eq_true c24
              clear c24; replace H := Option.bind_eq_some_iff.mp H; obtain ⟨t595, A250, H⟩ := H; replace H : (stanzalaw18_JustFills.l1 k1 0 0 t582 (t582.length : Int) x28_1 t595 (t595.length : Int) 0 t576 t579 t585 t586 t587 t588 t589 t590 ((rd_T63 t582 x28_1).f0) ((rd_T63 t582 x28_1).f1) ((rd_T63 t582 x28_1).f2) ((rd_T63 t582 x28_1).f3)) = some r := H; have A25 := zA.mk A250; clear A250; have H' := zA.mk H
              clear H; have p593 : 0 ≤ (x28_1 : Int) := of_decide_eq_true (by first | (with_reducible assumption) | assumption)
              have q593 : x28_1 < (t582.length : Int) := of_decide_eq_true (by first | (with_reducible assumption) | assumption)
              obtain ⟨ad593, e593, hx593_0, hx593_1, hx593_2, hx593_3⟩ := at_T63 (Kd.R_reads' HO_26.out).2.2 x28_1 p593 q593; cases e593
              replace p593 := eq_true p593; replace q593 := eq_true q593; go_wp2_with (first | ((with_reducible refine gate_dst (N := 9) rfl ?_); refine box_event ?hg (N := 9) ?hd (cs := #[.int .i64 0, .int .i64 0, .int .i64 0, .int .u8 0]) (t := 63) ?hr ?_; (case hd => rfl); (case hg => rfl); (case hr => first | (go_simp; done) | (go_simp; rfl)); intro gb594 hg w26 hbox hb; have n0_ := zA.mk (Kd.R_below (Kd.R_elderB (by (with_reducible repeat (first | apply Kd.R_alloc | apply Kd.R_drewN | apply Kd.R_drew)); exact HO_26.out) gb594 (Nat.le_of_eq hg.symm)) hb); have n1_ := zA.mk (Kd.R_below (by (with_reducible repeat (first | apply Kd.R_alloc | apply Kd.R_drewN | apply Kd.R_drew)); exact HO_592000.out) hb); have n2_ := zA.mk (Kd.R_below (by (with_reducible repeat (first | apply Kd.R_alloc | apply Kd.R_drewN | apply Kd.R_drew)); exact HO_592001.out) hb); have n3_ := zA.mk (zL (g := gb574) (o := .cells #[.int .u8 a1_0, .int .u8 a1_1, .int .u8 a1_2, .int .u16 a1_3, .int .u16 a1_4, .float .f64 a1_5] 67 (0, 0)) (by (with_reducible repeat (first | refine zC ?_ _ | refine zD ?_ | refine zB ?_ _)); exact BK574.out) hb); have n4_ := zA.mk (zL (g := gb591) (o := .cells #[.slice Ao12 t576.length co12, .slice Ao16 t579.length co16] 35 (0, 0)) (by (with_reducible repeat (first | refine zC ?_ _ | refine zD ?_ | refine zB ?_ _)); exact BK591.out) hb); have n5_ := zA.mk (zL (g := gb592) (o := .cells #[.int .i64 t585, .int .i64 t586, .int .u8 t587, .int .i64 t588, .int .i64 t589, .float .f64 t590] 58 (0, 0)) (by (with_reducible repeat (first | refine zC ?_ _ | refine zD ?_ | refine zB ?_ _)); exact BK592.out) hb); have n6_ := zA.mk (zO (by repeat (first | (with_reducible first | exact HB.out | apply zI | apply zF | apply zH | refine zE ?_ GE574.out | refine zE ?_ GE591.out | refine zE ?_ GE592.out) | exact HB.out)) hb); have n7_ := zA.mk (hbox); have n8_ := zA.mk ((by rw [hg]; exact (zK (by repeat (first | (with_reducible first | exact HB.out | apply zI | apply zF | apply zH | refine zE ?_ GE574.out | refine zE ?_ GE591.out | refine zE ?_ GE592.out) | exact HB.out))) : w.heap.size ≤ gb594)); have n9_ := zA.mk ((by rw [hg]; exact (zK (by repeat (first | (with_reducible first | exact HB.out | apply zI | apply zF | apply zH | refine zE ?_ GE574.out | refine zE ?_ GE591.out | refine zE ?_ GE592.out) | exact HB.out))) : w.heap.size ≤ gb594)); have n10_ := zA.mk ((by rw [hg]; exact Nat.ne_of_lt (blk_lt (g := gb574) (o := .cells #[.int .u8 a1_0, .int .u8 a1_1, .int .u8 a1_2, .int .u16 a1_3, .int .u16 a1_4, .float .f64 a1_5] 67 (0, 0)) (by (with_reducible repeat (first | refine zC ?_ _ | refine zD ?_ | refine zB ?_ _)); exact BK574.out)) : gb574 ≠ gb594)); have n11_ := zA.mk ((by rw [hg]; exact Nat.ne_of_gt (blk_lt (g := gb574) (o := .cells #[.int .u8 a1_0, .int .u8 a1_1, .int .u8 a1_2, .int .u16 a1_3, .int .u16 a1_4, .float .f64 a1_5] 67 (0, 0)) (by (with_reducible repeat (first | refine zC ?_ _ | refine zD ?_ | refine zB ?_ _)); exact BK574.out)) : gb594 ≠ gb574)); have n12_ := zA.mk ((by rw [hg]; exact Nat.ne_of_lt (blk_lt (g := gb591) (o := .cells #[.slice Ao12 t576.length co12, .slice Ao16 t579.length co16] 35 (0, 0)) (by (with_reducible repeat (first | refine zC ?_ _ | refine zD ?_ | refine zB ?_ _)); exact BK591.out)) : gb591 ≠ gb594)); have n13_ := zA.mk ((by rw [hg]; exact Nat.ne_of_gt (blk_lt (g := gb591) (o := .cells #[.slice Ao12 t576.length co12, .slice Ao16 t579.length co16] 35 (0, 0)) (by (with_reducible repeat (first | refine zC ?_ _ | refine zD ?_ | refine zB ?_ _)); exact BK591.out)) : gb594 ≠ gb591)); have n14_ := zA.mk ((by rw [hg]; exact Nat.ne_of_lt (blk_lt (g := gb592) (o := .cells #[.int .i64 t585, .int .i64 t586, .int .u8 t587, .int .i64 t588, .int .i64 t589, .float .f64 t590] 58 (0, 0)) (by (with_reducible repeat (first | refine zC ?_ _ | refine zD ?_ | refine zB ?_ _)); exact BK592.out)) : gb592 ≠ gb594)); have n15_ := zA.mk ((by rw [hg]; exact Nat.ne_of_gt (blk_lt (g := gb592) (o := .cells #[.int .i64 t585, .int .i64 t586, .int .u8 t587, .int .i64 t588, .int .i64 t589, .float .f64 t590] 58 (0, 0)) (by (with_reducible repeat (first | refine zC ?_ _ | refine zD ?_ | refine zB ?_ _)); exact BK592.out)) : gb594 ≠ gb592)); clear HO_26; clear HO_592000; clear HO_592001; clear BK574; clear BK591; clear BK592; clear HB; have HO_26 := n0_; have HO_592000 := n1_; have HO_592001 := n2_; have BK574 := n3_; have BK591 := n4_; have BK592 := n5_; have HB := n6_; have BK594 := n7_; have GW594 := n8_; have GE594 := n9_; have NB574_594 := n10_; have NB594_574 := n11_; have NB591_594 := n12_; have NB594_591 := n13_; have NB592_594 := n14_; have NB594_592 := n15_; clear n0_ n1_ n2_ n3_ n4_ n5_ n6_ n7_ n8_ n9_ n10_ n11_ n12_ n13_ n14_ n15_; clear hb hbox hg; have hnb27 := NB594_574.out; have hnc27 := NB574_594.out; have hnb28 := NB594_591.out; have hnc28 := NB591_594.out; have hnb29 := NB594_592.out; have hnc29 := NB592_594.out; have hcz30_0 : w26.cell? ⟨gb594, 0, none⟩ = some (.int .i64 0) := (zG BK594.out 0).trans rfl; have hcz30_1 : w26.cell? ⟨gb594, 1, none⟩ = some (.int .i64 0) := (zG BK594.out 1).trans rfl; have hcz30_2 : w26.cell? ⟨gb594, 2, none⟩ = some (.int .i64 0) := (zG BK594.out 2).trans rfl; have hcz30_3 : w26.cell? ⟨gb594, 3, none⟩ = some (.int .u8 0) := (zG BK594.out 3).trans rfl; have hfz30_0 := zJ BK594.out 0; have hfz30_1 := zJ BK594.out 1; have hfz30_2 := zJ BK594.out 2; have hfz30_3 := zJ BK594.out 3) | ((with_reducible refine gate_store (t := 63) (p := 9) rfl ?_); refine store_event (t := 63) (p := 9) (v := ?vo_w31) (w1 := ((((w26.setCell ⟨gb594, 0, none⟩ (.int .i64 ((rd_T63 t582 x28_1).f0))).setCell ⟨gb594, 1, none⟩ (.int .i64 ((rd_T63 t582 x28_1).f1))).setCell ⟨gb594, 2, none⟩ (.int .i64 ((rd_T63 t582 x28_1).f2))).setCell ⟨gb594, 3, none⟩ (.int .u8 ((rd_T63 t582 x28_1).f3)))) ?hg ?ho ?hn ?hr ?_; (case ho => rfl); (case hg => rfl); (case hn => rfl); (case hr => first | (go_simp; done) | (go_simp; rfl)); intro w31 hw; have n0_ : zA (Kd.R k63 63 w31 w.heap.size (fun k_ => k_ ≠ gb594) (.slice (some ad593) t582.length co21) t582) := ⟨(by rw [hw]; exact (by (with_reducible repeat (first | apply Kd.R_alloc | apply Kd.R_drewN | apply Kd.R_drew)); exact Kd.R_mono (Kd.R_far (p := ⟨gb594, 3, none⟩) (Kd.R_far (p := ⟨gb594, 2, none⟩) (Kd.R_far (p := ⟨gb594, 1, none⟩) (Kd.R_far (p := ⟨gb594, 0, none⟩) (Kd.R_mono HO_26.out (fun k_ hk => (⟨hk, hk.2⟩ : _ ∧ k_ ≠ gb594))) (fun _ hk => hk.2) (.int .i64 ((rd_T63 t582 x28_1).f0))) (fun _ hk => hk.2) (.int .i64 ((rd_T63 t582 x28_1).f1))) (fun _ hk => hk.2) (.int .i64 ((rd_T63 t582 x28_1).f2))) (fun _ hk => hk.2) (.int .u8 ((rd_T63 t582 x28_1).f3))) (fun _ hk => hk.1.2)))⟩; have n1_ : zA (Kd.R k41 41 w31 w.heap.size (fun _ => True) (.slice Ao12 t576.length co12) t576) := ⟨(by rw [hw]; exact (by (with_reducible repeat (first | apply Kd.R_alloc | apply Kd.R_drewN | apply Kd.R_drew)); exact Kd.R_mono (Kd.R_far (p := ⟨gb594, 3, none⟩) (Kd.R_far (p := ⟨gb594, 2, none⟩) (Kd.R_far (p := ⟨gb594, 1, none⟩) (Kd.R_far (p := ⟨gb594, 0, none⟩) (Kd.R_types HO_592000.out BK594.out (by decide)) (fun _ hk => hk.2) (.int .i64 ((rd_T63 t582 x28_1).f0))) (fun _ hk => hk.2) (.int .i64 ((rd_T63 t582 x28_1).f1))) (fun _ hk => hk.2) (.int .i64 ((rd_T63 t582 x28_1).f2))) (fun _ hk => hk.2) (.int .u8 ((rd_T63 t582 x28_1).f3))) (fun _ hk => trivial)))⟩; have n2_ : zA (Kd.R (Kd.int .u8) 46 w31 w.heap.size (fun _ => True) (.slice Ao16 t579.length co16) t579) := ⟨(by rw [hw]; exact (by (with_reducible repeat (first | apply Kd.R_alloc | apply Kd.R_drewN | apply Kd.R_drew)); exact Kd.R_mono (Kd.R_far (p := ⟨gb594, 3, none⟩) (Kd.R_far (p := ⟨gb594, 2, none⟩) (Kd.R_far (p := ⟨gb594, 1, none⟩) (Kd.R_far (p := ⟨gb594, 0, none⟩) (Kd.R_types HO_592001.out BK594.out (by decide)) (fun _ hk => hk.2) (.int .i64 ((rd_T63 t582 x28_1).f0))) (fun _ hk => hk.2) (.int .i64 ((rd_T63 t582 x28_1).f1))) (fun _ hk => hk.2) (.int .i64 ((rd_T63 t582 x28_1).f2))) (fun _ hk => hk.2) (.int .u8 ((rd_T63 t582 x28_1).f3))) (fun _ hk => trivial)))⟩; have n3_ : zA (w31.heap[gb574]? = some (.cells #[.int .u8 a1_0, .int .u8 a1_1, .int .u8 a1_2, .int .u16 a1_3, .int .u16 a1_4, .float .f64 a1_5] 67 (0, 0))) := ⟨(by rw [hw]; exact (by (with_reducible repeat (first | refine zC ?_ _ | refine zD ?_ | refine zB ?_ _)); refine blk_far ?_ NB574_594.out _; (with_reducible repeat (first | refine zC ?_ _ | refine zD ?_ | refine zB ?_ _)); refine blk_far ?_ NB574_594.out _; (with_reducible repeat (first | refine zC ?_ _ | refine zD ?_ | refine zB ?_ _)); refine blk_far ?_ NB574_594.out _; (with_reducible repeat (first | refine zC ?_ _ | refine zD ?_ | refine zB ?_ _)); refine blk_far ?_ NB574_594.out _; (with_reducible repeat (first | refine zC ?_ _ | refine zD ?_ | refine zB ?_ _)); exact BK574.out))⟩; have n4_ : zA (w31.heap[gb591]? = some (.cells #[.slice Ao12 t576.length co12, .slice Ao16 t579.length co16] 35 (0, 0))) := ⟨(by rw [hw]; exact (by (with_reducible repeat (first | refine zC ?_ _ | refine zD ?_ | refine zB ?_ _)); refine blk_far ?_ NB591_594.out _; (with_reducible repeat (first | refine zC ?_ _ | refine zD ?_ | refine zB ?_ _)); refine blk_far ?_ NB591_594.out _; (with_reducible repeat (first | refine zC ?_ _ | refine zD ?_ | refine zB ?_ _)); refine blk_far ?_ NB591_594.out _; (with_reducible repeat (first | refine zC ?_ _ | refine zD ?_ | refine zB ?_ _)); refine blk_far ?_ NB591_594.out _; (with_reducible repeat (first | refine zC ?_ _ | refine zD ?_ | refine zB ?_ _)); exact BK591.out))⟩; have n5_ : zA (w31.heap[gb592]? = some (.cells #[.int .i64 t585, .int .i64 t586, .int .u8 t587, .int .i64 t588, .int .i64 t589, .float .f64 t590] 58 (0, 0))) := ⟨(by rw [hw]; exact (by (with_reducible repeat (first | refine zC ?_ _ | refine zD ?_ | refine zB ?_ _)); refine blk_far ?_ NB592_594.out _; (with_reducible repeat (first | refine zC ?_ _ | refine zD ?_ | refine zB ?_ _)); refine blk_far ?_ NB592_594.out _; (with_reducible repeat (first | refine zC ?_ _ | refine zD ?_ | refine zB ?_ _)); refine blk_far ?_ NB592_594.out _; (with_reducible repeat (first | refine zC ?_ _ | refine zD ?_ | refine zB ?_ _)); refine blk_far ?_ NB592_594.out _; (with_reducible repeat (first | refine zC ?_ _ | refine zD ?_ | refine zB ?_ _)); exact BK592.out))⟩; have n6_ : zA (w31.heap[gb594]? = some (.cells #[.int .i64 ((rd_T63 t582 x28_1).f0), .int .i64 ((rd_T63 t582 x28_1).f1), .int .i64 ((rd_T63 t582 x28_1).f2), .int .u8 ((rd_T63 t582 x28_1).f3)] 63 (0, 0))) := ⟨(by rw [hw]; exact (by (with_reducible repeat (first | refine zC ?_ _ | refine zD ?_ | refine zB ?_ _)); refine blk_put (cs := #[.int .i64 ((rd_T63 t582 x28_1).f0), .int .i64 ((rd_T63 t582 x28_1).f1), .int .i64 ((rd_T63 t582 x28_1).f2), .int .u8 0]) ?_ 3 _ rfl; (with_reducible repeat (first | refine zC ?_ _ | refine zD ?_ | refine zB ?_ _)); refine blk_put (cs := #[.int .i64 ((rd_T63 t582 x28_1).f0), .int .i64 ((rd_T63 t582 x28_1).f1), .int .i64 0, .int .u8 0]) ?_ 2 _ rfl; (with_reducible repeat (first | refine zC ?_ _ | refine zD ?_ | refine zB ?_ _)); refine blk_put (cs := #[.int .i64 ((rd_T63 t582 x28_1).f0), .int .i64 0, .int .i64 0, .int .u8 0]) ?_ 1 _ rfl; (with_reducible repeat (first | refine zC ?_ _ | refine zD ?_ | refine zB ?_ _)); refine blk_put (cs := #[.int .i64 0, .int .i64 0, .int .i64 0, .int .u8 0]) ?_ 0 _ rfl; (with_reducible repeat (first | refine zC ?_ _ | refine zD ?_ | refine zB ?_ _)); exact BK594.out))⟩; have n7_ : zA (Below w.heap.size w w31) := ⟨(by rw [hw]; exact (by repeat (first | (with_reducible first | exact HB.out | apply zI | apply zF | apply zH | refine zE ?_ GE574.out | refine zE ?_ GE591.out | refine zE ?_ GE592.out | refine zE ?_ GE594.out) | exact HB.out)))⟩; clear hw; clear HO_26; clear HO_592000; clear HO_592001; clear BK574; clear BK591; clear BK592; clear BK594; clear HB; have HO_26 := n0_; have HO_592000 := n1_; have HO_592001 := n2_; have BK574 := n3_; have BK591 := n4_; have BK592 := n5_; have BK594 := n6_; have HB := n7_; clear n0_ n1_ n2_ n3_ n4_ n5_ n6_ n7_; have hnb32 := NB591_574.out; have hnc32 := NB574_591.out; have hnb33 := NB591_592.out; have hnc33 := NB592_591.out; have hcz34_0 : w31.cell? ⟨gb591, 0, none⟩ = some (.slice Ao12 t576.length co12) := (zG BK591.out 0).trans rfl; have hcz34_1 : w31.cell? ⟨gb591, 1, none⟩ = some (.slice Ao16 t579.length co16) := (zG BK591.out 1).trans rfl; have hfz34_0 := zJ BK591.out 0; have hfz34_1 := zJ BK591.out 1; have hcz35_0 : w31.cell? ⟨gb594, 0, none⟩ = some (.int .i64 ((rd_T63 t582 x28_1).f0)) := (zG BK594.out 0).trans rfl; have hcz35_1 : w31.cell? ⟨gb594, 1, none⟩ = some (.int .i64 ((rd_T63 t582 x28_1).f1)) := (zG BK594.out 1).trans rfl; have hcz35_2 : w31.cell? ⟨gb594, 2, none⟩ = some (.int .i64 ((rd_T63 t582 x28_1).f2)) := (zG BK594.out 2).trans rfl; have hcz35_3 : w31.cell? ⟨gb594, 3, none⟩ = some (.int .u8 ((rd_T63 t582 x28_1).f3)) := (zG BK594.out 3).trans rfl; have hfz35_0 := zJ BK594.out 0; have hfz35_1 := zJ BK594.out 1; have hfz35_2 := zJ BK594.out 2; have hfz35_3 := zJ BK594.out 3; have hnb36 := NB592_574.out; have hnc36 := NB574_592.out; have hcz37_0 : w31.cell? ⟨gb592, 0, none⟩ = some (.int .i64 t585) := (zG BK592.out 0).trans rfl; have hcz37_1 : w31.cell? ⟨gb592, 1, none⟩ = some (.int .i64 t586) := (zG BK592.out 1).trans rfl; have hcz37_2 : w31.cell? ⟨gb592, 2, none⟩ = some (.int .u8 t587) := (zG BK592.out 2).trans rfl; have hcz37_3 : w31.cell? ⟨gb592, 3, none⟩ = some (.int .i64 t588) := (zG BK592.out 3).trans rfl; have hcz37_4 : w31.cell? ⟨gb592, 4, none⟩ = some (.int .i64 t589) := (zG BK592.out 4).trans rfl; have hcz37_5 : w31.cell? ⟨gb592, 5, none⟩ = some (.float .f64 t590) := (zG BK592.out 5).trans rfl; have hfz37_0 := zJ BK592.out 0; have hfz37_1 := zJ BK592.out 1; have hfz37_2 := zJ BK592.out 2; have hfz37_3 := zJ BK592.out 3; have hfz37_4 := zJ BK592.out 4; have hfz37_5 := zJ BK592.out 5) | ((with_reducible refine gate_callee (f := 37) rfl ?_); refine goesL_ (some 35) rfl rfl Try.func37 (by kernel_rfl) rfl #[.agg #[.slice Ao12 t576.length co12, .slice Ao16 t579.length co16], .agg #[.int .i64 ((rd_T63 t582 x28_1).f0), .int .i64 ((rd_T63 t582 x28_1).f1), .int .i64 ((rd_T63 t582 x28_1).f2), .int .u8 ((rd_T63 t582 x28_1).f3)], .agg #[.int .i64 t585, .int .i64 t586, .int .u8 t587, .int .i64 t588, .int .i64 t589, .float .f64 t590]] rfl (by (try simp only [List.map_toArray, List.map_cons, List.map_nil]); first | done | rfl | (simp only [List.length_drop, List.length_take]; rfl)) ?_; (with_reducible refine (just_Line.calls k1 _ _ t576 _ _ t579 ((rd_T63 t582 x28_1).f0) ((rd_T63 t582 x28_1).f1) ((rd_T63 t582 x28_1).f2) ((rd_T63 t582 x28_1).f3) t585 t586 t587 t588 t589 t590 t595 _ ?side1 ?side2 ?side3 ?side4 A25.out).mono ?_); (case side1 => repeat (first | exact (Kd.R_reads' HO_592000.out).2.2 | (with_reducible refine Kd.C_alloc ?_ _) | (with_reducible refine Kd.C_drewN ?_ _) | (with_reducible refine Kd.C_drew ?_))); (case side2 => exact (Kd.R_reads' HO_592000.out).2.1); (case side3 => repeat (first | exact (Kd.R_reads' HO_592001.out).2.2 | (with_reducible refine Kd.C_alloc ?_ _) | (with_reducible refine Kd.C_drewN ?_ _) | (with_reducible refine Kd.C_drew ?_))); (case side4 => exact (Kd.R_reads' HO_592001.out).2.1); rintro e w38 ⟨v596, rfl, ho0, hb⟩; refine ⟨_, rfl, ?_⟩; have n0_ := zA.mk (Kd.R_below (by (with_reducible repeat (first | apply Kd.R_alloc | apply Kd.R_drewN | apply Kd.R_drew)); exact HO_26.out) hb); have n1_ := zA.mk (Kd.R_below (by (with_reducible repeat (first | apply Kd.R_alloc | apply Kd.R_drewN | apply Kd.R_drew)); exact HO_592000.out) hb); have n2_ := zA.mk (Kd.R_below (by (with_reducible repeat (first | apply Kd.R_alloc | apply Kd.R_drewN | apply Kd.R_drew)); exact HO_592001.out) hb); have n3_ := zA.mk (Kd.R_lower ho0 (zK (by repeat (first | (with_reducible first | exact HB.out | apply zI | apply zF | apply zH | refine zE ?_ GE574.out | refine zE ?_ GE591.out | refine zE ?_ GE592.out | refine zE ?_ GE594.out) | exact HB.out)))); have n4_ := zA.mk (zL (g := gb574) (o := .cells #[.int .u8 a1_0, .int .u8 a1_1, .int .u8 a1_2, .int .u16 a1_3, .int .u16 a1_4, .float .f64 a1_5] 67 (0, 0)) (by (with_reducible repeat (first | refine zC ?_ _ | refine zD ?_ | refine zB ?_ _)); exact BK574.out) hb); have n5_ := zA.mk (zL (g := gb591) (o := .cells #[.slice Ao12 t576.length co12, .slice Ao16 t579.length co16] 35 (0, 0)) (by (with_reducible repeat (first | refine zC ?_ _ | refine zD ?_ | refine zB ?_ _)); exact BK591.out) hb); have n6_ := zA.mk (zL (g := gb592) (o := .cells #[.int .i64 t585, .int .i64 t586, .int .u8 t587, .int .i64 t588, .int .i64 t589, .float .f64 t590] 58 (0, 0)) (by (with_reducible repeat (first | refine zC ?_ _ | refine zD ?_ | refine zB ?_ _)); exact BK592.out) hb); have n7_ := zA.mk (zL (g := gb594) (o := .cells #[.int .i64 ((rd_T63 t582 x28_1).f0), .int .i64 ((rd_T63 t582 x28_1).f1), .int .i64 ((rd_T63 t582 x28_1).f2), .int .u8 ((rd_T63 t582 x28_1).f3)] 63 (0, 0)) (by (with_reducible repeat (first | refine zC ?_ _ | refine zD ?_ | refine zB ?_ _)); exact BK594.out) hb); have n8_ := zA.mk (zO (by repeat (first | (with_reducible first | exact HB.out | apply zI | apply zF | apply zH | refine zE ?_ GE574.out | refine zE ?_ GE591.out | refine zE ?_ GE592.out | refine zE ?_ GE594.out) | exact HB.out)) hb); clear HO_26; clear HO_592000; clear HO_592001; clear BK574; clear BK591; clear BK592; clear BK594; clear HB; have HO_26 := n0_; have HO_592000 := n1_; have HO_592001 := n2_; have HO597 := n3_; have BK574 := n4_; have BK591 := n5_; have BK592 := n6_; have BK594 := n7_; have HB := n8_; clear n0_ n1_ n2_ n3_ n4_ n5_ n6_ n7_ n8_; (try clear hb); (try clear hb2); (try clear hk); (try clear hi); (try clear ho0); obtain ⟨Ao39, co39, eo39⟩ := Kd.R_slice HO597.out; subst eo39))
              go_loopg [11, 12, 38] k1 (fun kq v11 v12 v38 w' => ∃ (x11_2 : Int) (x12_2 : Int) (x38_2 : Int), v11 = .int .i64 x11_2 ∧ v12 = .int .i64 x12_2 ∧ v38 = .int .i64 x38_2 ∧ zA (stanzalaw18_JustFills.l1 kq x11_2 x12_2 t582 (t582.length : Int) x28_1 t595 (t595.length : Int) x38_2 t576 t579 t585 t586 t587 t588 t589 t590 ((rd_T63 t582 x28_1).f0) ((rd_T63 t582 x28_1).f1) ((rd_T63 t582 x28_1).f2) ((rd_T63 t582 x28_1).f3) = some r) ∧ zA (kq ≤ k1) ∧ zA (Kd.R k63 63 w' w.heap.size (fun k_ => k_ ≠ gb594) (.slice (some ad593) t582.length co21) t582) ∧ zA (Kd.R (Kd.int .i64) 3 w' w.heap.size (fun _ => True) (.slice Ao39 t595.length co39) t595) ∧ zA (Kd.R k41 41 w' w.heap.size (fun _ => True) (.slice Ao12 t576.length co12) t576) ∧ zA (Kd.R (Kd.int .u8) 46 w' w.heap.size (fun _ => True) (.slice Ao16 t579.length co16) t579) ∧ zA (w'.heap[gb574]? = some (.cells #[.int .u8 a1_0, .int .u8 a1_1, .int .u8 a1_2, .int .u16 a1_3, .int .u16 a1_4, .float .f64 a1_5] 67 (0, 0))) ∧ zA (w'.heap[gb591]? = some (.cells #[(.slice Ao12 t576.length co12), (.slice Ao16 t579.length co16)] 35 (0, 0))) ∧ zA (w'.heap[gb592]? = some (.cells #[.int .i64 t585, .int .i64 t586, .int .u8 t587, .int .i64 t588, .int .i64 t589, .float .f64 t590] 58 (0, 0))) ∧ zA (w'.heap[gb594]? = some (.cells #[.int .i64 ((rd_T63 t582 x28_1).f0), .int .i64 ((rd_T63 t582 x28_1).f1), .int .i64 ((rd_T63 t582 x28_1).f2), .int .u8 ((rd_T63 t582 x28_1).f3)] 63 (0, 0))) ∧ zA (Below w.heap.size w w'))
              case atStart => exact ⟨(0), (0), (0), (by first | rfl | (simp; done) | (simp [*]; done)), (by first | rfl | (simp; done) | (simp [*]; done)), (by first | rfl | (simp; done) | (simp [*]; done)), H', ⟨Nat.le_refl _⟩, ⟨by (with_reducible repeat (first | apply Kd.R_alloc | apply Kd.R_drewN | apply Kd.R_drew)); exact HO_26.out⟩, ⟨by (with_reducible repeat (first | apply Kd.R_alloc | apply Kd.R_drewN | apply Kd.R_drew)); exact HO597.out⟩, ⟨by (with_reducible repeat (first | apply Kd.R_alloc | apply Kd.R_drewN | apply Kd.R_drew)); exact HO_592000.out⟩, ⟨by (with_reducible repeat (first | apply Kd.R_alloc | apply Kd.R_drewN | apply Kd.R_drew)); exact HO_592001.out⟩, ⟨by (with_reducible repeat (first | refine zC ?_ _ | refine zD ?_ | refine zB ?_ _)); exact BK574.out⟩, ⟨by (with_reducible repeat (first | refine zC ?_ _ | refine zD ?_ | refine zB ?_ _)); exact BK591.out⟩, ⟨by (with_reducible repeat (first | refine zC ?_ _ | refine zD ?_ | refine zB ?_ _)); exact BK592.out⟩, ⟨by (with_reducible repeat (first | refine zC ?_ _ | refine zD ?_ | refine zB ?_ _)); exact BK594.out⟩, ⟨by repeat (first | (with_reducible first | exact HB.out | apply zI | apply zF | apply zH | refine zE ?_ GE574.out | refine zE ?_ GE591.out | refine zE ?_ GE592.out | refine zE ?_ GE594.out) | exact HB.out)⟩⟩
              case round =>
                clear H'; try clear c1
                try clear c2
                try clear p2
                try clear c3
                try clear c4
                try clear p5
                try clear q5
                try clear hx5
                try clear c13
                try clear c14
                try clear c18
                try clear c22
                try clear c22b0
                try clear c23
                try clear c23b0
                try clear c24
                try clear c24b0
                try clear c27
                try clear c28
                try clear c29
                try clear c32
                try clear c33
                try clear c36
                try clear c37
                try clear hcz15_0
                try clear hcz15_1
                try clear hcz19_0
                try clear hcz19_1
                try clear hcz19_2
                try clear hcz19_3
                try clear hcz19_4
                try clear hcz19_5
                try clear hcz30_0
                try clear hcz30_1
                try clear hcz30_2
                try clear hcz30_3
                try clear hcz34_0
                try clear hcz34_1
                try clear hcz35_0
                try clear hcz35_1
                try clear hcz35_2
                try clear hcz35_3
                try clear hcz37_0
                try clear hcz37_1
                try clear hcz37_2
                try clear hcz37_3
                try clear hcz37_4
                try clear hcz37_5
                try clear hcz8_0
                try clear hcz8_1
                try clear hcz8_2
                try clear hcz8_3
                try clear hcz8_4
                try clear hcz8_5
                try clear hfz15_0
                try clear hfz15_1
                try clear hfz19_0
                try clear hfz19_1
                try clear hfz19_2
                try clear hfz19_3
                try clear hfz19_4
                try clear hfz19_5
                try clear hfz30_0
                try clear hfz30_1
                try clear hfz30_2
                try clear hfz30_3
                try clear hfz34_0
                try clear hfz34_1
                try clear hfz35_0
                try clear hfz35_1
                try clear hfz35_2
                try clear hfz35_3
                try clear hfz37_0
                try clear hfz37_1
                try clear hfz37_2
                try clear hfz37_3
                try clear hfz37_4
                try clear hfz37_5
                try clear hfz8_0
                try clear hfz8_1
                try clear hfz8_2
                try clear hfz8_3
                try clear hfz8_4
                try clear hfz8_5
                try clear hx593_0
                try clear hx593_1
                try clear hx593_2
                try clear hx593_3
                try clear p2
                try clear p593
                try clear q593
                obtain ⟨x11_2, x12_2, x38_2, rfl, rfl, rfl, HA, HK2, HO_26, HO_36, HO_592000, HO_592001, BK574, BK591, BK592, BK594, HB⟩ := hrel; cases gk with
                | zero => exact absurd HA.out (by simp [stanzalaw18_JustFills.l1])
                | succ k2 =>
                  have H := HA.out; clear HA; simp only [stanzalaw18_JustFills.l1] at H; by_cases c40 : x38_2 < (t595.length : Int)
                  · rw [if_pos c40] at H
                    have c40b0 : decide (x38_2 < (t595.length : Int)) = true := decide_eq_true c40
                    clear c40; by_cases c41 : 0 ≤ x38_2
                    · rw [if_pos c41] at H
                      have c41b0 : decide (0 ≤ x38_2) = true := decide_eq_true c41
                      clear c41; by_cases c42 : x38_2 < (t595.length : Int)
                      · rw [if_pos c42] at H
                        have c42b0 : decide (x38_2 < (t595.length : Int)) = true := decide_eq_true c42
                        clear c42; obtain ⟨ji43, hji43⟩ : ∃ j_ : Int, (wrap64 (((rd_T63 t582 x28_1).f0) + x38_2)) = j_ := ⟨_, rfl⟩; replace H : (if 0 ≤ (ji43) then (if (ji43) < (t576.length : Int) then (if ((rd_T41 t576 (ji43)).f3) = 1 then (if (rd t595 x38_2) < ((rd_T41 t576 (ji43)).f2) then (some false) else (stanzalaw18_JustFills.l1 k2 (wrap64 (x11_2 + (rd t595 x38_2))) (wrap64 (x12_2 + 1)) t582 (t582.length : Int) x28_1 t595 (t595.length : Int) (wrap64 (x38_2 + 1)) t576 t579 t585 t586 t587 t588 t589 t590 ((rd_T63 t582 x28_1).f0) ((rd_T63 t582 x28_1).f1) ((rd_T63 t582 x28_1).f2) ((rd_T63 t582 x28_1).f3))) else (if ((rd_T41 t576 (ji43)).f3) = 0 then (if (rd t595 x38_2) = ((rd_T41 t576 (ji43)).f2) then (stanzalaw18_JustFills.l1 k2 (wrap64 (x11_2 + (rd t595 x38_2))) x12_2 t582 (t582.length : Int) x28_1 t595 (t595.length : Int) (wrap64 (x38_2 + 1)) t576 t579 t585 t586 t587 t588 t589 t590 ((rd_T63 t582 x28_1).f0) ((rd_T63 t582 x28_1).f1) ((rd_T63 t582 x28_1).f2) ((rd_T63 t582 x28_1).f3)) else (some false)) else (stanzalaw18_JustFills.l1 k2 (wrap64 (x11_2 + (rd t595 x38_2))) x12_2 t582 (t582.length : Int) x28_1 t595 (t595.length : Int) (wrap64 (x38_2 + 1)) t576 t579 t585 t586 t587 t588 t589 t590 ((rd_T63 t582 x28_1).f0) ((rd_T63 t582 x28_1).f1) ((rd_T63 t582 x28_1).f2) ((rd_T63 t582 x28_1).f3)))) else (none)) else (none)) = some r := by first | (rw [hji43] at H; exact H) | (simp only [hji43] at H ⊢; exact H)
                        have hji43w : (IntKind.i64.wrap (((rd_T63 t582 x28_1).f0) + x38_2)) = ji43 := (zM _).trans hji43
                        by_cases c44 : 0 ≤ (ji43)
                        · rw [if_pos c44] at H
                          have c44b0 : decide (0 ≤ (ji43)) = true := decide_eq_true c44
                          clear c44; by_cases c45 : (ji43) < (t576.length : Int)
                          · rw [if_pos c45] at H
                            have c45b0 : decide ((ji43) < (t576.length : Int)) = true := decide_eq_true c45
                            clear c45; by_cases c46 : ((rd_T41 t576 (ji43)).f3) = 1
                            · rw [if_pos c46] at H
                              have c46b0 : (((rd_T41 t576 (ji43)).f3) == 1) = true := beq_iff_eq.mpr c46
                              have c46b1 : (((rd_T41 t576 (ji43)).f3) != 1) = false := bne_eq_false_iff_eq.mpr c46
                              clear c46; by_cases c47 : (rd t595 x38_2) < ((rd_T41 t576 (ji43)).f2)
                              · rw [if_pos c47] at H
                                have c47b0 : decide ((rd t595 x38_2) < ((rd_T41 t576 (ji43)).f2)) = true := decide_eq_true c47
                                clear c47; exact absurd ((Option.some.inj H).trans hrt_.out) (by decide)
                              · rw [if_neg c47] at H
                                have c47b0 : decide ((rd t595 x38_2) < ((rd_T41 t576 (ji43)).f2)) = false := decide_eq_false c47
                                clear c47; have H' := zA.mk H
                                clear H; have p598 : 0 ≤ (x38_2 : Int) := of_decide_eq_true (by first | (with_reducible assumption) | assumption)
                                have q598 : x38_2 < (t595.length : Int) := of_decide_eq_true (by first | (with_reducible assumption) | assumption)
                                obtain ⟨ad598, e598, hx598_0⟩ := Kd.at_int (Kd.R_reads' HO_36.out).2.2 x38_2 p598 q598; cases e598
                                replace p598 := eq_true p598; replace q598 := eq_true q598; have hnb48 := NB591_574.out; have hnc48 := NB574_591.out; have hnb49 := NB591_592.out; have hnc49 := NB592_591.out; have hnb50 := NB591_594.out; have hnc50 := NB594_591.out; have hcz51_0 : wr.cell? ⟨gb591, 0, none⟩ = some (.slice Ao12 t576.length co12) := (zG BK591.out 0).trans rfl
                                have hcz51_1 : wr.cell? ⟨gb591, 1, none⟩ = some (.slice Ao16 t579.length co16) := (zG BK591.out 1).trans rfl
                                have hfz51_0 := zJ BK591.out 0; have hfz51_1 := zJ BK591.out 1; have hnb52 := NB594_574.out; have hnc52 := NB574_594.out; have hnb53 := NB594_592.out; have hnc53 := NB592_594.out; have hcz54_0 : wr.cell? ⟨gb594, 0, none⟩ = some (.int .i64 ((rd_T63 t582 x28_1).f0)) := (zG BK594.out 0).trans rfl
                                have hcz54_1 : wr.cell? ⟨gb594, 1, none⟩ = some (.int .i64 ((rd_T63 t582 x28_1).f1)) := (zG BK594.out 1).trans rfl
                                have hcz54_2 : wr.cell? ⟨gb594, 2, none⟩ = some (.int .i64 ((rd_T63 t582 x28_1).f2)) := (zG BK594.out 2).trans rfl
                                have hcz54_3 : wr.cell? ⟨gb594, 3, none⟩ = some (.int .u8 ((rd_T63 t582 x28_1).f3)) := (zG BK594.out 3).trans rfl
                                have hfz54_0 := zJ BK594.out 0; have hfz54_1 := zJ BK594.out 1; have hfz54_2 := zJ BK594.out 2; have hfz54_3 := zJ BK594.out 3; have p599 : 0 ≤ ((ji43) : Int) := of_decide_eq_true (by first | (with_reducible assumption) | assumption)
                                have q599 : (ji43) < (t576.length : Int) := of_decide_eq_true (by first | (with_reducible assumption) | assumption)
                                obtain ⟨ad599, e599, hx599_0, hx599_1, hx599_2, hx599_3⟩ := at_T41 (Kd.R_reads' HO_592000.out).2.2 (ji43) p599 q599; cases e599
                                replace p599 := eq_true p599; replace q599 := eq_true q599; go_wp2_with (first | ((with_reducible refine gate_dst (N := 15) rfl ?_); refine box_event ?hg (N := 15) ?hd (cs := #[.int .i64 0, .int .i64 0, .int .i64 0, .int .u8 0]) (t := 41) ?hr ?_; (case hd => rfl); (case hg => rfl); (case hr => first | (go_simp; done) | (go_simp; rfl)); intro gb600 hg w55 hbox hb; have n0_ := zA.mk (Kd.R_below (by (with_reducible repeat (first | apply Kd.R_alloc | apply Kd.R_drewN | apply Kd.R_drew)); exact HO_26.out) hb); have n1_ := zA.mk (Kd.R_below (by (with_reducible repeat (first | apply Kd.R_alloc | apply Kd.R_drewN | apply Kd.R_drew)); exact HO_36.out) hb); have n2_ := zA.mk (Kd.R_below (Kd.R_elderB (by (with_reducible repeat (first | apply Kd.R_alloc | apply Kd.R_drewN | apply Kd.R_drew)); exact HO_592000.out) gb600 (Nat.le_of_eq hg.symm)) hb); have n3_ := zA.mk (Kd.R_below (by (with_reducible repeat (first | apply Kd.R_alloc | apply Kd.R_drewN | apply Kd.R_drew)); exact HO_592001.out) hb); have n4_ := zA.mk (zL (g := gb574) (o := .cells #[.int .u8 a1_0, .int .u8 a1_1, .int .u8 a1_2, .int .u16 a1_3, .int .u16 a1_4, .float .f64 a1_5] 67 (0, 0)) (by (with_reducible repeat (first | refine zC ?_ _ | refine zD ?_ | refine zB ?_ _)); exact BK574.out) hb); have n5_ := zA.mk (zL (g := gb591) (o := .cells #[.slice (some ad599) t576.length co12, .slice Ao16 t579.length co16] 35 (0, 0)) (by (with_reducible repeat (first | refine zC ?_ _ | refine zD ?_ | refine zB ?_ _)); exact BK591.out) hb); have n6_ := zA.mk (zL (g := gb592) (o := .cells #[.int .i64 t585, .int .i64 t586, .int .u8 t587, .int .i64 t588, .int .i64 t589, .float .f64 t590] 58 (0, 0)) (by (with_reducible repeat (first | refine zC ?_ _ | refine zD ?_ | refine zB ?_ _)); exact BK592.out) hb); have n7_ := zA.mk (zL (g := gb594) (o := .cells #[.int .i64 ((rd_T63 t582 x28_1).f0), .int .i64 ((rd_T63 t582 x28_1).f1), .int .i64 ((rd_T63 t582 x28_1).f2), .int .u8 ((rd_T63 t582 x28_1).f3)] 63 (0, 0)) (by (with_reducible repeat (first | refine zC ?_ _ | refine zD ?_ | refine zB ?_ _)); exact BK594.out) hb); have n8_ := zA.mk (zO (by repeat (first | (with_reducible first | exact HB.out | apply zI | apply zF | apply zH | refine zE ?_ GE574.out | refine zE ?_ GE591.out | refine zE ?_ GE592.out | refine zE ?_ GE594.out) | exact HB.out)) hb); have n9_ := zA.mk (hbox); have n10_ := zA.mk ((by rw [hg]; exact (zK (by repeat (first | (with_reducible first | exact HB.out | apply zI | apply zF | apply zH | refine zE ?_ GE574.out | refine zE ?_ GE591.out | refine zE ?_ GE592.out | refine zE ?_ GE594.out) | exact HB.out))) : w.heap.size ≤ gb600)); have n11_ := zA.mk ((by rw [hg]; exact (zK (by repeat (first | (with_reducible first | exact HB.out | apply zI | apply zF | apply zH | refine zE ?_ GE574.out | refine zE ?_ GE591.out | refine zE ?_ GE592.out | refine zE ?_ GE594.out) | exact HB.out))) : w.heap.size ≤ gb600)); have n12_ := zA.mk ((by rw [hg]; exact Nat.ne_of_lt (blk_lt (g := gb574) (o := .cells #[.int .u8 a1_0, .int .u8 a1_1, .int .u8 a1_2, .int .u16 a1_3, .int .u16 a1_4, .float .f64 a1_5] 67 (0, 0)) (by (with_reducible repeat (first | refine zC ?_ _ | refine zD ?_ | refine zB ?_ _)); exact BK574.out)) : gb574 ≠ gb600)); have n13_ := zA.mk ((by rw [hg]; exact Nat.ne_of_gt (blk_lt (g := gb574) (o := .cells #[.int .u8 a1_0, .int .u8 a1_1, .int .u8 a1_2, .int .u16 a1_3, .int .u16 a1_4, .float .f64 a1_5] 67 (0, 0)) (by (with_reducible repeat (first | refine zC ?_ _ | refine zD ?_ | refine zB ?_ _)); exact BK574.out)) : gb600 ≠ gb574)); have n14_ := zA.mk ((by rw [hg]; exact Nat.ne_of_lt (blk_lt (g := gb591) (o := .cells #[.slice (some ad599) t576.length co12, .slice Ao16 t579.length co16] 35 (0, 0)) (by (with_reducible repeat (first | refine zC ?_ _ | refine zD ?_ | refine zB ?_ _)); exact BK591.out)) : gb591 ≠ gb600)); have n15_ := zA.mk ((by rw [hg]; exact Nat.ne_of_gt (blk_lt (g := gb591) (o := .cells #[.slice (some ad599) t576.length co12, .slice Ao16 t579.length co16] 35 (0, 0)) (by (with_reducible repeat (first | refine zC ?_ _ | refine zD ?_ | refine zB ?_ _)); exact BK591.out)) : gb600 ≠ gb591)); have n16_ := zA.mk ((by rw [hg]; exact Nat.ne_of_lt (blk_lt (g := gb592) (o := .cells #[.int .i64 t585, .int .i64 t586, .int .u8 t587, .int .i64 t588, .int .i64 t589, .float .f64 t590] 58 (0, 0)) (by (with_reducible repeat (first | refine zC ?_ _ | refine zD ?_ | refine zB ?_ _)); exact BK592.out)) : gb592 ≠ gb600)); have n17_ := zA.mk ((by rw [hg]; exact Nat.ne_of_gt (blk_lt (g := gb592) (o := .cells #[.int .i64 t585, .int .i64 t586, .int .u8 t587, .int .i64 t588, .int .i64 t589, .float .f64 t590] 58 (0, 0)) (by (with_reducible repeat (first | refine zC ?_ _ | refine zD ?_ | refine zB ?_ _)); exact BK592.out)) : gb600 ≠ gb592)); have n18_ := zA.mk ((by rw [hg]; exact Nat.ne_of_lt (blk_lt (g := gb594) (o := .cells #[.int .i64 ((rd_T63 t582 x28_1).f0), .int .i64 ((rd_T63 t582 x28_1).f1), .int .i64 ((rd_T63 t582 x28_1).f2), .int .u8 ((rd_T63 t582 x28_1).f3)] 63 (0, 0)) (by (with_reducible repeat (first | refine zC ?_ _ | refine zD ?_ | refine zB ?_ _)); exact BK594.out)) : gb594 ≠ gb600)); have n19_ := zA.mk ((by rw [hg]; exact Nat.ne_of_gt (blk_lt (g := gb594) (o := .cells #[.int .i64 ((rd_T63 t582 x28_1).f0), .int .i64 ((rd_T63 t582 x28_1).f1), .int .i64 ((rd_T63 t582 x28_1).f2), .int .u8 ((rd_T63 t582 x28_1).f3)] 63 (0, 0)) (by (with_reducible repeat (first | refine zC ?_ _ | refine zD ?_ | refine zB ?_ _)); exact BK594.out)) : gb600 ≠ gb594)); clear HO_26; clear HO_36; clear HO_592000; clear HO_592001; clear BK574; clear BK591; clear BK592; clear BK594; clear HB; have HO_26 := n0_; have HO_36 := n1_; have HO_592000 := n2_; have HO_592001 := n3_; have BK574 := n4_; have BK591 := n5_; have BK592 := n6_; have BK594 := n7_; have HB := n8_; have BK600 := n9_; have GW600 := n10_; have GE600 := n11_; have NB574_600 := n12_; have NB600_574 := n13_; have NB591_600 := n14_; have NB600_591 := n15_; have NB592_600 := n16_; have NB600_592 := n17_; have NB594_600 := n18_; have NB600_594 := n19_; clear n0_ n1_ n2_ n3_ n4_ n5_ n6_ n7_ n8_ n9_ n10_ n11_ n12_ n13_ n14_ n15_ n16_ n17_ n18_ n19_; clear hb hbox hg; have hnb56 := NB600_574.out; have hnc56 := NB574_600.out; have hnb57 := NB600_591.out; have hnc57 := NB591_600.out; have hnb58 := NB600_592.out; have hnc58 := NB592_600.out; have hnb59 := NB600_594.out; have hnc59 := NB594_600.out; have hcz60_0 : w55.cell? ⟨gb600, 0, none⟩ = some (.int .i64 0) := (zG BK600.out 0).trans rfl; have hcz60_1 : w55.cell? ⟨gb600, 1, none⟩ = some (.int .i64 0) := (zG BK600.out 1).trans rfl; have hcz60_2 : w55.cell? ⟨gb600, 2, none⟩ = some (.int .i64 0) := (zG BK600.out 2).trans rfl; have hcz60_3 : w55.cell? ⟨gb600, 3, none⟩ = some (.int .u8 0) := (zG BK600.out 3).trans rfl; have hfz60_0 := zJ BK600.out 0; have hfz60_1 := zJ BK600.out 1; have hfz60_2 := zJ BK600.out 2; have hfz60_3 := zJ BK600.out 3) | ((with_reducible refine gate_store (t := 41) (p := 15) rfl ?_); refine store_event (t := 41) (p := 15) (v := ?vo_w61) (w1 := ((((w55.setCell ⟨gb600, 0, none⟩ (.int .i64 ((rd_T41 t576 (ji43)).f0))).setCell ⟨gb600, 1, none⟩ (.int .i64 ((rd_T41 t576 (ji43)).f1))).setCell ⟨gb600, 2, none⟩ (.int .i64 ((rd_T41 t576 (ji43)).f2))).setCell ⟨gb600, 3, none⟩ (.int .u8 ((rd_T41 t576 (ji43)).f3)))) ?hg ?ho ?hn ?hr ?_; (case ho => rfl); (case hg => rfl); (case hn => rfl); (case hr => first | (go_simp; done) | (go_simp; rfl)); intro w61 hw; have n0_ : zA (Kd.R k63 63 w61 w.heap.size (fun k_ => k_ ≠ gb594) (.slice (some ad593) t582.length co21) t582) := ⟨(by rw [hw]; exact (by (with_reducible repeat (first | apply Kd.R_alloc | apply Kd.R_drewN | apply Kd.R_drew)); exact Kd.R_mono (Kd.R_far (p := ⟨gb600, 3, none⟩) (Kd.R_far (p := ⟨gb600, 2, none⟩) (Kd.R_far (p := ⟨gb600, 1, none⟩) (Kd.R_far (p := ⟨gb600, 0, none⟩) (Kd.R_types HO_26.out BK600.out (by decide)) (fun _ hk => hk.2) (.int .i64 ((rd_T41 t576 (ji43)).f0))) (fun _ hk => hk.2) (.int .i64 ((rd_T41 t576 (ji43)).f1))) (fun _ hk => hk.2) (.int .i64 ((rd_T41 t576 (ji43)).f2))) (fun _ hk => hk.2) (.int .u8 ((rd_T41 t576 (ji43)).f3))) (fun _ hk => hk.1)))⟩; have n1_ : zA (Kd.R (Kd.int .i64) 3 w61 w.heap.size (fun _ => True) (.slice (some ad598) t595.length co39) t595) := ⟨(by rw [hw]; exact (by (with_reducible repeat (first | apply Kd.R_alloc | apply Kd.R_drewN | apply Kd.R_drew)); exact Kd.R_mono (Kd.R_far (p := ⟨gb600, 3, none⟩) (Kd.R_far (p := ⟨gb600, 2, none⟩) (Kd.R_far (p := ⟨gb600, 1, none⟩) (Kd.R_far (p := ⟨gb600, 0, none⟩) (Kd.R_types HO_36.out BK600.out (by decide)) (fun _ hk => hk.2) (.int .i64 ((rd_T41 t576 (ji43)).f0))) (fun _ hk => hk.2) (.int .i64 ((rd_T41 t576 (ji43)).f1))) (fun _ hk => hk.2) (.int .i64 ((rd_T41 t576 (ji43)).f2))) (fun _ hk => hk.2) (.int .u8 ((rd_T41 t576 (ji43)).f3))) (fun _ hk => trivial)))⟩; have n2_ : zA (Kd.R k41 41 w61 w.heap.size (fun k_ => k_ ≠ gb600) (.slice (some ad599) t576.length co12) t576) := ⟨(by rw [hw]; exact (by (with_reducible repeat (first | apply Kd.R_alloc | apply Kd.R_drewN | apply Kd.R_drew)); exact Kd.R_mono (Kd.R_far (p := ⟨gb600, 3, none⟩) (Kd.R_far (p := ⟨gb600, 2, none⟩) (Kd.R_far (p := ⟨gb600, 1, none⟩) (Kd.R_far (p := ⟨gb600, 0, none⟩) (Kd.R_mono HO_592000.out (fun k_ hk => (⟨hk, hk.2⟩ : _ ∧ k_ ≠ gb600))) (fun _ hk => hk.2) (.int .i64 ((rd_T41 t576 (ji43)).f0))) (fun _ hk => hk.2) (.int .i64 ((rd_T41 t576 (ji43)).f1))) (fun _ hk => hk.2) (.int .i64 ((rd_T41 t576 (ji43)).f2))) (fun _ hk => hk.2) (.int .u8 ((rd_T41 t576 (ji43)).f3))) (fun _ hk => hk.1.2)))⟩; have n3_ : zA (Kd.R (Kd.int .u8) 46 w61 w.heap.size (fun _ => True) (.slice Ao16 t579.length co16) t579) := ⟨(by rw [hw]; exact (by (with_reducible repeat (first | apply Kd.R_alloc | apply Kd.R_drewN | apply Kd.R_drew)); exact Kd.R_mono (Kd.R_far (p := ⟨gb600, 3, none⟩) (Kd.R_far (p := ⟨gb600, 2, none⟩) (Kd.R_far (p := ⟨gb600, 1, none⟩) (Kd.R_far (p := ⟨gb600, 0, none⟩) (Kd.R_types HO_592001.out BK600.out (by decide)) (fun _ hk => hk.2) (.int .i64 ((rd_T41 t576 (ji43)).f0))) (fun _ hk => hk.2) (.int .i64 ((rd_T41 t576 (ji43)).f1))) (fun _ hk => hk.2) (.int .i64 ((rd_T41 t576 (ji43)).f2))) (fun _ hk => hk.2) (.int .u8 ((rd_T41 t576 (ji43)).f3))) (fun _ hk => trivial)))⟩; have n4_ : zA (w61.heap[gb574]? = some (.cells #[.int .u8 a1_0, .int .u8 a1_1, .int .u8 a1_2, .int .u16 a1_3, .int .u16 a1_4, .float .f64 a1_5] 67 (0, 0))) := ⟨(by rw [hw]; exact (by (with_reducible repeat (first | refine zC ?_ _ | refine zD ?_ | refine zB ?_ _)); refine blk_far ?_ NB574_600.out _; (with_reducible repeat (first | refine zC ?_ _ | refine zD ?_ | refine zB ?_ _)); refine blk_far ?_ NB574_600.out _; (with_reducible repeat (first | refine zC ?_ _ | refine zD ?_ | refine zB ?_ _)); refine blk_far ?_ NB574_600.out _; (with_reducible repeat (first | refine zC ?_ _ | refine zD ?_ | refine zB ?_ _)); refine blk_far ?_ NB574_600.out _; (with_reducible repeat (first | refine zC ?_ _ | refine zD ?_ | refine zB ?_ _)); exact BK574.out))⟩; have n5_ : zA (w61.heap[gb591]? = some (.cells #[.slice (some ad599) t576.length co12, .slice Ao16 t579.length co16] 35 (0, 0))) := ⟨(by rw [hw]; exact (by (with_reducible repeat (first | refine zC ?_ _ | refine zD ?_ | refine zB ?_ _)); refine blk_far ?_ NB591_600.out _; (with_reducible repeat (first | refine zC ?_ _ | refine zD ?_ | refine zB ?_ _)); refine blk_far ?_ NB591_600.out _; (with_reducible repeat (first | refine zC ?_ _ | refine zD ?_ | refine zB ?_ _)); refine blk_far ?_ NB591_600.out _; (with_reducible repeat (first | refine zC ?_ _ | refine zD ?_ | refine zB ?_ _)); refine blk_far ?_ NB591_600.out _; (with_reducible repeat (first | refine zC ?_ _ | refine zD ?_ | refine zB ?_ _)); exact BK591.out))⟩; have n6_ : zA (w61.heap[gb592]? = some (.cells #[.int .i64 t585, .int .i64 t586, .int .u8 t587, .int .i64 t588, .int .i64 t589, .float .f64 t590] 58 (0, 0))) := ⟨(by rw [hw]; exact (by (with_reducible repeat (first | refine zC ?_ _ | refine zD ?_ | refine zB ?_ _)); refine blk_far ?_ NB592_600.out _; (with_reducible repeat (first | refine zC ?_ _ | refine zD ?_ | refine zB ?_ _)); refine blk_far ?_ NB592_600.out _; (with_reducible repeat (first | refine zC ?_ _ | refine zD ?_ | refine zB ?_ _)); refine blk_far ?_ NB592_600.out _; (with_reducible repeat (first | refine zC ?_ _ | refine zD ?_ | refine zB ?_ _)); refine blk_far ?_ NB592_600.out _; (with_reducible repeat (first | refine zC ?_ _ | refine zD ?_ | refine zB ?_ _)); exact BK592.out))⟩; have n7_ : zA (w61.heap[gb594]? = some (.cells #[.int .i64 ((rd_T63 t582 x28_1).f0), .int .i64 ((rd_T63 t582 x28_1).f1), .int .i64 ((rd_T63 t582 x28_1).f2), .int .u8 ((rd_T63 t582 x28_1).f3)] 63 (0, 0))) := ⟨(by rw [hw]; exact (by (with_reducible repeat (first | refine zC ?_ _ | refine zD ?_ | refine zB ?_ _)); refine blk_far ?_ NB594_600.out _; (with_reducible repeat (first | refine zC ?_ _ | refine zD ?_ | refine zB ?_ _)); refine blk_far ?_ NB594_600.out _; (with_reducible repeat (first | refine zC ?_ _ | refine zD ?_ | refine zB ?_ _)); refine blk_far ?_ NB594_600.out _; (with_reducible repeat (first | refine zC ?_ _ | refine zD ?_ | refine zB ?_ _)); refine blk_far ?_ NB594_600.out _; (with_reducible repeat (first | refine zC ?_ _ | refine zD ?_ | refine zB ?_ _)); exact BK594.out))⟩; have n8_ : zA (w61.heap[gb600]? = some (.cells #[.int .i64 ((rd_T41 t576 (ji43)).f0), .int .i64 ((rd_T41 t576 (ji43)).f1), .int .i64 ((rd_T41 t576 (ji43)).f2), .int .u8 ((rd_T41 t576 (ji43)).f3)] 41 (0, 0))) := ⟨(by rw [hw]; exact (by (with_reducible repeat (first | refine zC ?_ _ | refine zD ?_ | refine zB ?_ _)); refine blk_put (cs := #[.int .i64 ((rd_T41 t576 (ji43)).f0), .int .i64 ((rd_T41 t576 (ji43)).f1), .int .i64 ((rd_T41 t576 (ji43)).f2), .int .u8 0]) ?_ 3 _ rfl; (with_reducible repeat (first | refine zC ?_ _ | refine zD ?_ | refine zB ?_ _)); refine blk_put (cs := #[.int .i64 ((rd_T41 t576 (ji43)).f0), .int .i64 ((rd_T41 t576 (ji43)).f1), .int .i64 0, .int .u8 0]) ?_ 2 _ rfl; (with_reducible repeat (first | refine zC ?_ _ | refine zD ?_ | refine zB ?_ _)); refine blk_put (cs := #[.int .i64 ((rd_T41 t576 (ji43)).f0), .int .i64 0, .int .i64 0, .int .u8 0]) ?_ 1 _ rfl; (with_reducible repeat (first | refine zC ?_ _ | refine zD ?_ | refine zB ?_ _)); refine blk_put (cs := #[.int .i64 0, .int .i64 0, .int .i64 0, .int .u8 0]) ?_ 0 _ rfl; (with_reducible repeat (first | refine zC ?_ _ | refine zD ?_ | refine zB ?_ _)); exact BK600.out))⟩; have n9_ : zA (Below w.heap.size w w61) := ⟨(by rw [hw]; exact (by repeat (first | (with_reducible first | exact HB.out | apply zI | apply zF | apply zH | refine zE ?_ GE574.out | refine zE ?_ GE591.out | refine zE ?_ GE592.out | refine zE ?_ GE594.out | refine zE ?_ GE600.out) | exact HB.out)))⟩; clear hw; clear HO_26; clear HO_36; clear HO_592000; clear HO_592001; clear BK574; clear BK591; clear BK592; clear BK594; clear BK600; clear HB; have HO_26 := n0_; have HO_36 := n1_; have HO_592000 := n2_; have HO_592001 := n3_; have BK574 := n4_; have BK591 := n5_; have BK592 := n6_; have BK594 := n7_; have BK600 := n8_; have HB := n9_; clear n0_ n1_ n2_ n3_ n4_ n5_ n6_ n7_ n8_ n9_; have hcz62_0 : w61.cell? ⟨gb600, 0, none⟩ = some (.int .i64 ((rd_T41 t576 (ji43)).f0)) := (zG BK600.out 0).trans rfl; have hcz62_1 : w61.cell? ⟨gb600, 1, none⟩ = some (.int .i64 ((rd_T41 t576 (ji43)).f1)) := (zG BK600.out 1).trans rfl; have hcz62_2 : w61.cell? ⟨gb600, 2, none⟩ = some (.int .i64 ((rd_T41 t576 (ji43)).f2)) := (zG BK600.out 2).trans rfl; have hcz62_3 : w61.cell? ⟨gb600, 3, none⟩ = some (.int .u8 ((rd_T41 t576 (ji43)).f3)) := (zG BK600.out 3).trans rfl; have hfz62_0 := zJ BK600.out 0; have hfz62_1 := zJ BK600.out 1; have hfz62_2 := zJ BK600.out 2; have hfz62_3 := zJ BK600.out 3))
                                go_roundg k2
                                case measure => have := HK1.out; have := HK2.out; omega
                                case rel => exact ⟨(wrap64 (x11_2 + (rd t595 x38_2))), (wrap64 (x12_2 + 1)), (wrap64 (x38_2 + 1)), (by first | rfl | (simp; done) | (simp [*]; done)), (by first | rfl | (simp; done) | (simp [*]; done)), (by first | rfl | (simp; done) | (simp [*]; done)), H', ⟨by have := HK1.out; have := HK2.out; omega⟩, ⟨by (with_reducible repeat (first | apply Kd.R_alloc | apply Kd.R_drewN | apply Kd.R_drew)); exact HO_26.out⟩, ⟨by (with_reducible repeat (first | apply Kd.R_alloc | apply Kd.R_drewN | apply Kd.R_drew)); exact HO_36.out⟩, ⟨by (with_reducible repeat (first | apply Kd.R_alloc | apply Kd.R_drewN | apply Kd.R_drew)); exact Kd.R_mono HO_592000.out (fun _ hk => trivial)⟩, ⟨by (with_reducible repeat (first | apply Kd.R_alloc | apply Kd.R_drewN | apply Kd.R_drew)); exact HO_592001.out⟩, ⟨by (with_reducible repeat (first | refine zC ?_ _ | refine zD ?_ | refine zB ?_ _)); exact BK574.out⟩, ⟨by (with_reducible repeat (first | refine zC ?_ _ | refine zD ?_ | refine zB ?_ _)); exact BK591.out⟩, ⟨by (with_reducible repeat (first | refine zC ?_ _ | refine zD ?_ | refine zB ?_ _)); exact BK592.out⟩, ⟨by (with_reducible repeat (first | refine zC ?_ _ | refine zD ?_ | refine zB ?_ _)); exact BK594.out⟩, ⟨by repeat (first | (with_reducible first | exact HB.out | apply zI | apply zF | apply zH | refine zE ?_ GE574.out | refine zE ?_ GE591.out | refine zE ?_ GE592.out | refine zE ?_ GE594.out | refine zE ?_ GE600.out) | exact HB.out)⟩⟩
                            · rw [if_neg c46] at H
                              have c46b0 : (((rd_T41 t576 (ji43)).f3) == 1) = false := beq_eq_false_iff_ne.mpr c46
                              have c46b1 : (((rd_T41 t576 (ji43)).f3) != 1) = true := bne_iff_ne.mpr c46
                              by_cases c63 : ((rd_T41 t576 (ji43)).f3) = 0
                              · rw [if_pos c63] at H
                                have c63b0 : (((rd_T41 t576 (ji43)).f3) == 0) = true := beq_iff_eq.mpr c63
                                have c63b1 : (((rd_T41 t576 (ji43)).f3) != 0) = false := bne_eq_false_iff_eq.mpr c63
                                clear c63; by_cases c64 : (rd t595 x38_2) = ((rd_T41 t576 (ji43)).f2)
                                · rw [if_pos c64] at H
                                  have c64b0 : ((rd t595 x38_2) == ((rd_T41 t576 (ji43)).f2)) = true := beq_iff_eq.mpr c64
                                  have c64b1 : ((rd t595 x38_2) != ((rd_T41 t576 (ji43)).f2)) = false := bne_eq_false_iff_eq.mpr c64
                                  clear c64; have H' := zA.mk H
                                  clear H; have p598 : 0 ≤ (x38_2 : Int) := of_decide_eq_true (by first | (with_reducible assumption) | assumption)
                                  have q598 : x38_2 < (t595.length : Int) := of_decide_eq_true (by first | (with_reducible assumption) | assumption)
                                  obtain ⟨ad598, e598, hx598_0⟩ := Kd.at_int (Kd.R_reads' HO_36.out).2.2 x38_2 p598 q598; cases e598
                                  replace p598 := eq_true p598; replace q598 := eq_true q598; have hnb65 := NB591_574.out; have hnc65 := NB574_591.out; have hnb66 := NB591_592.out; have hnc66 := NB592_591.out; have hnb67 := NB591_594.out; have hnc67 := NB594_591.out; have hcz68_0 : wr.cell? ⟨gb591, 0, none⟩ = some (.slice Ao12 t576.length co12) := (zG BK591.out 0).trans rfl
                                  have hcz68_1 : wr.cell? ⟨gb591, 1, none⟩ = some (.slice Ao16 t579.length co16) := (zG BK591.out 1).trans rfl
                                  have hfz68_0 := zJ BK591.out 0; have hfz68_1 := zJ BK591.out 1; have hnb69 := NB594_574.out; have hnc69 := NB574_594.out; have hnb70 := NB594_592.out; have hnc70 := NB592_594.out; have hcz71_0 : wr.cell? ⟨gb594, 0, none⟩ = some (.int .i64 ((rd_T63 t582 x28_1).f0)) := (zG BK594.out 0).trans rfl
                                  have hcz71_1 : wr.cell? ⟨gb594, 1, none⟩ = some (.int .i64 ((rd_T63 t582 x28_1).f1)) := (zG BK594.out 1).trans rfl
                                  have hcz71_2 : wr.cell? ⟨gb594, 2, none⟩ = some (.int .i64 ((rd_T63 t582 x28_1).f2)) := (zG BK594.out 2).trans rfl
                                  have hcz71_3 : wr.cell? ⟨gb594, 3, none⟩ = some (.int .u8 ((rd_T63 t582 x28_1).f3)) := (zG BK594.out 3).trans rfl
                                  have hfz71_0 := zJ BK594.out 0; have hfz71_1 := zJ BK594.out 1; have hfz71_2 := zJ BK594.out 2; have hfz71_3 := zJ BK594.out 3; have p599 : 0 ≤ ((ji43) : Int) := of_decide_eq_true (by first | (with_reducible assumption) | assumption)
                                  have q599 : (ji43) < (t576.length : Int) := of_decide_eq_true (by first | (with_reducible assumption) | assumption)
                                  obtain ⟨ad599, e599, hx599_0, hx599_1, hx599_2, hx599_3⟩ := at_T41 (Kd.R_reads' HO_592000.out).2.2 (ji43) p599 q599; cases e599
                                  replace p599 := eq_true p599; replace q599 := eq_true q599; go_wp2_with (first | ((with_reducible refine gate_dst (N := 15) rfl ?_); refine box_event ?hg (N := 15) ?hd (cs := #[.int .i64 0, .int .i64 0, .int .i64 0, .int .u8 0]) (t := 41) ?hr ?_; (case hd => rfl); (case hg => rfl); (case hr => first | (go_simp; done) | (go_simp; rfl)); intro gb600 hg w72 hbox hb; have n0_ := zA.mk (Kd.R_below (by (with_reducible repeat (first | apply Kd.R_alloc | apply Kd.R_drewN | apply Kd.R_drew)); exact HO_26.out) hb); have n1_ := zA.mk (Kd.R_below (by (with_reducible repeat (first | apply Kd.R_alloc | apply Kd.R_drewN | apply Kd.R_drew)); exact HO_36.out) hb); have n2_ := zA.mk (Kd.R_below (Kd.R_elderB (by (with_reducible repeat (first | apply Kd.R_alloc | apply Kd.R_drewN | apply Kd.R_drew)); exact HO_592000.out) gb600 (Nat.le_of_eq hg.symm)) hb); have n3_ := zA.mk (Kd.R_below (by (with_reducible repeat (first | apply Kd.R_alloc | apply Kd.R_drewN | apply Kd.R_drew)); exact HO_592001.out) hb); have n4_ := zA.mk (zL (g := gb574) (o := .cells #[.int .u8 a1_0, .int .u8 a1_1, .int .u8 a1_2, .int .u16 a1_3, .int .u16 a1_4, .float .f64 a1_5] 67 (0, 0)) (by (with_reducible repeat (first | refine zC ?_ _ | refine zD ?_ | refine zB ?_ _)); exact BK574.out) hb); have n5_ := zA.mk (zL (g := gb591) (o := .cells #[.slice (some ad599) t576.length co12, .slice Ao16 t579.length co16] 35 (0, 0)) (by (with_reducible repeat (first | refine zC ?_ _ | refine zD ?_ | refine zB ?_ _)); exact BK591.out) hb); have n6_ := zA.mk (zL (g := gb592) (o := .cells #[.int .i64 t585, .int .i64 t586, .int .u8 t587, .int .i64 t588, .int .i64 t589, .float .f64 t590] 58 (0, 0)) (by (with_reducible repeat (first | refine zC ?_ _ | refine zD ?_ | refine zB ?_ _)); exact BK592.out) hb); have n7_ := zA.mk (zL (g := gb594) (o := .cells #[.int .i64 ((rd_T63 t582 x28_1).f0), .int .i64 ((rd_T63 t582 x28_1).f1), .int .i64 ((rd_T63 t582 x28_1).f2), .int .u8 ((rd_T63 t582 x28_1).f3)] 63 (0, 0)) (by (with_reducible repeat (first | refine zC ?_ _ | refine zD ?_ | refine zB ?_ _)); exact BK594.out) hb); have n8_ := zA.mk (zO (by repeat (first | (with_reducible first | exact HB.out | apply zI | apply zF | apply zH | refine zE ?_ GE574.out | refine zE ?_ GE591.out | refine zE ?_ GE592.out | refine zE ?_ GE594.out) | exact HB.out)) hb); have n9_ := zA.mk (hbox); have n10_ := zA.mk ((by rw [hg]; exact (zK (by repeat (first | (with_reducible first | exact HB.out | apply zI | apply zF | apply zH | refine zE ?_ GE574.out | refine zE ?_ GE591.out | refine zE ?_ GE592.out | refine zE ?_ GE594.out) | exact HB.out))) : w.heap.size ≤ gb600)); have n11_ := zA.mk ((by rw [hg]; exact (zK (by repeat (first | (with_reducible first | exact HB.out | apply zI | apply zF | apply zH | refine zE ?_ GE574.out | refine zE ?_ GE591.out | refine zE ?_ GE592.out | refine zE ?_ GE594.out) | exact HB.out))) : w.heap.size ≤ gb600)); have n12_ := zA.mk ((by rw [hg]; exact Nat.ne_of_lt (blk_lt (g := gb574) (o := .cells #[.int .u8 a1_0, .int .u8 a1_1, .int .u8 a1_2, .int .u16 a1_3, .int .u16 a1_4, .float .f64 a1_5] 67 (0, 0)) (by (with_reducible repeat (first | refine zC ?_ _ | refine zD ?_ | refine zB ?_ _)); exact BK574.out)) : gb574 ≠ gb600)); have n13_ := zA.mk ((by rw [hg]; exact Nat.ne_of_gt (blk_lt (g := gb574) (o := .cells #[.int .u8 a1_0, .int .u8 a1_1, .int .u8 a1_2, .int .u16 a1_3, .int .u16 a1_4, .float .f64 a1_5] 67 (0, 0)) (by (with_reducible repeat (first | refine zC ?_ _ | refine zD ?_ | refine zB ?_ _)); exact BK574.out)) : gb600 ≠ gb574)); have n14_ := zA.mk ((by rw [hg]; exact Nat.ne_of_lt (blk_lt (g := gb591) (o := .cells #[.slice (some ad599) t576.length co12, .slice Ao16 t579.length co16] 35 (0, 0)) (by (with_reducible repeat (first | refine zC ?_ _ | refine zD ?_ | refine zB ?_ _)); exact BK591.out)) : gb591 ≠ gb600)); have n15_ := zA.mk ((by rw [hg]; exact Nat.ne_of_gt (blk_lt (g := gb591) (o := .cells #[.slice (some ad599) t576.length co12, .slice Ao16 t579.length co16] 35 (0, 0)) (by (with_reducible repeat (first | refine zC ?_ _ | refine zD ?_ | refine zB ?_ _)); exact BK591.out)) : gb600 ≠ gb591)); have n16_ := zA.mk ((by rw [hg]; exact Nat.ne_of_lt (blk_lt (g := gb592) (o := .cells #[.int .i64 t585, .int .i64 t586, .int .u8 t587, .int .i64 t588, .int .i64 t589, .float .f64 t590] 58 (0, 0)) (by (with_reducible repeat (first | refine zC ?_ _ | refine zD ?_ | refine zB ?_ _)); exact BK592.out)) : gb592 ≠ gb600)); have n17_ := zA.mk ((by rw [hg]; exact Nat.ne_of_gt (blk_lt (g := gb592) (o := .cells #[.int .i64 t585, .int .i64 t586, .int .u8 t587, .int .i64 t588, .int .i64 t589, .float .f64 t590] 58 (0, 0)) (by (with_reducible repeat (first | refine zC ?_ _ | refine zD ?_ | refine zB ?_ _)); exact BK592.out)) : gb600 ≠ gb592)); have n18_ := zA.mk ((by rw [hg]; exact Nat.ne_of_lt (blk_lt (g := gb594) (o := .cells #[.int .i64 ((rd_T63 t582 x28_1).f0), .int .i64 ((rd_T63 t582 x28_1).f1), .int .i64 ((rd_T63 t582 x28_1).f2), .int .u8 ((rd_T63 t582 x28_1).f3)] 63 (0, 0)) (by (with_reducible repeat (first | refine zC ?_ _ | refine zD ?_ | refine zB ?_ _)); exact BK594.out)) : gb594 ≠ gb600)); have n19_ := zA.mk ((by rw [hg]; exact Nat.ne_of_gt (blk_lt (g := gb594) (o := .cells #[.int .i64 ((rd_T63 t582 x28_1).f0), .int .i64 ((rd_T63 t582 x28_1).f1), .int .i64 ((rd_T63 t582 x28_1).f2), .int .u8 ((rd_T63 t582 x28_1).f3)] 63 (0, 0)) (by (with_reducible repeat (first | refine zC ?_ _ | refine zD ?_ | refine zB ?_ _)); exact BK594.out)) : gb600 ≠ gb594)); clear HO_26; clear HO_36; clear HO_592000; clear HO_592001; clear BK574; clear BK591; clear BK592; clear BK594; clear HB; have HO_26 := n0_; have HO_36 := n1_; have HO_592000 := n2_; have HO_592001 := n3_; have BK574 := n4_; have BK591 := n5_; have BK592 := n6_; have BK594 := n7_; have HB := n8_; have BK600 := n9_; have GW600 := n10_; have GE600 := n11_; have NB574_600 := n12_; have NB600_574 := n13_; have NB591_600 := n14_; have NB600_591 := n15_; have NB592_600 := n16_; have NB600_592 := n17_; have NB594_600 := n18_; have NB600_594 := n19_; clear n0_ n1_ n2_ n3_ n4_ n5_ n6_ n7_ n8_ n9_ n10_ n11_ n12_ n13_ n14_ n15_ n16_ n17_ n18_ n19_; clear hb hbox hg; have hnb73 := NB600_574.out; have hnc73 := NB574_600.out; have hnb74 := NB600_591.out; have hnc74 := NB591_600.out; have hnb75 := NB600_592.out; have hnc75 := NB592_600.out; have hnb76 := NB600_594.out; have hnc76 := NB594_600.out; have hcz77_0 : w72.cell? ⟨gb600, 0, none⟩ = some (.int .i64 0) := (zG BK600.out 0).trans rfl; have hcz77_1 : w72.cell? ⟨gb600, 1, none⟩ = some (.int .i64 0) := (zG BK600.out 1).trans rfl; have hcz77_2 : w72.cell? ⟨gb600, 2, none⟩ = some (.int .i64 0) := (zG BK600.out 2).trans rfl; have hcz77_3 : w72.cell? ⟨gb600, 3, none⟩ = some (.int .u8 0) := (zG BK600.out 3).trans rfl; have hfz77_0 := zJ BK600.out 0; have hfz77_1 := zJ BK600.out 1; have hfz77_2 := zJ BK600.out 2; have hfz77_3 := zJ BK600.out 3) | ((with_reducible refine gate_store (t := 41) (p := 15) rfl ?_); refine store_event (t := 41) (p := 15) (v := ?vo_w78) (w1 := ((((w72.setCell ⟨gb600, 0, none⟩ (.int .i64 ((rd_T41 t576 (ji43)).f0))).setCell ⟨gb600, 1, none⟩ (.int .i64 ((rd_T41 t576 (ji43)).f1))).setCell ⟨gb600, 2, none⟩ (.int .i64 ((rd_T41 t576 (ji43)).f2))).setCell ⟨gb600, 3, none⟩ (.int .u8 ((rd_T41 t576 (ji43)).f3)))) ?hg ?ho ?hn ?hr ?_; (case ho => rfl); (case hg => rfl); (case hn => rfl); (case hr => first | (go_simp; done) | (go_simp; rfl)); intro w78 hw; have n0_ : zA (Kd.R k63 63 w78 w.heap.size (fun k_ => k_ ≠ gb594) (.slice (some ad593) t582.length co21) t582) := ⟨(by rw [hw]; exact (by (with_reducible repeat (first | apply Kd.R_alloc | apply Kd.R_drewN | apply Kd.R_drew)); exact Kd.R_mono (Kd.R_far (p := ⟨gb600, 3, none⟩) (Kd.R_far (p := ⟨gb600, 2, none⟩) (Kd.R_far (p := ⟨gb600, 1, none⟩) (Kd.R_far (p := ⟨gb600, 0, none⟩) (Kd.R_types HO_26.out BK600.out (by decide)) (fun _ hk => hk.2) (.int .i64 ((rd_T41 t576 (ji43)).f0))) (fun _ hk => hk.2) (.int .i64 ((rd_T41 t576 (ji43)).f1))) (fun _ hk => hk.2) (.int .i64 ((rd_T41 t576 (ji43)).f2))) (fun _ hk => hk.2) (.int .u8 ((rd_T41 t576 (ji43)).f3))) (fun _ hk => hk.1)))⟩; have n1_ : zA (Kd.R (Kd.int .i64) 3 w78 w.heap.size (fun _ => True) (.slice (some ad598) t595.length co39) t595) := ⟨(by rw [hw]; exact (by (with_reducible repeat (first | apply Kd.R_alloc | apply Kd.R_drewN | apply Kd.R_drew)); exact Kd.R_mono (Kd.R_far (p := ⟨gb600, 3, none⟩) (Kd.R_far (p := ⟨gb600, 2, none⟩) (Kd.R_far (p := ⟨gb600, 1, none⟩) (Kd.R_far (p := ⟨gb600, 0, none⟩) (Kd.R_types HO_36.out BK600.out (by decide)) (fun _ hk => hk.2) (.int .i64 ((rd_T41 t576 (ji43)).f0))) (fun _ hk => hk.2) (.int .i64 ((rd_T41 t576 (ji43)).f1))) (fun _ hk => hk.2) (.int .i64 ((rd_T41 t576 (ji43)).f2))) (fun _ hk => hk.2) (.int .u8 ((rd_T41 t576 (ji43)).f3))) (fun _ hk => trivial)))⟩; have n2_ : zA (Kd.R k41 41 w78 w.heap.size (fun k_ => k_ ≠ gb600) (.slice (some ad599) t576.length co12) t576) := ⟨(by rw [hw]; exact (by (with_reducible repeat (first | apply Kd.R_alloc | apply Kd.R_drewN | apply Kd.R_drew)); exact Kd.R_mono (Kd.R_far (p := ⟨gb600, 3, none⟩) (Kd.R_far (p := ⟨gb600, 2, none⟩) (Kd.R_far (p := ⟨gb600, 1, none⟩) (Kd.R_far (p := ⟨gb600, 0, none⟩) (Kd.R_mono HO_592000.out (fun k_ hk => (⟨hk, hk.2⟩ : _ ∧ k_ ≠ gb600))) (fun _ hk => hk.2) (.int .i64 ((rd_T41 t576 (ji43)).f0))) (fun _ hk => hk.2) (.int .i64 ((rd_T41 t576 (ji43)).f1))) (fun _ hk => hk.2) (.int .i64 ((rd_T41 t576 (ji43)).f2))) (fun _ hk => hk.2) (.int .u8 ((rd_T41 t576 (ji43)).f3))) (fun _ hk => hk.1.2)))⟩; have n3_ : zA (Kd.R (Kd.int .u8) 46 w78 w.heap.size (fun _ => True) (.slice Ao16 t579.length co16) t579) := ⟨(by rw [hw]; exact (by (with_reducible repeat (first | apply Kd.R_alloc | apply Kd.R_drewN | apply Kd.R_drew)); exact Kd.R_mono (Kd.R_far (p := ⟨gb600, 3, none⟩) (Kd.R_far (p := ⟨gb600, 2, none⟩) (Kd.R_far (p := ⟨gb600, 1, none⟩) (Kd.R_far (p := ⟨gb600, 0, none⟩) (Kd.R_types HO_592001.out BK600.out (by decide)) (fun _ hk => hk.2) (.int .i64 ((rd_T41 t576 (ji43)).f0))) (fun _ hk => hk.2) (.int .i64 ((rd_T41 t576 (ji43)).f1))) (fun _ hk => hk.2) (.int .i64 ((rd_T41 t576 (ji43)).f2))) (fun _ hk => hk.2) (.int .u8 ((rd_T41 t576 (ji43)).f3))) (fun _ hk => trivial)))⟩; have n4_ : zA (w78.heap[gb574]? = some (.cells #[.int .u8 a1_0, .int .u8 a1_1, .int .u8 a1_2, .int .u16 a1_3, .int .u16 a1_4, .float .f64 a1_5] 67 (0, 0))) := ⟨(by rw [hw]; exact (by (with_reducible repeat (first | refine zC ?_ _ | refine zD ?_ | refine zB ?_ _)); refine blk_far ?_ NB574_600.out _; (with_reducible repeat (first | refine zC ?_ _ | refine zD ?_ | refine zB ?_ _)); refine blk_far ?_ NB574_600.out _; (with_reducible repeat (first | refine zC ?_ _ | refine zD ?_ | refine zB ?_ _)); refine blk_far ?_ NB574_600.out _; (with_reducible repeat (first | refine zC ?_ _ | refine zD ?_ | refine zB ?_ _)); refine blk_far ?_ NB574_600.out _; (with_reducible repeat (first | refine zC ?_ _ | refine zD ?_ | refine zB ?_ _)); exact BK574.out))⟩; have n5_ : zA (w78.heap[gb591]? = some (.cells #[.slice (some ad599) t576.length co12, .slice Ao16 t579.length co16] 35 (0, 0))) := ⟨(by rw [hw]; exact (by (with_reducible repeat (first | refine zC ?_ _ | refine zD ?_ | refine zB ?_ _)); refine blk_far ?_ NB591_600.out _; (with_reducible repeat (first | refine zC ?_ _ | refine zD ?_ | refine zB ?_ _)); refine blk_far ?_ NB591_600.out _; (with_reducible repeat (first | refine zC ?_ _ | refine zD ?_ | refine zB ?_ _)); refine blk_far ?_ NB591_600.out _; (with_reducible repeat (first | refine zC ?_ _ | refine zD ?_ | refine zB ?_ _)); refine blk_far ?_ NB591_600.out _; (with_reducible repeat (first | refine zC ?_ _ | refine zD ?_ | refine zB ?_ _)); exact BK591.out))⟩; have n6_ : zA (w78.heap[gb592]? = some (.cells #[.int .i64 t585, .int .i64 t586, .int .u8 t587, .int .i64 t588, .int .i64 t589, .float .f64 t590] 58 (0, 0))) := ⟨(by rw [hw]; exact (by (with_reducible repeat (first | refine zC ?_ _ | refine zD ?_ | refine zB ?_ _)); refine blk_far ?_ NB592_600.out _; (with_reducible repeat (first | refine zC ?_ _ | refine zD ?_ | refine zB ?_ _)); refine blk_far ?_ NB592_600.out _; (with_reducible repeat (first | refine zC ?_ _ | refine zD ?_ | refine zB ?_ _)); refine blk_far ?_ NB592_600.out _; (with_reducible repeat (first | refine zC ?_ _ | refine zD ?_ | refine zB ?_ _)); refine blk_far ?_ NB592_600.out _; (with_reducible repeat (first | refine zC ?_ _ | refine zD ?_ | refine zB ?_ _)); exact BK592.out))⟩; have n7_ : zA (w78.heap[gb594]? = some (.cells #[.int .i64 ((rd_T63 t582 x28_1).f0), .int .i64 ((rd_T63 t582 x28_1).f1), .int .i64 ((rd_T63 t582 x28_1).f2), .int .u8 ((rd_T63 t582 x28_1).f3)] 63 (0, 0))) := ⟨(by rw [hw]; exact (by (with_reducible repeat (first | refine zC ?_ _ | refine zD ?_ | refine zB ?_ _)); refine blk_far ?_ NB594_600.out _; (with_reducible repeat (first | refine zC ?_ _ | refine zD ?_ | refine zB ?_ _)); refine blk_far ?_ NB594_600.out _; (with_reducible repeat (first | refine zC ?_ _ | refine zD ?_ | refine zB ?_ _)); refine blk_far ?_ NB594_600.out _; (with_reducible repeat (first | refine zC ?_ _ | refine zD ?_ | refine zB ?_ _)); refine blk_far ?_ NB594_600.out _; (with_reducible repeat (first | refine zC ?_ _ | refine zD ?_ | refine zB ?_ _)); exact BK594.out))⟩; have n8_ : zA (w78.heap[gb600]? = some (.cells #[.int .i64 ((rd_T41 t576 (ji43)).f0), .int .i64 ((rd_T41 t576 (ji43)).f1), .int .i64 ((rd_T41 t576 (ji43)).f2), .int .u8 ((rd_T41 t576 (ji43)).f3)] 41 (0, 0))) := ⟨(by rw [hw]; exact (by (with_reducible repeat (first | refine zC ?_ _ | refine zD ?_ | refine zB ?_ _)); refine blk_put (cs := #[.int .i64 ((rd_T41 t576 (ji43)).f0), .int .i64 ((rd_T41 t576 (ji43)).f1), .int .i64 ((rd_T41 t576 (ji43)).f2), .int .u8 0]) ?_ 3 _ rfl; (with_reducible repeat (first | refine zC ?_ _ | refine zD ?_ | refine zB ?_ _)); refine blk_put (cs := #[.int .i64 ((rd_T41 t576 (ji43)).f0), .int .i64 ((rd_T41 t576 (ji43)).f1), .int .i64 0, .int .u8 0]) ?_ 2 _ rfl; (with_reducible repeat (first | refine zC ?_ _ | refine zD ?_ | refine zB ?_ _)); refine blk_put (cs := #[.int .i64 ((rd_T41 t576 (ji43)).f0), .int .i64 0, .int .i64 0, .int .u8 0]) ?_ 1 _ rfl; (with_reducible repeat (first | refine zC ?_ _ | refine zD ?_ | refine zB ?_ _)); refine blk_put (cs := #[.int .i64 0, .int .i64 0, .int .i64 0, .int .u8 0]) ?_ 0 _ rfl; (with_reducible repeat (first | refine zC ?_ _ | refine zD ?_ | refine zB ?_ _)); exact BK600.out))⟩; have n9_ : zA (Below w.heap.size w w78) := ⟨(by rw [hw]; exact (by repeat (first | (with_reducible first | exact HB.out | apply zI | apply zF | apply zH | refine zE ?_ GE574.out | refine zE ?_ GE591.out | refine zE ?_ GE592.out | refine zE ?_ GE594.out | refine zE ?_ GE600.out) | exact HB.out)))⟩; clear hw; clear HO_26; clear HO_36; clear HO_592000; clear HO_592001; clear BK574; clear BK591; clear BK592; clear BK594; clear BK600; clear HB; have HO_26 := n0_; have HO_36 := n1_; have HO_592000 := n2_; have HO_592001 := n3_; have BK574 := n4_; have BK591 := n5_; have BK592 := n6_; have BK594 := n7_; have BK600 := n8_; have HB := n9_; clear n0_ n1_ n2_ n3_ n4_ n5_ n6_ n7_ n8_ n9_; have hcz79_0 : w78.cell? ⟨gb600, 0, none⟩ = some (.int .i64 ((rd_T41 t576 (ji43)).f0)) := (zG BK600.out 0).trans rfl; have hcz79_1 : w78.cell? ⟨gb600, 1, none⟩ = some (.int .i64 ((rd_T41 t576 (ji43)).f1)) := (zG BK600.out 1).trans rfl; have hcz79_2 : w78.cell? ⟨gb600, 2, none⟩ = some (.int .i64 ((rd_T41 t576 (ji43)).f2)) := (zG BK600.out 2).trans rfl; have hcz79_3 : w78.cell? ⟨gb600, 3, none⟩ = some (.int .u8 ((rd_T41 t576 (ji43)).f3)) := (zG BK600.out 3).trans rfl; have hfz79_0 := zJ BK600.out 0; have hfz79_1 := zJ BK600.out 1; have hfz79_2 := zJ BK600.out 2; have hfz79_3 := zJ BK600.out 3))
                                  go_roundg k2
                                  case measure => have := HK1.out; have := HK2.out; omega
                                  case rel => exact ⟨(wrap64 (x11_2 + (rd t595 x38_2))), (x12_2), (wrap64 (x38_2 + 1)), (by first | rfl | (simp; done) | (simp [*]; done)), (by first | rfl | (simp; done) | (simp [*]; done)), (by first | rfl | (simp; done) | (simp [*]; done)), H', ⟨by have := HK1.out; have := HK2.out; omega⟩, ⟨by (with_reducible repeat (first | apply Kd.R_alloc | apply Kd.R_drewN | apply Kd.R_drew)); exact HO_26.out⟩, ⟨by (with_reducible repeat (first | apply Kd.R_alloc | apply Kd.R_drewN | apply Kd.R_drew)); exact HO_36.out⟩, ⟨by (with_reducible repeat (first | apply Kd.R_alloc | apply Kd.R_drewN | apply Kd.R_drew)); exact Kd.R_mono HO_592000.out (fun _ hk => trivial)⟩, ⟨by (with_reducible repeat (first | apply Kd.R_alloc | apply Kd.R_drewN | apply Kd.R_drew)); exact HO_592001.out⟩, ⟨by (with_reducible repeat (first | refine zC ?_ _ | refine zD ?_ | refine zB ?_ _)); exact BK574.out⟩, ⟨by (with_reducible repeat (first | refine zC ?_ _ | refine zD ?_ | refine zB ?_ _)); exact BK591.out⟩, ⟨by (with_reducible repeat (first | refine zC ?_ _ | refine zD ?_ | refine zB ?_ _)); exact BK592.out⟩, ⟨by (with_reducible repeat (first | refine zC ?_ _ | refine zD ?_ | refine zB ?_ _)); exact BK594.out⟩, ⟨by repeat (first | (with_reducible first | exact HB.out | apply zI | apply zF | apply zH | refine zE ?_ GE574.out | refine zE ?_ GE591.out | refine zE ?_ GE592.out | refine zE ?_ GE594.out | refine zE ?_ GE600.out) | exact HB.out)⟩⟩
                                · rw [if_neg c64] at H
                                  have c64b0 : ((rd t595 x38_2) == ((rd_T41 t576 (ji43)).f2)) = false := beq_eq_false_iff_ne.mpr c64
                                  have c64b1 : ((rd t595 x38_2) != ((rd_T41 t576 (ji43)).f2)) = true := bne_iff_ne.mpr c64
                                  exact absurd ((Option.some.inj H).trans hrt_.out) (by decide)
                              · rw [if_neg c63] at H
                                have c63b0 : (((rd_T41 t576 (ji43)).f3) == 0) = false := beq_eq_false_iff_ne.mpr c63
                                have c63b1 : (((rd_T41 t576 (ji43)).f3) != 0) = true := bne_iff_ne.mpr c63
                                have H' := zA.mk H
                                clear H; have p598 : 0 ≤ (x38_2 : Int) := of_decide_eq_true (by first | (with_reducible assumption) | assumption)
                                have q598 : x38_2 < (t595.length : Int) := of_decide_eq_true (by first | (with_reducible assumption) | assumption)
                                obtain ⟨ad598, e598, hx598_0⟩ := Kd.at_int (Kd.R_reads' HO_36.out).2.2 x38_2 p598 q598; cases e598
                                replace p598 := eq_true p598; replace q598 := eq_true q598; have hnb80 := NB591_574.out; have hnc80 := NB574_591.out; have hnb81 := NB591_592.out; have hnc81 := NB592_591.out; have hnb82 := NB591_594.out; have hnc82 := NB594_591.out; have hcz83_0 : wr.cell? ⟨gb591, 0, none⟩ = some (.slice Ao12 t576.length co12) := (zG BK591.out 0).trans rfl
                                have hcz83_1 : wr.cell? ⟨gb591, 1, none⟩ = some (.slice Ao16 t579.length co16) := (zG BK591.out 1).trans rfl
                                have hfz83_0 := zJ BK591.out 0; have hfz83_1 := zJ BK591.out 1; have hnb84 := NB594_574.out; have hnc84 := NB574_594.out; have hnb85 := NB594_592.out; have hnc85 := NB592_594.out; have hcz86_0 : wr.cell? ⟨gb594, 0, none⟩ = some (.int .i64 ((rd_T63 t582 x28_1).f0)) := (zG BK594.out 0).trans rfl
                                have hcz86_1 : wr.cell? ⟨gb594, 1, none⟩ = some (.int .i64 ((rd_T63 t582 x28_1).f1)) := (zG BK594.out 1).trans rfl
                                have hcz86_2 : wr.cell? ⟨gb594, 2, none⟩ = some (.int .i64 ((rd_T63 t582 x28_1).f2)) := (zG BK594.out 2).trans rfl
                                have hcz86_3 : wr.cell? ⟨gb594, 3, none⟩ = some (.int .u8 ((rd_T63 t582 x28_1).f3)) := (zG BK594.out 3).trans rfl
                                have hfz86_0 := zJ BK594.out 0; have hfz86_1 := zJ BK594.out 1; have hfz86_2 := zJ BK594.out 2; have hfz86_3 := zJ BK594.out 3; have p599 : 0 ≤ ((ji43) : Int) := of_decide_eq_true (by first | (with_reducible assumption) | assumption)
                                have q599 : (ji43) < (t576.length : Int) := of_decide_eq_true (by first | (with_reducible assumption) | assumption)
                                obtain ⟨ad599, e599, hx599_0, hx599_1, hx599_2, hx599_3⟩ := at_T41 (Kd.R_reads' HO_592000.out).2.2 (ji43) p599 q599; cases e599
                                replace p599 := eq_true p599; replace q599 := eq_true q599; go_wp2_with (first | ((with_reducible refine gate_dst (N := 15) rfl ?_); refine box_event ?hg (N := 15) ?hd (cs := #[.int .i64 0, .int .i64 0, .int .i64 0, .int .u8 0]) (t := 41) ?hr ?_; (case hd => rfl); (case hg => rfl); (case hr => first | (go_simp; done) | (go_simp; rfl)); intro gb600 hg w87 hbox hb; have n0_ := zA.mk (Kd.R_below (by (with_reducible repeat (first | apply Kd.R_alloc | apply Kd.R_drewN | apply Kd.R_drew)); exact HO_26.out) hb); have n1_ := zA.mk (Kd.R_below (by (with_reducible repeat (first | apply Kd.R_alloc | apply Kd.R_drewN | apply Kd.R_drew)); exact HO_36.out) hb); have n2_ := zA.mk (Kd.R_below (Kd.R_elderB (by (with_reducible repeat (first | apply Kd.R_alloc | apply Kd.R_drewN | apply Kd.R_drew)); exact HO_592000.out) gb600 (Nat.le_of_eq hg.symm)) hb); have n3_ := zA.mk (Kd.R_below (by (with_reducible repeat (first | apply Kd.R_alloc | apply Kd.R_drewN | apply Kd.R_drew)); exact HO_592001.out) hb); have n4_ := zA.mk (zL (g := gb574) (o := .cells #[.int .u8 a1_0, .int .u8 a1_1, .int .u8 a1_2, .int .u16 a1_3, .int .u16 a1_4, .float .f64 a1_5] 67 (0, 0)) (by (with_reducible repeat (first | refine zC ?_ _ | refine zD ?_ | refine zB ?_ _)); exact BK574.out) hb); have n5_ := zA.mk (zL (g := gb591) (o := .cells #[.slice (some ad599) t576.length co12, .slice Ao16 t579.length co16] 35 (0, 0)) (by (with_reducible repeat (first | refine zC ?_ _ | refine zD ?_ | refine zB ?_ _)); exact BK591.out) hb); have n6_ := zA.mk (zL (g := gb592) (o := .cells #[.int .i64 t585, .int .i64 t586, .int .u8 t587, .int .i64 t588, .int .i64 t589, .float .f64 t590] 58 (0, 0)) (by (with_reducible repeat (first | refine zC ?_ _ | refine zD ?_ | refine zB ?_ _)); exact BK592.out) hb); have n7_ := zA.mk (zL (g := gb594) (o := .cells #[.int .i64 ((rd_T63 t582 x28_1).f0), .int .i64 ((rd_T63 t582 x28_1).f1), .int .i64 ((rd_T63 t582 x28_1).f2), .int .u8 ((rd_T63 t582 x28_1).f3)] 63 (0, 0)) (by (with_reducible repeat (first | refine zC ?_ _ | refine zD ?_ | refine zB ?_ _)); exact BK594.out) hb); have n8_ := zA.mk (zO (by repeat (first | (with_reducible first | exact HB.out | apply zI | apply zF | apply zH | refine zE ?_ GE574.out | refine zE ?_ GE591.out | refine zE ?_ GE592.out | refine zE ?_ GE594.out) | exact HB.out)) hb); have n9_ := zA.mk (hbox); have n10_ := zA.mk ((by rw [hg]; exact (zK (by repeat (first | (with_reducible first | exact HB.out | apply zI | apply zF | apply zH | refine zE ?_ GE574.out | refine zE ?_ GE591.out | refine zE ?_ GE592.out | refine zE ?_ GE594.out) | exact HB.out))) : w.heap.size ≤ gb600)); have n11_ := zA.mk ((by rw [hg]; exact (zK (by repeat (first | (with_reducible first | exact HB.out | apply zI | apply zF | apply zH | refine zE ?_ GE574.out | refine zE ?_ GE591.out | refine zE ?_ GE592.out | refine zE ?_ GE594.out) | exact HB.out))) : w.heap.size ≤ gb600)); have n12_ := zA.mk ((by rw [hg]; exact Nat.ne_of_lt (blk_lt (g := gb574) (o := .cells #[.int .u8 a1_0, .int .u8 a1_1, .int .u8 a1_2, .int .u16 a1_3, .int .u16 a1_4, .float .f64 a1_5] 67 (0, 0)) (by (with_reducible repeat (first | refine zC ?_ _ | refine zD ?_ | refine zB ?_ _)); exact BK574.out)) : gb574 ≠ gb600)); have n13_ := zA.mk ((by rw [hg]; exact Nat.ne_of_gt (blk_lt (g := gb574) (o := .cells #[.int .u8 a1_0, .int .u8 a1_1, .int .u8 a1_2, .int .u16 a1_3, .int .u16 a1_4, .float .f64 a1_5] 67 (0, 0)) (by (with_reducible repeat (first | refine zC ?_ _ | refine zD ?_ | refine zB ?_ _)); exact BK574.out)) : gb600 ≠ gb574)); have n14_ := zA.mk ((by rw [hg]; exact Nat.ne_of_lt (blk_lt (g := gb591) (o := .cells #[.slice (some ad599) t576.length co12, .slice Ao16 t579.length co16] 35 (0, 0)) (by (with_reducible repeat (first | refine zC ?_ _ | refine zD ?_ | refine zB ?_ _)); exact BK591.out)) : gb591 ≠ gb600)); have n15_ := zA.mk ((by rw [hg]; exact Nat.ne_of_gt (blk_lt (g := gb591) (o := .cells #[.slice (some ad599) t576.length co12, .slice Ao16 t579.length co16] 35 (0, 0)) (by (with_reducible repeat (first | refine zC ?_ _ | refine zD ?_ | refine zB ?_ _)); exact BK591.out)) : gb600 ≠ gb591)); have n16_ := zA.mk ((by rw [hg]; exact Nat.ne_of_lt (blk_lt (g := gb592) (o := .cells #[.int .i64 t585, .int .i64 t586, .int .u8 t587, .int .i64 t588, .int .i64 t589, .float .f64 t590] 58 (0, 0)) (by (with_reducible repeat (first | refine zC ?_ _ | refine zD ?_ | refine zB ?_ _)); exact BK592.out)) : gb592 ≠ gb600)); have n17_ := zA.mk ((by rw [hg]; exact Nat.ne_of_gt (blk_lt (g := gb592) (o := .cells #[.int .i64 t585, .int .i64 t586, .int .u8 t587, .int .i64 t588, .int .i64 t589, .float .f64 t590] 58 (0, 0)) (by (with_reducible repeat (first | refine zC ?_ _ | refine zD ?_ | refine zB ?_ _)); exact BK592.out)) : gb600 ≠ gb592)); have n18_ := zA.mk ((by rw [hg]; exact Nat.ne_of_lt (blk_lt (g := gb594) (o := .cells #[.int .i64 ((rd_T63 t582 x28_1).f0), .int .i64 ((rd_T63 t582 x28_1).f1), .int .i64 ((rd_T63 t582 x28_1).f2), .int .u8 ((rd_T63 t582 x28_1).f3)] 63 (0, 0)) (by (with_reducible repeat (first | refine zC ?_ _ | refine zD ?_ | refine zB ?_ _)); exact BK594.out)) : gb594 ≠ gb600)); have n19_ := zA.mk ((by rw [hg]; exact Nat.ne_of_gt (blk_lt (g := gb594) (o := .cells #[.int .i64 ((rd_T63 t582 x28_1).f0), .int .i64 ((rd_T63 t582 x28_1).f1), .int .i64 ((rd_T63 t582 x28_1).f2), .int .u8 ((rd_T63 t582 x28_1).f3)] 63 (0, 0)) (by (with_reducible repeat (first | refine zC ?_ _ | refine zD ?_ | refine zB ?_ _)); exact BK594.out)) : gb600 ≠ gb594)); clear HO_26; clear HO_36; clear HO_592000; clear HO_592001; clear BK574; clear BK591; clear BK592; clear BK594; clear HB; have HO_26 := n0_; have HO_36 := n1_; have HO_592000 := n2_; have HO_592001 := n3_; have BK574 := n4_; have BK591 := n5_; have BK592 := n6_; have BK594 := n7_; have HB := n8_; have BK600 := n9_; have GW600 := n10_; have GE600 := n11_; have NB574_600 := n12_; have NB600_574 := n13_; have NB591_600 := n14_; have NB600_591 := n15_; have NB592_600 := n16_; have NB600_592 := n17_; have NB594_600 := n18_; have NB600_594 := n19_; clear n0_ n1_ n2_ n3_ n4_ n5_ n6_ n7_ n8_ n9_ n10_ n11_ n12_ n13_ n14_ n15_ n16_ n17_ n18_ n19_; clear hb hbox hg; have hnb88 := NB600_574.out; have hnc88 := NB574_600.out; have hnb89 := NB600_591.out; have hnc89 := NB591_600.out; have hnb90 := NB600_592.out; have hnc90 := NB592_600.out; have hnb91 := NB600_594.out; have hnc91 := NB594_600.out; have hcz92_0 : w87.cell? ⟨gb600, 0, none⟩ = some (.int .i64 0) := (zG BK600.out 0).trans rfl; have hcz92_1 : w87.cell? ⟨gb600, 1, none⟩ = some (.int .i64 0) := (zG BK600.out 1).trans rfl; have hcz92_2 : w87.cell? ⟨gb600, 2, none⟩ = some (.int .i64 0) := (zG BK600.out 2).trans rfl; have hcz92_3 : w87.cell? ⟨gb600, 3, none⟩ = some (.int .u8 0) := (zG BK600.out 3).trans rfl; have hfz92_0 := zJ BK600.out 0; have hfz92_1 := zJ BK600.out 1; have hfz92_2 := zJ BK600.out 2; have hfz92_3 := zJ BK600.out 3) | ((with_reducible refine gate_store (t := 41) (p := 15) rfl ?_); refine store_event (t := 41) (p := 15) (v := ?vo_w93) (w1 := ((((w87.setCell ⟨gb600, 0, none⟩ (.int .i64 ((rd_T41 t576 (ji43)).f0))).setCell ⟨gb600, 1, none⟩ (.int .i64 ((rd_T41 t576 (ji43)).f1))).setCell ⟨gb600, 2, none⟩ (.int .i64 ((rd_T41 t576 (ji43)).f2))).setCell ⟨gb600, 3, none⟩ (.int .u8 ((rd_T41 t576 (ji43)).f3)))) ?hg ?ho ?hn ?hr ?_; (case ho => rfl); (case hg => rfl); (case hn => rfl); (case hr => first | (go_simp; done) | (go_simp; rfl)); intro w93 hw; have n0_ : zA (Kd.R k63 63 w93 w.heap.size (fun k_ => k_ ≠ gb594) (.slice (some ad593) t582.length co21) t582) := ⟨(by rw [hw]; exact (by (with_reducible repeat (first | apply Kd.R_alloc | apply Kd.R_drewN | apply Kd.R_drew)); exact Kd.R_mono (Kd.R_far (p := ⟨gb600, 3, none⟩) (Kd.R_far (p := ⟨gb600, 2, none⟩) (Kd.R_far (p := ⟨gb600, 1, none⟩) (Kd.R_far (p := ⟨gb600, 0, none⟩) (Kd.R_types HO_26.out BK600.out (by decide)) (fun _ hk => hk.2) (.int .i64 ((rd_T41 t576 (ji43)).f0))) (fun _ hk => hk.2) (.int .i64 ((rd_T41 t576 (ji43)).f1))) (fun _ hk => hk.2) (.int .i64 ((rd_T41 t576 (ji43)).f2))) (fun _ hk => hk.2) (.int .u8 ((rd_T41 t576 (ji43)).f3))) (fun _ hk => hk.1)))⟩; have n1_ : zA (Kd.R (Kd.int .i64) 3 w93 w.heap.size (fun _ => True) (.slice (some ad598) t595.length co39) t595) := ⟨(by rw [hw]; exact (by (with_reducible repeat (first | apply Kd.R_alloc | apply Kd.R_drewN | apply Kd.R_drew)); exact Kd.R_mono (Kd.R_far (p := ⟨gb600, 3, none⟩) (Kd.R_far (p := ⟨gb600, 2, none⟩) (Kd.R_far (p := ⟨gb600, 1, none⟩) (Kd.R_far (p := ⟨gb600, 0, none⟩) (Kd.R_types HO_36.out BK600.out (by decide)) (fun _ hk => hk.2) (.int .i64 ((rd_T41 t576 (ji43)).f0))) (fun _ hk => hk.2) (.int .i64 ((rd_T41 t576 (ji43)).f1))) (fun _ hk => hk.2) (.int .i64 ((rd_T41 t576 (ji43)).f2))) (fun _ hk => hk.2) (.int .u8 ((rd_T41 t576 (ji43)).f3))) (fun _ hk => trivial)))⟩; have n2_ : zA (Kd.R k41 41 w93 w.heap.size (fun k_ => k_ ≠ gb600) (.slice (some ad599) t576.length co12) t576) := ⟨(by rw [hw]; exact (by (with_reducible repeat (first | apply Kd.R_alloc | apply Kd.R_drewN | apply Kd.R_drew)); exact Kd.R_mono (Kd.R_far (p := ⟨gb600, 3, none⟩) (Kd.R_far (p := ⟨gb600, 2, none⟩) (Kd.R_far (p := ⟨gb600, 1, none⟩) (Kd.R_far (p := ⟨gb600, 0, none⟩) (Kd.R_mono HO_592000.out (fun k_ hk => (⟨hk, hk.2⟩ : _ ∧ k_ ≠ gb600))) (fun _ hk => hk.2) (.int .i64 ((rd_T41 t576 (ji43)).f0))) (fun _ hk => hk.2) (.int .i64 ((rd_T41 t576 (ji43)).f1))) (fun _ hk => hk.2) (.int .i64 ((rd_T41 t576 (ji43)).f2))) (fun _ hk => hk.2) (.int .u8 ((rd_T41 t576 (ji43)).f3))) (fun _ hk => hk.1.2)))⟩; have n3_ : zA (Kd.R (Kd.int .u8) 46 w93 w.heap.size (fun _ => True) (.slice Ao16 t579.length co16) t579) := ⟨(by rw [hw]; exact (by (with_reducible repeat (first | apply Kd.R_alloc | apply Kd.R_drewN | apply Kd.R_drew)); exact Kd.R_mono (Kd.R_far (p := ⟨gb600, 3, none⟩) (Kd.R_far (p := ⟨gb600, 2, none⟩) (Kd.R_far (p := ⟨gb600, 1, none⟩) (Kd.R_far (p := ⟨gb600, 0, none⟩) (Kd.R_types HO_592001.out BK600.out (by decide)) (fun _ hk => hk.2) (.int .i64 ((rd_T41 t576 (ji43)).f0))) (fun _ hk => hk.2) (.int .i64 ((rd_T41 t576 (ji43)).f1))) (fun _ hk => hk.2) (.int .i64 ((rd_T41 t576 (ji43)).f2))) (fun _ hk => hk.2) (.int .u8 ((rd_T41 t576 (ji43)).f3))) (fun _ hk => trivial)))⟩; have n4_ : zA (w93.heap[gb574]? = some (.cells #[.int .u8 a1_0, .int .u8 a1_1, .int .u8 a1_2, .int .u16 a1_3, .int .u16 a1_4, .float .f64 a1_5] 67 (0, 0))) := ⟨(by rw [hw]; exact (by (with_reducible repeat (first | refine zC ?_ _ | refine zD ?_ | refine zB ?_ _)); refine blk_far ?_ NB574_600.out _; (with_reducible repeat (first | refine zC ?_ _ | refine zD ?_ | refine zB ?_ _)); refine blk_far ?_ NB574_600.out _; (with_reducible repeat (first | refine zC ?_ _ | refine zD ?_ | refine zB ?_ _)); refine blk_far ?_ NB574_600.out _; (with_reducible repeat (first | refine zC ?_ _ | refine zD ?_ | refine zB ?_ _)); refine blk_far ?_ NB574_600.out _; (with_reducible repeat (first | refine zC ?_ _ | refine zD ?_ | refine zB ?_ _)); exact BK574.out))⟩; have n5_ : zA (w93.heap[gb591]? = some (.cells #[.slice (some ad599) t576.length co12, .slice Ao16 t579.length co16] 35 (0, 0))) := ⟨(by rw [hw]; exact (by (with_reducible repeat (first | refine zC ?_ _ | refine zD ?_ | refine zB ?_ _)); refine blk_far ?_ NB591_600.out _; (with_reducible repeat (first | refine zC ?_ _ | refine zD ?_ | refine zB ?_ _)); refine blk_far ?_ NB591_600.out _; (with_reducible repeat (first | refine zC ?_ _ | refine zD ?_ | refine zB ?_ _)); refine blk_far ?_ NB591_600.out _; (with_reducible repeat (first | refine zC ?_ _ | refine zD ?_ | refine zB ?_ _)); refine blk_far ?_ NB591_600.out _; (with_reducible repeat (first | refine zC ?_ _ | refine zD ?_ | refine zB ?_ _)); exact BK591.out))⟩; have n6_ : zA (w93.heap[gb592]? = some (.cells #[.int .i64 t585, .int .i64 t586, .int .u8 t587, .int .i64 t588, .int .i64 t589, .float .f64 t590] 58 (0, 0))) := ⟨(by rw [hw]; exact (by (with_reducible repeat (first | refine zC ?_ _ | refine zD ?_ | refine zB ?_ _)); refine blk_far ?_ NB592_600.out _; (with_reducible repeat (first | refine zC ?_ _ | refine zD ?_ | refine zB ?_ _)); refine blk_far ?_ NB592_600.out _; (with_reducible repeat (first | refine zC ?_ _ | refine zD ?_ | refine zB ?_ _)); refine blk_far ?_ NB592_600.out _; (with_reducible repeat (first | refine zC ?_ _ | refine zD ?_ | refine zB ?_ _)); refine blk_far ?_ NB592_600.out _; (with_reducible repeat (first | refine zC ?_ _ | refine zD ?_ | refine zB ?_ _)); exact BK592.out))⟩; have n7_ : zA (w93.heap[gb594]? = some (.cells #[.int .i64 ((rd_T63 t582 x28_1).f0), .int .i64 ((rd_T63 t582 x28_1).f1), .int .i64 ((rd_T63 t582 x28_1).f2), .int .u8 ((rd_T63 t582 x28_1).f3)] 63 (0, 0))) := ⟨(by rw [hw]; exact (by (with_reducible repeat (first | refine zC ?_ _ | refine zD ?_ | refine zB ?_ _)); refine blk_far ?_ NB594_600.out _; (with_reducible repeat (first | refine zC ?_ _ | refine zD ?_ | refine zB ?_ _)); refine blk_far ?_ NB594_600.out _; (with_reducible repeat (first | refine zC ?_ _ | refine zD ?_ | refine zB ?_ _)); refine blk_far ?_ NB594_600.out _; (with_reducible repeat (first | refine zC ?_ _ | refine zD ?_ | refine zB ?_ _)); refine blk_far ?_ NB594_600.out _; (with_reducible repeat (first | refine zC ?_ _ | refine zD ?_ | refine zB ?_ _)); exact BK594.out))⟩; have n8_ : zA (w93.heap[gb600]? = some (.cells #[.int .i64 ((rd_T41 t576 (ji43)).f0), .int .i64 ((rd_T41 t576 (ji43)).f1), .int .i64 ((rd_T41 t576 (ji43)).f2), .int .u8 ((rd_T41 t576 (ji43)).f3)] 41 (0, 0))) := ⟨(by rw [hw]; exact (by (with_reducible repeat (first | refine zC ?_ _ | refine zD ?_ | refine zB ?_ _)); refine blk_put (cs := #[.int .i64 ((rd_T41 t576 (ji43)).f0), .int .i64 ((rd_T41 t576 (ji43)).f1), .int .i64 ((rd_T41 t576 (ji43)).f2), .int .u8 0]) ?_ 3 _ rfl; (with_reducible repeat (first | refine zC ?_ _ | refine zD ?_ | refine zB ?_ _)); refine blk_put (cs := #[.int .i64 ((rd_T41 t576 (ji43)).f0), .int .i64 ((rd_T41 t576 (ji43)).f1), .int .i64 0, .int .u8 0]) ?_ 2 _ rfl; (with_reducible repeat (first | refine zC ?_ _ | refine zD ?_ | refine zB ?_ _)); refine blk_put (cs := #[.int .i64 ((rd_T41 t576 (ji43)).f0), .int .i64 0, .int .i64 0, .int .u8 0]) ?_ 1 _ rfl; (with_reducible repeat (first | refine zC ?_ _ | refine zD ?_ | refine zB ?_ _)); refine blk_put (cs := #[.int .i64 0, .int .i64 0, .int .i64 0, .int .u8 0]) ?_ 0 _ rfl; (with_reducible repeat (first | refine zC ?_ _ | refine zD ?_ | refine zB ?_ _)); exact BK600.out))⟩; have n9_ : zA (Below w.heap.size w w93) := ⟨(by rw [hw]; exact (by repeat (first | (with_reducible first | exact HB.out | apply zI | apply zF | apply zH | refine zE ?_ GE574.out | refine zE ?_ GE591.out | refine zE ?_ GE592.out | refine zE ?_ GE594.out | refine zE ?_ GE600.out) | exact HB.out)))⟩; clear hw; clear HO_26; clear HO_36; clear HO_592000; clear HO_592001; clear BK574; clear BK591; clear BK592; clear BK594; clear BK600; clear HB; have HO_26 := n0_; have HO_36 := n1_; have HO_592000 := n2_; have HO_592001 := n3_; have BK574 := n4_; have BK591 := n5_; have BK592 := n6_; have BK594 := n7_; have BK600 := n8_; have HB := n9_; clear n0_ n1_ n2_ n3_ n4_ n5_ n6_ n7_ n8_ n9_; have hcz94_0 : w93.cell? ⟨gb600, 0, none⟩ = some (.int .i64 ((rd_T41 t576 (ji43)).f0)) := (zG BK600.out 0).trans rfl; have hcz94_1 : w93.cell? ⟨gb600, 1, none⟩ = some (.int .i64 ((rd_T41 t576 (ji43)).f1)) := (zG BK600.out 1).trans rfl; have hcz94_2 : w93.cell? ⟨gb600, 2, none⟩ = some (.int .i64 ((rd_T41 t576 (ji43)).f2)) := (zG BK600.out 2).trans rfl; have hcz94_3 : w93.cell? ⟨gb600, 3, none⟩ = some (.int .u8 ((rd_T41 t576 (ji43)).f3)) := (zG BK600.out 3).trans rfl; have hfz94_0 := zJ BK600.out 0; have hfz94_1 := zJ BK600.out 1; have hfz94_2 := zJ BK600.out 2; have hfz94_3 := zJ BK600.out 3))
                                go_roundg k2
                                case measure => have := HK1.out; have := HK2.out; omega
                                case rel => exact ⟨(wrap64 (x11_2 + (rd t595 x38_2))), (x12_2), (wrap64 (x38_2 + 1)), (by first | rfl | (simp; done) | (simp [*]; done)), (by first | rfl | (simp; done) | (simp [*]; done)), (by first | rfl | (simp; done) | (simp [*]; done)), H', ⟨by have := HK1.out; have := HK2.out; omega⟩, ⟨by (with_reducible repeat (first | apply Kd.R_alloc | apply Kd.R_drewN | apply Kd.R_drew)); exact HO_26.out⟩, ⟨by (with_reducible repeat (first | apply Kd.R_alloc | apply Kd.R_drewN | apply Kd.R_drew)); exact HO_36.out⟩, ⟨by (with_reducible repeat (first | apply Kd.R_alloc | apply Kd.R_drewN | apply Kd.R_drew)); exact Kd.R_mono HO_592000.out (fun _ hk => trivial)⟩, ⟨by (with_reducible repeat (first | apply Kd.R_alloc | apply Kd.R_drewN | apply Kd.R_drew)); exact HO_592001.out⟩, ⟨by (with_reducible repeat (first | refine zC ?_ _ | refine zD ?_ | refine zB ?_ _)); exact BK574.out⟩, ⟨by (with_reducible repeat (first | refine zC ?_ _ | refine zD ?_ | refine zB ?_ _)); exact BK591.out⟩, ⟨by (with_reducible repeat (first | refine zC ?_ _ | refine zD ?_ | refine zB ?_ _)); exact BK592.out⟩, ⟨by (with_reducible repeat (first | refine zC ?_ _ | refine zD ?_ | refine zB ?_ _)); exact BK594.out⟩, ⟨by repeat (first | (with_reducible first | exact HB.out | apply zI | apply zF | apply zH | refine zE ?_ GE574.out | refine zE ?_ GE591.out | refine zE ?_ GE592.out | refine zE ?_ GE594.out | refine zE ?_ GE600.out) | exact HB.out)⟩⟩
                          · rw [if_neg c45] at H
                            exact absurd H (by simp)
                        · rw [if_neg c44] at H
                          exact absurd H (by simp)
                      · rw [if_neg c42] at H
                        exact absurd H (by simp)
                    · rw [if_neg c41] at H
                      exact absurd H (by simp)
                  · rw [if_neg c40] at H
                    have c40b0 : decide (x38_2 < (t595.length : Int)) = false := decide_eq_false c40
                    clear c40; have HC95 := zA.mk H; clear H; have hnb96 := NB594_574.out; have hnc96 := NB574_594.out; have hnb97 := NB594_591.out; have hnc97 := NB591_594.out; have hnb98 := NB594_592.out; have hnc98 := NB592_594.out; have hcz99_0 : wr.cell? ⟨gb594, 0, none⟩ = some (.int .i64 ((rd_T63 t582 x28_1).f0)) := (zG BK594.out 0).trans rfl
                    have hcz99_1 : wr.cell? ⟨gb594, 1, none⟩ = some (.int .i64 ((rd_T63 t582 x28_1).f1)) := (zG BK594.out 1).trans rfl
                    have hcz99_2 : wr.cell? ⟨gb594, 2, none⟩ = some (.int .i64 ((rd_T63 t582 x28_1).f2)) := (zG BK594.out 2).trans rfl
                    have hcz99_3 : wr.cell? ⟨gb594, 3, none⟩ = some (.int .u8 ((rd_T63 t582 x28_1).f3)) := (zG BK594.out 3).trans rfl
                    have hfz99_0 := zJ BK594.out 0; have hfz99_1 := zJ BK594.out 1; have hfz99_2 := zJ BK594.out 2; have hfz99_3 := zJ BK594.out 3; go_upto_if 75 with (fail)
                    go_cut [11] (fun v11 wc => ∃ (kq : Nat) (x11_94 : Int), v11 = .int .i64 x11_94 ∧ zA (stanzalaw18_JustFills.j2 kq x11_94 x12_2 t582 (t582.length : Int) x28_1 t576 t579 t585 t586 t587 t588 t589 t590 ((rd_T63 t582 x28_1).f0) ((rd_T63 t582 x28_1).f1) ((rd_T63 t582 x28_1).f2) ((rd_T63 t582 x28_1).f3) = some r) ∧ zA (kq ≤ k2) ∧ zA (Kd.R k63 63 wc w.heap.size (fun k_ => k_ ≠ gb594) (.slice (some ad593) t582.length co21) t582) ∧ zA (Kd.R k41 41 wc w.heap.size (fun _ => True) (.slice Ao12 t576.length co12) t576) ∧ zA (Kd.R (Kd.int .u8) 46 wc w.heap.size (fun _ => True) (.slice Ao16 t579.length co16) t579) ∧ zA (wc.heap[gb574]? = some (.cells #[.int .u8 a1_0, .int .u8 a1_1, .int .u8 a1_2, .int .u16 a1_3, .int .u16 a1_4, .float .f64 a1_5] 67 (0, 0))) ∧ zA (wc.heap[gb591]? = some (.cells #[(.slice Ao12 t576.length co12), (.slice Ao16 t579.length co16)] 35 (0, 0))) ∧ zA (wc.heap[gb592]? = some (.cells #[.int .i64 t585, .int .i64 t586, .int .u8 t587, .int .i64 t588, .int .i64 t589, .float .f64 t590] 58 (0, 0))) ∧ zA (wc.heap[gb594]? = some (.cells #[.int .i64 ((rd_T63 t582 x28_1).f0), .int .i64 ((rd_T63 t582 x28_1).f1), .int .i64 ((rd_T63 t582 x28_1).f2), .int .u8 ((rd_T63 t582 x28_1).f3)] 63 (0, 0))) ∧ zA (Below w.heap.size w wc))
                    case first =>
                      have H := HC95.out; clear HC95; by_cases c100 : ((rd_T63 t582 x28_1).f3) = 3
                      · rw [if_pos c100] at H
                        have c100b0 : (((rd_T63 t582 x28_1).f3) == 3) = true := beq_iff_eq.mpr c100
                        have c100b1 : (((rd_T63 t582 x28_1).f3) != 3) = false := bne_eq_false_iff_eq.mpr c100
                        clear c100; (first | rw [c100b0] | (simp only [zM, zN]; rw [c100b0]) | skip)
                        have H' := zA.mk H
                        clear H; go_wp2
                        go_meet
                        case rel => exact ⟨_, (wrap64 (x11_2 + 1)), (by first | rfl | (simp; done) | (simp [*]; done)), H', ⟨by have := HK1.out; have := HK2.out; first | omega | exact Nat.le_refl _⟩, ⟨by (with_reducible repeat (first | apply Kd.R_alloc | apply Kd.R_drewN | apply Kd.R_drew)); exact HO_26.out⟩, ⟨by (with_reducible repeat (first | apply Kd.R_alloc | apply Kd.R_drewN | apply Kd.R_drew)); exact HO_592000.out⟩, ⟨by (with_reducible repeat (first | apply Kd.R_alloc | apply Kd.R_drewN | apply Kd.R_drew)); exact HO_592001.out⟩, ⟨by (with_reducible repeat (first | refine zC ?_ _ | refine zD ?_ | refine zB ?_ _)); exact BK574.out⟩, ⟨by (with_reducible repeat (first | refine zC ?_ _ | refine zD ?_ | refine zB ?_ _)); exact BK591.out⟩, ⟨by (with_reducible repeat (first | refine zC ?_ _ | refine zD ?_ | refine zB ?_ _)); exact BK592.out⟩, ⟨by (with_reducible repeat (first | refine zC ?_ _ | refine zD ?_ | refine zB ?_ _)); exact BK594.out⟩, ⟨by repeat (first | (with_reducible first | exact HB.out | apply zI | apply zF | apply zH | refine zE ?_ GE574.out | refine zE ?_ GE591.out | refine zE ?_ GE592.out | refine zE ?_ GE594.out) | exact HB.out)⟩⟩
                      · rw [if_neg c100] at H
                        have c100b0 : (((rd_T63 t582 x28_1).f3) == 3) = false := beq_eq_false_iff_ne.mpr c100
                        have c100b1 : (((rd_T63 t582 x28_1).f3) != 3) = true := bne_iff_ne.mpr c100
                        (first | rw [c100b0] | (simp only [zM, zN]; rw [c100b0]) | skip)
                        have H' := zA.mk H
                        clear H; go_wp2
                        go_meet
                        case rel => exact ⟨_, (x11_2), (by first | rfl | (simp; done) | (simp [*]; done)), H', ⟨by have := HK1.out; have := HK2.out; first | omega | exact Nat.le_refl _⟩, ⟨by (with_reducible repeat (first | apply Kd.R_alloc | apply Kd.R_drewN | apply Kd.R_drew)); exact HO_26.out⟩, ⟨by (with_reducible repeat (first | apply Kd.R_alloc | apply Kd.R_drewN | apply Kd.R_drew)); exact HO_592000.out⟩, ⟨by (with_reducible repeat (first | apply Kd.R_alloc | apply Kd.R_drewN | apply Kd.R_drew)); exact HO_592001.out⟩, ⟨by (with_reducible repeat (first | refine zC ?_ _ | refine zD ?_ | refine zB ?_ _)); exact BK574.out⟩, ⟨by (with_reducible repeat (first | refine zC ?_ _ | refine zD ?_ | refine zB ?_ _)); exact BK591.out⟩, ⟨by (with_reducible repeat (first | refine zC ?_ _ | refine zD ?_ | refine zB ?_ _)); exact BK592.out⟩, ⟨by (with_reducible repeat (first | refine zC ?_ _ | refine zD ?_ | refine zB ?_ _)); exact BK594.out⟩, ⟨by repeat (first | (with_reducible first | exact HB.out | apply zI | apply zF | apply zH | refine zE ?_ GE574.out | refine zE ?_ GE591.out | refine zE ?_ GE592.out | refine zE ?_ GE594.out) | exact HB.out)⟩⟩
                    case rest =>
                      clear HC95; try clear c1
                      try clear c2
                      try clear p2
                      try clear c3
                      try clear c4
                      try clear c5
                      try clear p5
                      try clear q5
                      try clear hx5
                      try clear c6
                      try clear p6
                      try clear c7
                      try clear c8
                      try clear c9
                      try clear c10
                      try clear c13
                      try clear c14
                      try clear c18
                      try clear c22
                      try clear c22b0
                      try clear c23
                      try clear c23b0
                      try clear c24
                      try clear c24b0
                      try clear c27
                      try clear c28
                      try clear c29
                      try clear c32
                      try clear c33
                      try clear c36
                      try clear c37
                      try clear c40
                      try clear c40b0
                      try clear c41
                      try clear c41b0
                      try clear c42
                      try clear c42b0
                      try clear c44
                      try clear c44b0
                      try clear c45
                      try clear c45b0
                      try clear c46
                      try clear c46b0
                      try clear c46b1
                      try clear c47
                      try clear c47b0
                      try clear c48
                      try clear c49
                      try clear c50
                      try clear c52
                      try clear c53
                      try clear c56
                      try clear c57
                      try clear c58
                      try clear c59
                      try clear p59
                      try clear q59
                      try clear hx59
                      try clear c63
                      try clear c63b0
                      try clear c63b1
                      try clear c64
                      try clear c64b0
                      try clear c64b1
                      try clear p64
                      try clear c65
                      try clear c66
                      try clear c67
                      try clear c69
                      try clear c70
                      try clear c73
                      try clear c74
                      try clear c75
                      try clear c76
                      try clear c80
                      try clear c81
                      try clear c82
                      try clear c84
                      try clear c85
                      try clear c88
                      try clear c89
                      try clear c90
                      try clear c91
                      try clear c96
                      try clear c97
                      try clear c98
                      try clear c100
                      try clear c100b0
                      try clear c100b1
                      try clear hcz15_0
                      try clear hcz15_1
                      try clear hcz19_0
                      try clear hcz19_1
                      try clear hcz19_2
                      try clear hcz19_3
                      try clear hcz19_4
                      try clear hcz19_5
                      try clear hcz30_0
                      try clear hcz30_1
                      try clear hcz30_2
                      try clear hcz30_3
                      try clear hcz34_0
                      try clear hcz34_1
                      try clear hcz35_0
                      try clear hcz35_1
                      try clear hcz35_2
                      try clear hcz35_3
                      try clear hcz37_0
                      try clear hcz37_1
                      try clear hcz37_2
                      try clear hcz37_3
                      try clear hcz37_4
                      try clear hcz37_5
                      try clear hcz51_0
                      try clear hcz51_1
                      try clear hcz54_0
                      try clear hcz54_1
                      try clear hcz54_2
                      try clear hcz54_3
                      try clear hcz60_0
                      try clear hcz60_1
                      try clear hcz60_2
                      try clear hcz60_3
                      try clear hcz62_0
                      try clear hcz62_1
                      try clear hcz62_2
                      try clear hcz62_3
                      try clear hcz68_0
                      try clear hcz68_1
                      try clear hcz71_0
                      try clear hcz71_1
                      try clear hcz71_2
                      try clear hcz71_3
                      try clear hcz77_0
                      try clear hcz77_1
                      try clear hcz77_2
                      try clear hcz77_3
                      try clear hcz79_0
                      try clear hcz79_1
                      try clear hcz79_2
                      try clear hcz79_3
                      try clear hcz83_0
                      try clear hcz83_1
                      try clear hcz86_0
                      try clear hcz86_1
                      try clear hcz86_2
                      try clear hcz86_3
                      try clear hcz8_0
                      try clear hcz8_1
                      try clear hcz8_2
                      try clear hcz8_3
                      try clear hcz8_4
                      try clear hcz8_5
                      try clear hcz92_0
                      try clear hcz92_1
                      try clear hcz92_2
                      try clear hcz92_3
                      try clear hcz94_0
                      try clear hcz94_1
                      try clear hcz94_2
                      try clear hcz94_3
                      try clear hcz99_0
                      try clear hcz99_1
                      try clear hcz99_2
                      try clear hcz99_3
                      try clear hfz15_0
                      try clear hfz15_1
                      try clear hfz19_0
                      try clear hfz19_1
                      try clear hfz19_2
                      try clear hfz19_3
                      try clear hfz19_4
                      try clear hfz19_5
                      try clear hfz30_0
                      try clear hfz30_1
                      try clear hfz30_2
                      try clear hfz30_3
                      try clear hfz34_0
                      try clear hfz34_1
                      try clear hfz35_0
                      try clear hfz35_1
                      try clear hfz35_2
                      try clear hfz35_3
                      try clear hfz37_0
                      try clear hfz37_1
                      try clear hfz37_2
                      try clear hfz37_3
                      try clear hfz37_4
                      try clear hfz37_5
                      try clear hfz51_0
                      try clear hfz51_1
                      try clear hfz54_0
                      try clear hfz54_1
                      try clear hfz54_2
                      try clear hfz54_3
                      try clear hfz60_0
                      try clear hfz60_1
                      try clear hfz60_2
                      try clear hfz60_3
                      try clear hfz62_0
                      try clear hfz62_1
                      try clear hfz62_2
                      try clear hfz62_3
                      try clear hfz68_0
                      try clear hfz68_1
                      try clear hfz71_0
                      try clear hfz71_1
                      try clear hfz71_2
                      try clear hfz71_3
                      try clear hfz77_0
                      try clear hfz77_1
                      try clear hfz77_2
                      try clear hfz77_3
                      try clear hfz79_0
                      try clear hfz79_1
                      try clear hfz79_2
                      try clear hfz79_3
                      try clear hfz83_0
                      try clear hfz83_1
                      try clear hfz86_0
                      try clear hfz86_1
                      try clear hfz86_2
                      try clear hfz86_3
                      try clear hfz8_0
                      try clear hfz8_1
                      try clear hfz8_2
                      try clear hfz8_3
                      try clear hfz8_4
                      try clear hfz8_5
                      try clear hfz92_0
                      try clear hfz92_1
                      try clear hfz92_2
                      try clear hfz92_3
                      try clear hfz94_0
                      try clear hfz94_1
                      try clear hfz94_2
                      try clear hfz94_3
                      try clear hfz99_0
                      try clear hfz99_1
                      try clear hfz99_2
                      try clear hfz99_3
                      try clear hx593_0
                      try clear hx593_1
                      try clear hx593_2
                      try clear hx593_3
                      try clear hx598_0
                      try clear hx599_0
                      try clear hx599_1
                      try clear hx599_2
                      try clear hx599_3
                      try clear p2
                      try clear p5
                      try clear p593
                      try clear p598
                      try clear p599
                      try clear q5
                      try clear q593
                      try clear q598
                      try clear q599
                      obtain ⟨kq, x11_94, rfl, HA, HJ94, HO_26, HO_592000, HO_592001, BK574, BK591, BK592, BK594, HB⟩ := hcut; cases kq with
                      | zero => exact absurd HA.out (by simp [stanzalaw18_JustFills.j2])
                      | succ kj94 =>
                        have H := HA.out; clear HA; simp only [stanzalaw18_JustFills.j2] at H; have HC101 := zA.mk H; clear H; have hnb102 := NB594_574.out; have hnc102 := NB574_594.out; have hnb103 := NB594_591.out; have hnc103 := NB591_594.out; have hnb104 := NB594_592.out; have hnc104 := NB592_594.out; have hcz105_0 : wc.cell? ⟨gb594, 0, none⟩ = some (.int .i64 ((rd_T63 t582 x28_1).f0)) := (zG BK594.out 0).trans rfl
                        have hcz105_1 : wc.cell? ⟨gb594, 1, none⟩ = some (.int .i64 ((rd_T63 t582 x28_1).f1)) := (zG BK594.out 1).trans rfl
                        have hcz105_2 : wc.cell? ⟨gb594, 2, none⟩ = some (.int .i64 ((rd_T63 t582 x28_1).f2)) := (zG BK594.out 2).trans rfl
                        have hcz105_3 : wc.cell? ⟨gb594, 3, none⟩ = some (.int .u8 ((rd_T63 t582 x28_1).f3)) := (zG BK594.out 3).trans rfl
                        have hfz105_0 := zJ BK594.out 0; have hfz105_1 := zJ BK594.out 1; have hfz105_2 := zJ BK594.out 2; have hfz105_3 := zJ BK594.out 3; go_upto_region 24 with (fail)
                        go_cut [98] (fun v98 wc => ∃ (kq : Nat) (x98_100 : Bool), v98 = .bool x98_100 ∧ zA (stanzalaw18_JustFills.j3 kq x11_94 ((rd_T63 t582 x28_1).f2) t582 (t582.length : Int) x28_1 x98_100 t576 t579 t585 t586 t587 t588 t589 t590 = some r) ∧ zA (kq ≤ kj94) ∧ zA (Kd.R k63 63 wc w.heap.size (fun k_ => k_ ≠ gb594) (.slice (some ad593) t582.length co21) t582) ∧ zA (Kd.R k41 41 wc w.heap.size (fun _ => True) (.slice Ao12 t576.length co12) t576) ∧ zA (Kd.R (Kd.int .u8) 46 wc w.heap.size (fun _ => True) (.slice Ao16 t579.length co16) t579) ∧ zA (wc.heap[gb574]? = some (.cells #[.int .u8 a1_0, .int .u8 a1_1, .int .u8 a1_2, .int .u16 a1_3, .int .u16 a1_4, .float .f64 a1_5] 67 (0, 0))) ∧ zA (wc.heap[gb591]? = some (.cells #[(.slice Ao12 t576.length co12), (.slice Ao16 t579.length co16)] 35 (0, 0))) ∧ zA (wc.heap[gb592]? = some (.cells #[.int .i64 t585, .int .i64 t586, .int .u8 t587, .int .i64 t588, .int .i64 t589, .float .f64 t590] 58 (0, 0))) ∧ zA (wc.heap[gb594]? = some (.cells #[.int .i64 ((rd_T63 t582 x28_1).f0), .int .i64 ((rd_T63 t582 x28_1).f1), .int .i64 ((rd_T63 t582 x28_1).f2), .int .u8 ((rd_T63 t582 x28_1).f3)] 63 (0, 0))) ∧ zA (Below w.heap.size w wc))
                        case first =>
                          have H := HC101.out; clear HC101; by_cases c106 : ((rd_T63 t582 x28_1).f3) = 2
                          · rw [if_pos c106] at H
                            have c106b0 : (((rd_T63 t582 x28_1).f3) == 2) = true := beq_iff_eq.mpr c106
                            have c106b1 : (((rd_T63 t582 x28_1).f3) != 2) = false := bne_eq_false_iff_eq.mpr c106
                            clear c106; (first | rw [c106b0] | (simp only [zM, zN]; rw [c106b0]) | skip)
                            have H' := zA.mk H
                            clear H; have hnb107 := NB594_574.out; have hnc107 := NB574_594.out; have hnb108 := NB594_591.out; have hnc108 := NB591_594.out; have hnb109 := NB594_592.out; have hnc109 := NB592_594.out; have hcz110_0 : wc.cell? ⟨gb594, 0, none⟩ = some (.int .i64 ((rd_T63 t582 x28_1).f0)) := (zG BK594.out 0).trans rfl
                            have hcz110_1 : wc.cell? ⟨gb594, 1, none⟩ = some (.int .i64 ((rd_T63 t582 x28_1).f1)) := (zG BK594.out 1).trans rfl
                            have hcz110_2 : wc.cell? ⟨gb594, 2, none⟩ = some (.int .i64 ((rd_T63 t582 x28_1).f2)) := (zG BK594.out 2).trans rfl
                            have hcz110_3 : wc.cell? ⟨gb594, 3, none⟩ = some (.int .u8 ((rd_T63 t582 x28_1).f3)) := (zG BK594.out 3).trans rfl
                            have hfz110_0 := zJ BK594.out 0; have hfz110_1 := zJ BK594.out 1; have hfz110_2 := zJ BK594.out 2; have hfz110_3 := zJ BK594.out 3; go_wp2
                            go_meet
                            case rel => exact ⟨_, (false), (by first | rfl | (simp; done) | (simp [*]; done)), H', ⟨by have := HK1.out; have := HK2.out; have := HJ94.out; first | omega | exact Nat.le_refl _⟩, ⟨by (with_reducible repeat (first | apply Kd.R_alloc | apply Kd.R_drewN | apply Kd.R_drew)); exact HO_26.out⟩, ⟨by (with_reducible repeat (first | apply Kd.R_alloc | apply Kd.R_drewN | apply Kd.R_drew)); exact HO_592000.out⟩, ⟨by (with_reducible repeat (first | apply Kd.R_alloc | apply Kd.R_drewN | apply Kd.R_drew)); exact HO_592001.out⟩, ⟨by (with_reducible repeat (first | refine zC ?_ _ | refine zD ?_ | refine zB ?_ _)); exact BK574.out⟩, ⟨by (with_reducible repeat (first | refine zC ?_ _ | refine zD ?_ | refine zB ?_ _)); exact BK591.out⟩, ⟨by (with_reducible repeat (first | refine zC ?_ _ | refine zD ?_ | refine zB ?_ _)); exact BK592.out⟩, ⟨by (with_reducible repeat (first | refine zC ?_ _ | refine zD ?_ | refine zB ?_ _)); exact BK594.out⟩, ⟨by repeat (first | (with_reducible first | exact HB.out | apply zI | apply zF | apply zH | refine zE ?_ GE574.out | refine zE ?_ GE591.out | refine zE ?_ GE592.out | refine zE ?_ GE594.out) | exact HB.out)⟩⟩
                          · rw [if_neg c106] at H
                            have c106b0 : (((rd_T63 t582 x28_1).f3) == 2) = false := beq_eq_false_iff_ne.mpr c106
                            have c106b1 : (((rd_T63 t582 x28_1).f3) != 2) = true := bne_iff_ne.mpr c106
                            (first | rw [c106b0] | (simp only [zM, zN]; rw [c106b0]) | skip)
                            by_cases c111 : ((rd_T63 t582 x28_1).f3) = 4
                            · rw [if_pos c111] at H
                              have c111b0 : (((rd_T63 t582 x28_1).f3) == 4) = true := beq_iff_eq.mpr c111
                              have c111b1 : (((rd_T63 t582 x28_1).f3) != 4) = false := bne_eq_false_iff_eq.mpr c111
                              clear c111; have H' := zA.mk H
                              clear H; have hnb112 := NB594_574.out; have hnc112 := NB574_594.out; have hnb113 := NB594_591.out; have hnc113 := NB591_594.out; have hnb114 := NB594_592.out; have hnc114 := NB592_594.out; have hcz115_0 : wc.cell? ⟨gb594, 0, none⟩ = some (.int .i64 ((rd_T63 t582 x28_1).f0)) := (zG BK594.out 0).trans rfl
                              have hcz115_1 : wc.cell? ⟨gb594, 1, none⟩ = some (.int .i64 ((rd_T63 t582 x28_1).f1)) := (zG BK594.out 1).trans rfl
                              have hcz115_2 : wc.cell? ⟨gb594, 2, none⟩ = some (.int .i64 ((rd_T63 t582 x28_1).f2)) := (zG BK594.out 2).trans rfl
                              have hcz115_3 : wc.cell? ⟨gb594, 3, none⟩ = some (.int .u8 ((rd_T63 t582 x28_1).f3)) := (zG BK594.out 3).trans rfl
                              have hfz115_0 := zJ BK594.out 0; have hfz115_1 := zJ BK594.out 1; have hfz115_2 := zJ BK594.out 2; have hfz115_3 := zJ BK594.out 3; go_wp2
                              go_meet
                              case rel => exact ⟨_, (false), (by first | rfl | (simp; done) | (simp [*]; done)), H', ⟨by have := HK1.out; have := HK2.out; have := HJ94.out; first | omega | exact Nat.le_refl _⟩, ⟨by (with_reducible repeat (first | apply Kd.R_alloc | apply Kd.R_drewN | apply Kd.R_drew)); exact HO_26.out⟩, ⟨by (with_reducible repeat (first | apply Kd.R_alloc | apply Kd.R_drewN | apply Kd.R_drew)); exact HO_592000.out⟩, ⟨by (with_reducible repeat (first | apply Kd.R_alloc | apply Kd.R_drewN | apply Kd.R_drew)); exact HO_592001.out⟩, ⟨by (with_reducible repeat (first | refine zC ?_ _ | refine zD ?_ | refine zB ?_ _)); exact BK574.out⟩, ⟨by (with_reducible repeat (first | refine zC ?_ _ | refine zD ?_ | refine zB ?_ _)); exact BK591.out⟩, ⟨by (with_reducible repeat (first | refine zC ?_ _ | refine zD ?_ | refine zB ?_ _)); exact BK592.out⟩, ⟨by (with_reducible repeat (first | refine zC ?_ _ | refine zD ?_ | refine zB ?_ _)); exact BK594.out⟩, ⟨by repeat (first | (with_reducible first | exact HB.out | apply zI | apply zF | apply zH | refine zE ?_ GE574.out | refine zE ?_ GE591.out | refine zE ?_ GE592.out | refine zE ?_ GE594.out) | exact HB.out)⟩⟩
                            · rw [if_neg c111] at H
                              have c111b0 : (((rd_T63 t582 x28_1).f3) == 4) = false := beq_eq_false_iff_ne.mpr c111
                              have c111b1 : (((rd_T63 t582 x28_1).f3) != 4) = true := bne_iff_ne.mpr c111
                              by_cases c116 : x12_2 > 0
                              · rw [if_pos c116] at H
                                have c116b0 : decide (0 < x12_2) = true := decide_eq_true c116
                                clear c116; have H' := zA.mk H
                                clear H; have hnb117 := NB594_574.out; have hnc117 := NB574_594.out; have hnb118 := NB594_591.out; have hnc118 := NB591_594.out; have hnb119 := NB594_592.out; have hnc119 := NB592_594.out; have hcz120_0 : wc.cell? ⟨gb594, 0, none⟩ = some (.int .i64 ((rd_T63 t582 x28_1).f0)) := (zG BK594.out 0).trans rfl
                                have hcz120_1 : wc.cell? ⟨gb594, 1, none⟩ = some (.int .i64 ((rd_T63 t582 x28_1).f1)) := (zG BK594.out 1).trans rfl
                                have hcz120_2 : wc.cell? ⟨gb594, 2, none⟩ = some (.int .i64 ((rd_T63 t582 x28_1).f2)) := (zG BK594.out 2).trans rfl
                                have hcz120_3 : wc.cell? ⟨gb594, 3, none⟩ = some (.int .u8 ((rd_T63 t582 x28_1).f3)) := (zG BK594.out 3).trans rfl
                                have hfz120_0 := zJ BK594.out 0; have hfz120_1 := zJ BK594.out 1; have hfz120_2 := zJ BK594.out 2; have hfz120_3 := zJ BK594.out 3; have hnb121 := NB592_574.out; have hnc121 := NB574_592.out; have hnb122 := NB592_591.out; have hnc122 := NB591_592.out; have hcz123_0 : wc.cell? ⟨gb592, 0, none⟩ = some (.int .i64 t585) := (zG BK592.out 0).trans rfl
                                have hcz123_1 : wc.cell? ⟨gb592, 1, none⟩ = some (.int .i64 t586) := (zG BK592.out 1).trans rfl
                                have hcz123_2 : wc.cell? ⟨gb592, 2, none⟩ = some (.int .u8 t587) := (zG BK592.out 2).trans rfl
                                have hcz123_3 : wc.cell? ⟨gb592, 3, none⟩ = some (.int .i64 t588) := (zG BK592.out 3).trans rfl
                                have hcz123_4 : wc.cell? ⟨gb592, 4, none⟩ = some (.int .i64 t589) := (zG BK592.out 4).trans rfl
                                have hcz123_5 : wc.cell? ⟨gb592, 5, none⟩ = some (.float .f64 t590) := (zG BK592.out 5).trans rfl
                                have hfz123_0 := zJ BK592.out 0; have hfz123_1 := zJ BK592.out 1; have hfz123_2 := zJ BK592.out 2; have hfz123_3 := zJ BK592.out 3; have hfz123_4 := zJ BK592.out 4; have hfz123_5 := zJ BK592.out 5; go_wp2
                                go_meet
                                case rel => exact ⟨_, (decide (((rd_T63 t582 x28_1).f2) ≤ t585)), (by first | rfl | (simp; done) | (simp [*]; done)), H', ⟨by have := HK1.out; have := HK2.out; have := HJ94.out; first | omega | exact Nat.le_refl _⟩, ⟨by (with_reducible repeat (first | apply Kd.R_alloc | apply Kd.R_drewN | apply Kd.R_drew)); exact HO_26.out⟩, ⟨by (with_reducible repeat (first | apply Kd.R_alloc | apply Kd.R_drewN | apply Kd.R_drew)); exact HO_592000.out⟩, ⟨by (with_reducible repeat (first | apply Kd.R_alloc | apply Kd.R_drewN | apply Kd.R_drew)); exact HO_592001.out⟩, ⟨by (with_reducible repeat (first | refine zC ?_ _ | refine zD ?_ | refine zB ?_ _)); exact BK574.out⟩, ⟨by (with_reducible repeat (first | refine zC ?_ _ | refine zD ?_ | refine zB ?_ _)); exact BK591.out⟩, ⟨by (with_reducible repeat (first | refine zC ?_ _ | refine zD ?_ | refine zB ?_ _)); exact BK592.out⟩, ⟨by (with_reducible repeat (first | refine zC ?_ _ | refine zD ?_ | refine zB ?_ _)); exact BK594.out⟩, ⟨by repeat (first | (with_reducible first | exact HB.out | apply zI | apply zF | apply zH | refine zE ?_ GE574.out | refine zE ?_ GE591.out | refine zE ?_ GE592.out | refine zE ?_ GE594.out) | exact HB.out)⟩⟩
                              · rw [if_neg c116] at H
                                have c116b0 : decide (0 < x12_2) = false := decide_eq_false c116
                                clear c116; have H' := zA.mk H
                                clear H; have hnb124 := NB594_574.out; have hnc124 := NB574_594.out; have hnb125 := NB594_591.out; have hnc125 := NB591_594.out; have hnb126 := NB594_592.out; have hnc126 := NB592_594.out; have hcz127_0 : wc.cell? ⟨gb594, 0, none⟩ = some (.int .i64 ((rd_T63 t582 x28_1).f0)) := (zG BK594.out 0).trans rfl
                                have hcz127_1 : wc.cell? ⟨gb594, 1, none⟩ = some (.int .i64 ((rd_T63 t582 x28_1).f1)) := (zG BK594.out 1).trans rfl
                                have hcz127_2 : wc.cell? ⟨gb594, 2, none⟩ = some (.int .i64 ((rd_T63 t582 x28_1).f2)) := (zG BK594.out 2).trans rfl
                                have hcz127_3 : wc.cell? ⟨gb594, 3, none⟩ = some (.int .u8 ((rd_T63 t582 x28_1).f3)) := (zG BK594.out 3).trans rfl
                                have hfz127_0 := zJ BK594.out 0; have hfz127_1 := zJ BK594.out 1; have hfz127_2 := zJ BK594.out 2; have hfz127_3 := zJ BK594.out 3; go_wp2
                                go_meet
                                case rel => exact ⟨_, (false), (by first | rfl | (simp; done) | (simp [*]; done)), H', ⟨by have := HK1.out; have := HK2.out; have := HJ94.out; first | omega | exact Nat.le_refl _⟩, ⟨by (with_reducible repeat (first | apply Kd.R_alloc | apply Kd.R_drewN | apply Kd.R_drew)); exact HO_26.out⟩, ⟨by (with_reducible repeat (first | apply Kd.R_alloc | apply Kd.R_drewN | apply Kd.R_drew)); exact HO_592000.out⟩, ⟨by (with_reducible repeat (first | apply Kd.R_alloc | apply Kd.R_drewN | apply Kd.R_drew)); exact HO_592001.out⟩, ⟨by (with_reducible repeat (first | refine zC ?_ _ | refine zD ?_ | refine zB ?_ _)); exact BK574.out⟩, ⟨by (with_reducible repeat (first | refine zC ?_ _ | refine zD ?_ | refine zB ?_ _)); exact BK591.out⟩, ⟨by (with_reducible repeat (first | refine zC ?_ _ | refine zD ?_ | refine zB ?_ _)); exact BK592.out⟩, ⟨by (with_reducible repeat (first | refine zC ?_ _ | refine zD ?_ | refine zB ?_ _)); exact BK594.out⟩, ⟨by repeat (first | (with_reducible first | exact HB.out | apply zI | apply zF | apply zH | refine zE ?_ GE574.out | refine zE ?_ GE591.out | refine zE ?_ GE592.out | refine zE ?_ GE594.out) | exact HB.out)⟩⟩
                        case rest =>
                          clear HC101; try clear c1
                          try clear c2
                          try clear p2
                          try clear c3
                          try clear c4
                          try clear c5
                          try clear p5
                          try clear q5
                          try clear hx5
                          try clear c6
                          try clear p6
                          try clear c7
                          try clear c8
                          try clear c9
                          try clear c10
                          try clear c11
                          try clear c12
                          try clear c13
                          try clear c14
                          try clear c18
                          try clear c22
                          try clear c22b0
                          try clear c23
                          try clear c23b0
                          try clear c24
                          try clear c24b0
                          try clear c27
                          try clear c28
                          try clear c29
                          try clear c32
                          try clear c33
                          try clear c36
                          try clear c37
                          try clear c40
                          try clear c40b0
                          try clear c41
                          try clear c41b0
                          try clear c42
                          try clear c42b0
                          try clear c44
                          try clear c44b0
                          try clear c45
                          try clear c45b0
                          try clear c46
                          try clear c46b0
                          try clear c46b1
                          try clear c47
                          try clear c47b0
                          try clear c48
                          try clear c49
                          try clear c50
                          try clear c52
                          try clear c53
                          try clear c56
                          try clear c57
                          try clear c58
                          try clear c59
                          try clear p59
                          try clear q59
                          try clear hx59
                          try clear c63
                          try clear c63b0
                          try clear c63b1
                          try clear c64
                          try clear c64b0
                          try clear c64b1
                          try clear p64
                          try clear c65
                          try clear c66
                          try clear c67
                          try clear c69
                          try clear c70
                          try clear c73
                          try clear c74
                          try clear c75
                          try clear c76
                          try clear c80
                          try clear c81
                          try clear c82
                          try clear c84
                          try clear c85
                          try clear c88
                          try clear c89
                          try clear c90
                          try clear c91
                          try clear c96
                          try clear c97
                          try clear c98
                          try clear c100
                          try clear c100b0
                          try clear c100b1
                          try clear c102
                          try clear c103
                          try clear c104
                          try clear c106
                          try clear c106b0
                          try clear c106b1
                          try clear c107
                          try clear c108
                          try clear c109
                          try clear c111
                          try clear c111b0
                          try clear c111b1
                          try clear c112
                          try clear c113
                          try clear c114
                          try clear c116
                          try clear c116b0
                          try clear c117
                          try clear c118
                          try clear c119
                          try clear c121
                          try clear c122
                          try clear c124
                          try clear c125
                          try clear c126
                          try clear hcz105_0
                          try clear hcz105_1
                          try clear hcz105_2
                          try clear hcz105_3
                          try clear hcz110_0
                          try clear hcz110_1
                          try clear hcz110_2
                          try clear hcz110_3
                          try clear hcz115_0
                          try clear hcz115_1
                          try clear hcz115_2
                          try clear hcz115_3
                          try clear hcz120_0
                          try clear hcz120_1
                          try clear hcz120_2
                          try clear hcz120_3
                          try clear hcz123_0
                          try clear hcz123_1
                          try clear hcz123_2
                          try clear hcz123_3
                          try clear hcz123_4
                          try clear hcz123_5
                          try clear hcz127_0
                          try clear hcz127_1
                          try clear hcz127_2
                          try clear hcz127_3
                          try clear hcz15_0
                          try clear hcz15_1
                          try clear hcz19_0
                          try clear hcz19_1
                          try clear hcz19_2
                          try clear hcz19_3
                          try clear hcz19_4
                          try clear hcz19_5
                          try clear hcz30_0
                          try clear hcz30_1
                          try clear hcz30_2
                          try clear hcz30_3
                          try clear hcz34_0
                          try clear hcz34_1
                          try clear hcz35_0
                          try clear hcz35_1
                          try clear hcz35_2
                          try clear hcz35_3
                          try clear hcz37_0
                          try clear hcz37_1
                          try clear hcz37_2
                          try clear hcz37_3
                          try clear hcz37_4
                          try clear hcz37_5
                          try clear hcz51_0
                          try clear hcz51_1
                          try clear hcz54_0
                          try clear hcz54_1
                          try clear hcz54_2
                          try clear hcz54_3
                          try clear hcz60_0
                          try clear hcz60_1
                          try clear hcz60_2
                          try clear hcz60_3
                          try clear hcz62_0
                          try clear hcz62_1
                          try clear hcz62_2
                          try clear hcz62_3
                          try clear hcz68_0
                          try clear hcz68_1
                          try clear hcz71_0
                          try clear hcz71_1
                          try clear hcz71_2
                          try clear hcz71_3
                          try clear hcz77_0
                          try clear hcz77_1
                          try clear hcz77_2
                          try clear hcz77_3
                          try clear hcz79_0
                          try clear hcz79_1
                          try clear hcz79_2
                          try clear hcz79_3
                          try clear hcz83_0
                          try clear hcz83_1
                          try clear hcz86_0
                          try clear hcz86_1
                          try clear hcz86_2
                          try clear hcz86_3
                          try clear hcz8_0
                          try clear hcz8_1
                          try clear hcz8_2
                          try clear hcz8_3
                          try clear hcz8_4
                          try clear hcz8_5
                          try clear hcz92_0
                          try clear hcz92_1
                          try clear hcz92_2
                          try clear hcz92_3
                          try clear hcz94_0
                          try clear hcz94_1
                          try clear hcz94_2
                          try clear hcz94_3
                          try clear hcz99_0
                          try clear hcz99_1
                          try clear hcz99_2
                          try clear hcz99_3
                          try clear hfz105_0
                          try clear hfz105_1
                          try clear hfz105_2
                          try clear hfz105_3
                          try clear hfz110_0
                          try clear hfz110_1
                          try clear hfz110_2
                          try clear hfz110_3
                          try clear hfz115_0
                          try clear hfz115_1
                          try clear hfz115_2
                          try clear hfz115_3
                          try clear hfz120_0
                          try clear hfz120_1
                          try clear hfz120_2
                          try clear hfz120_3
                          try clear hfz123_0
                          try clear hfz123_1
                          try clear hfz123_2
                          try clear hfz123_3
                          try clear hfz123_4
                          try clear hfz123_5
                          try clear hfz127_0
                          try clear hfz127_1
                          try clear hfz127_2
                          try clear hfz127_3
                          try clear hfz15_0
                          try clear hfz15_1
                          try clear hfz19_0
                          try clear hfz19_1
                          try clear hfz19_2
                          try clear hfz19_3
                          try clear hfz19_4
                          try clear hfz19_5
                          try clear hfz30_0
                          try clear hfz30_1
                          try clear hfz30_2
                          try clear hfz30_3
                          try clear hfz34_0
                          try clear hfz34_1
                          try clear hfz35_0
                          try clear hfz35_1
                          try clear hfz35_2
                          try clear hfz35_3
                          try clear hfz37_0
                          try clear hfz37_1
                          try clear hfz37_2
                          try clear hfz37_3
                          try clear hfz37_4
                          try clear hfz37_5
                          try clear hfz51_0
                          try clear hfz51_1
                          try clear hfz54_0
                          try clear hfz54_1
                          try clear hfz54_2
                          try clear hfz54_3
                          try clear hfz60_0
                          try clear hfz60_1
                          try clear hfz60_2
                          try clear hfz60_3
                          try clear hfz62_0
                          try clear hfz62_1
                          try clear hfz62_2
                          try clear hfz62_3
                          try clear hfz68_0
                          try clear hfz68_1
                          try clear hfz71_0
                          try clear hfz71_1
                          try clear hfz71_2
                          try clear hfz71_3
                          try clear hfz77_0
                          try clear hfz77_1
                          try clear hfz77_2
                          try clear hfz77_3
                          try clear hfz79_0
                          try clear hfz79_1
                          try clear hfz79_2
                          try clear hfz79_3
                          try clear hfz83_0
                          try clear hfz83_1
                          try clear hfz86_0
                          try clear hfz86_1
                          try clear hfz86_2
                          try clear hfz86_3
                          try clear hfz8_0
                          try clear hfz8_1
                          try clear hfz8_2
                          try clear hfz8_3
                          try clear hfz8_4
                          try clear hfz8_5
                          try clear hfz92_0
                          try clear hfz92_1
                          try clear hfz92_2
                          try clear hfz92_3
                          try clear hfz94_0
                          try clear hfz94_1
                          try clear hfz94_2
                          try clear hfz94_3
                          try clear hfz99_0
                          try clear hfz99_1
                          try clear hfz99_2
                          try clear hfz99_3
                          try clear hx593_0
                          try clear hx593_1
                          try clear hx593_2
                          try clear hx593_3
                          try clear hx598_0
                          try clear hx599_0
                          try clear hx599_1
                          try clear hx599_2
                          try clear hx599_3
                          try clear p2
                          try clear p5
                          try clear p59
                          try clear p593
                          try clear p598
                          try clear p599
                          try clear p6
                          try clear p64
                          try clear q5
                          try clear q59
                          try clear q593
                          try clear q598
                          try clear q599
                          obtain ⟨kq, x98_100, rfl, HA, HJ100, HO_26, HO_592000, HO_592001, BK574, BK591, BK592, BK594, HB⟩ := hcut; cases kq with
                          | zero => exact absurd HA.out (by simp [stanzalaw18_JustFills.j3])
                          | succ kj100 =>
                            have H := HA.out; clear HA; simp only [stanzalaw18_JustFills.j3] at H; by_cases c128 : x98_100 = true
                            · subst c128
                              have H1 : (if x11_94 = t585 then (stanzalaw18_JustFills.l0 kj100 t582 (t582.length : Int) (wrap64 (x28_1 + 1)) t576 t579 t585 t586 t587 t588 t589 t590) else (some false)) = some r := by rw [if_pos rfl] at H; exact H
                              clear H; have H := H1; clear H1; by_cases c129 : x11_94 = t585
                              · rw [if_pos c129] at H
                                have c129b0 : (x11_94 == t585) = true := beq_iff_eq.mpr c129
                                have c129b1 : (x11_94 != t585) = false := bne_eq_false_iff_eq.mpr c129
                                clear c129; have H' := zA.mk H
                                clear H; have hnb130 := NB592_574.out; have hnc130 := NB574_592.out; have hnb131 := NB592_591.out; have hnc131 := NB591_592.out; have hnb132 := NB592_594.out; have hnc132 := NB594_592.out; have hcz133_0 : wc.cell? ⟨gb592, 0, none⟩ = some (.int .i64 t585) := (zG BK592.out 0).trans rfl
                                have hcz133_1 : wc.cell? ⟨gb592, 1, none⟩ = some (.int .i64 t586) := (zG BK592.out 1).trans rfl
                                have hcz133_2 : wc.cell? ⟨gb592, 2, none⟩ = some (.int .u8 t587) := (zG BK592.out 2).trans rfl
                                have hcz133_3 : wc.cell? ⟨gb592, 3, none⟩ = some (.int .i64 t588) := (zG BK592.out 3).trans rfl
                                have hcz133_4 : wc.cell? ⟨gb592, 4, none⟩ = some (.int .i64 t589) := (zG BK592.out 4).trans rfl
                                have hcz133_5 : wc.cell? ⟨gb592, 5, none⟩ = some (.float .f64 t590) := (zG BK592.out 5).trans rfl
                                have hfz133_0 := zJ BK592.out 0; have hfz133_1 := zJ BK592.out 1; have hfz133_2 := zJ BK592.out 2; have hfz133_3 := zJ BK592.out 3; have hfz133_4 := zJ BK592.out 4; have hfz133_5 := zJ BK592.out 5; go_wp2
                                go_roundg kj100
                                case measure => have := HK1.out; have := HK2.out; have := HJ94.out; have := HJ100.out; omega
                                case rel => exact ⟨(wrap64 (x28_1 + 1)), (by first | rfl | (simp; done) | (simp [*]; done)), H', ⟨by have := HK1.out; have := HK2.out; have := HJ94.out; have := HJ100.out; omega⟩, ⟨by (with_reducible repeat (first | apply Kd.R_alloc | apply Kd.R_drewN | apply Kd.R_drew)); exact Kd.R_mono HO_26.out (fun _ hk => trivial)⟩, ⟨by (with_reducible repeat (first | apply Kd.R_alloc | apply Kd.R_drewN | apply Kd.R_drew)); exact HO_592000.out⟩, ⟨by (with_reducible repeat (first | apply Kd.R_alloc | apply Kd.R_drewN | apply Kd.R_drew)); exact HO_592001.out⟩, ⟨by (with_reducible repeat (first | refine zC ?_ _ | refine zD ?_ | refine zB ?_ _)); exact BK574.out⟩, ⟨by (with_reducible repeat (first | refine zC ?_ _ | refine zD ?_ | refine zB ?_ _)); exact BK591.out⟩, ⟨by (with_reducible repeat (first | refine zC ?_ _ | refine zD ?_ | refine zB ?_ _)); exact BK592.out⟩, ⟨by repeat (first | (with_reducible first | exact HB.out | apply zI | apply zF | apply zH | refine zE ?_ GE574.out | refine zE ?_ GE591.out | refine zE ?_ GE592.out | refine zE ?_ GE594.out) | exact HB.out)⟩⟩
                              · rw [if_neg c129] at H
                                have c129b0 : (x11_94 == t585) = false := beq_eq_false_iff_ne.mpr c129
                                have c129b1 : (x11_94 != t585) = true := bne_iff_ne.mpr c129
                                exact absurd ((Option.some.inj H).trans hrt_.out) (by decide)
                            · replace c128 := Bool.eq_false_iff.mpr c128
                              subst c128; have H1 : (if x11_94 = ((rd_T63 t582 x28_1).f2) then (stanzalaw18_JustFills.l0 kj100 t582 (t582.length : Int) (wrap64 (x28_1 + 1)) t576 t579 t585 t586 t587 t588 t589 t590) else (some false)) = some r := by rw [if_neg (show ¬ (false = true) by decide)] at H; exact H
                              clear H; have H := H1; clear H1; by_cases c134 : x11_94 = ((rd_T63 t582 x28_1).f2)
                              · rw [if_pos c134] at H
                                have c134b0 : (x11_94 == ((rd_T63 t582 x28_1).f2)) = true := beq_iff_eq.mpr c134
                                have c134b1 : (x11_94 != ((rd_T63 t582 x28_1).f2)) = false := bne_eq_false_iff_eq.mpr c134
                                clear c134; have H' := zA.mk H
                                clear H; go_wp2
                                go_roundg kj100
                                case measure => have := HK1.out; have := HK2.out; have := HJ94.out; have := HJ100.out; omega
                                case rel => exact ⟨(wrap64 (x28_1 + 1)), (by first | rfl | (simp; done) | (simp [*]; done)), H', ⟨by have := HK1.out; have := HK2.out; have := HJ94.out; have := HJ100.out; omega⟩, ⟨by (with_reducible repeat (first | apply Kd.R_alloc | apply Kd.R_drewN | apply Kd.R_drew)); exact Kd.R_mono HO_26.out (fun _ hk => trivial)⟩, ⟨by (with_reducible repeat (first | apply Kd.R_alloc | apply Kd.R_drewN | apply Kd.R_drew)); exact HO_592000.out⟩, ⟨by (with_reducible repeat (first | apply Kd.R_alloc | apply Kd.R_drewN | apply Kd.R_drew)); exact HO_592001.out⟩, ⟨by (with_reducible repeat (first | refine zC ?_ _ | refine zD ?_ | refine zB ?_ _)); exact BK574.out⟩, ⟨by (with_reducible repeat (first | refine zC ?_ _ | refine zD ?_ | refine zB ?_ _)); exact BK591.out⟩, ⟨by (with_reducible repeat (first | refine zC ?_ _ | refine zD ?_ | refine zB ?_ _)); exact BK592.out⟩, ⟨by repeat (first | (with_reducible first | exact HB.out | apply zI | apply zF | apply zH | refine zE ?_ GE574.out | refine zE ?_ GE591.out | refine zE ?_ GE592.out | refine zE ?_ GE594.out) | exact HB.out)⟩⟩
                              · rw [if_neg c134] at H
                                have c134b0 : (x11_94 == ((rd_T63 t582 x28_1).f2)) = false := beq_eq_false_iff_ne.mpr c134
                                have c134b1 : (x11_94 != ((rd_T63 t582 x28_1).f2)) = true := bne_iff_ne.mpr c134
                                exact absurd ((Option.some.inj H).trans hrt_.out) (by decide)
            · rw [if_neg c24] at H
              exact absurd H (by simp)
          · rw [if_neg c23] at H
            exact absurd H (by simp)
        · rw [if_neg c22] at H
          have c22b0 : decide (x28_1 < (t582.length : Int)) = false := decide_eq_false c22
          clear c22; obtain rfl := Option.some.inj H
          go_wp2
          go_ret
          exact ⟨by first | rfl | (simp [errW_none, errW_some] <;> rfl) | (simp [*, errW_none, errW_some] <;> rfl), by repeat (first | (with_reducible first | exact HB.out | apply zI | apply zF | apply zH | refine zE ?_ GE574.out | refine zE ?_ GE591.out | refine zE ?_ GE592.out) | exact HB.out)⟩
  · replace c4 := Bool.eq_false_iff.mpr c4
    subst c4; have H1 : (some false) = some r := by rw [if_neg (show ¬ (false = true) by decide)] at H; exact H
    clear H; have H := H1; clear H1; exact absurd ((Option.some.inj H).trans hrt_.out) (by decide)
def stanzalaw18_JustFills.Pure : Prop := ∀ (l0 : List (S50)) (a1_0 : Int) (a1_1 : Int) (a1_2 : Int) (a1_3 : Int) (a1_4 : Int) (a1_5 : Nat), (l0.length * 4 ≤ 140737488351232 ∧ ∀ y0 ∈ l0, ((Lit.int .u8 y0.f0).wf = true ∧ ((Lit.int .u8 y0.f1).wf = true ∧ ((Lit.int .u8 y0.f2).wf = true ∧ (Lit.int .u8 y0.f3).wf = true)))) → ((Lit.int .u8 a1_0).wf = true ∧ ((Lit.int .u8 a1_1).wf = true ∧ ((Lit.int .u8 a1_2).wf = true ∧ ((Lit.int .u16 a1_3).wf = true ∧ ((Lit.int .u16 a1_4).wf = true ∧ (Lit.float .f64 a1_5).wf = true))))) → ∃ k, stanzalaw18_JustFills.f k l0 a1_0 a1_1 a1_2 a1_3 a1_4 a1_5 = some true
end Go.Proofs.Ytbnoeeflpegcoaa.F
end
section
namespace Go.Proofs.Ytbnoeeflpegcoaa.F
open Go.RowKit Go.Proofs.YtbnoeeflpegcoaaW.PrintWords Go.Proofs.YtbnoeeflpegcoaaW.PrintLast Go.Proofs.YtbnoeeflpegcoaaW.PrintMore
attribute [local go_sem] max2_int min2_int max_two min_two max_three min_three max_four min_four   -- for this text's walks alone
set_option linter.unusedVariables false
set_option linter.unusedSimpArgs false
mutual
def stanzaref13_Spread.j0 : Nat → Int → Int → Bool → Option (List Int)
  | 0, _, _, _ => none
  | k + 1, x0, x1, x22 => if x22 = true then (some ([] : List Int)) else (stanzaref13_Spread.l0 k x0 x1 ([] : List Int) 0 1)
def stanzaref13_Spread.l0 : Nat → Int → Int → List Int → Int → Int → Option (List Int)
  | 0, _, _, _, _, _ => none
  | k + 1, x0, x1, x5, x6, x7 => if x7 ≤ x1 then (if x1 = 0 then (none) else (if x5.length < 17592186044416 then (stanzaref13_Spread.l0 k x0 x1 (x5 ++ [wrap64 ((wrap64 (Int.tdiv (wrap64 (x0 * x7)) x1)) - x6)]) (wrap64 (Int.tdiv (wrap64 (x0 * x7)) x1)) (wrap64 (x7 + 1))) else (none))) else (some x5)
end
def stanzaref13_Spread.f (k : Nat) (a0 : Int) (a1 : Int) : Option (List Int) := if a0 < 0 then (stanzaref13_Spread.j0 k a0 a1 true) else (if a0 > 1048576 then (stanzaref13_Spread.j0 k a0 a1 true) else (if a1 < 1 then (stanzaref13_Spread.j0 k a0 a1 true) else (stanzaref13_Spread.j0 k a0 a1 (decide (a1 > 4096)))))
theorem stanzaref13_Spread.mono_l : ∀ k, (∀ y0 y1 y2, LeO (stanzaref13_Spread.j0 k y0 y1 y2) (stanzaref13_Spread.j0 (k + 1) y0 y1 y2)) ∧ (∀ y0 y1 y2 y3 y4, LeO (stanzaref13_Spread.l0 k y0 y1 y2 y3 y4) (stanzaref13_Spread.l0 (k + 1) y0 y1 y2 y3 y4))
  | 0 => ⟨fun _ _ _ r h => by simp [stanzaref13_Spread.j0] at h, fun _ _ _ _ _ r h => by simp [stanzaref13_Spread.l0] at h⟩
  | k + 1 => by
    obtain ⟨ih0, ih1⟩ := stanzaref13_Spread.mono_l k; refine ⟨?_, ?_⟩
    · intro y0 y1 y2
      unfold stanzaref13_Spread.j0
      repeat' first
      | (with_reducible exact ih0 _ _ _)
      | (with_reducible exact ih1 _ _ _ _ _)
      | (with_reducible exact LeO.refl _)
      | (with_reducible exact LeO.none _)
      | (with_reducible refine LeO.ite ?_ ?_)
      | (with_reducible refine LeO.bind ?_ (fun _ => ?_))
      | exact ih0 _ _ _
      | exact ih1 _ _ _ _ _
      | exact LeO.none _
      | refine LeO.ite ?_ ?_
      | refine LeO.bind ?_ (fun _ => ?_)
    · intro y0 y1 y2 y3 y4
      unfold stanzaref13_Spread.l0
      repeat' first
      | (with_reducible exact ih0 _ _ _)
      | (with_reducible exact ih1 _ _ _ _ _)
      | (with_reducible exact LeO.refl _)
      | (with_reducible exact LeO.none _)
      | (with_reducible refine LeO.ite ?_ ?_)
      | (with_reducible refine LeO.bind ?_ (fun _ => ?_))
      | exact ih0 _ _ _
      | exact ih1 _ _ _ _ _
      | exact LeO.none _
      | refine LeO.ite ?_ ?_
      | refine LeO.bind ?_ (fun _ => ?_)
theorem stanzaref13_Spread.mono : ∀ a0 a1 k, LeO (stanzaref13_Spread.f k a0 a1) (stanzaref13_Spread.f (k + 1) a0 a1) := by
  intro a0 a1 k
  obtain ⟨ih0, ih1⟩ := stanzaref13_Spread.mono_l k; unfold stanzaref13_Spread.f
  repeat' first
      | (with_reducible exact ih0 _ _ _)
      | (with_reducible exact ih1 _ _ _ _ _)
      | (with_reducible exact LeO.refl _)
      | (with_reducible exact LeO.none _)
      | (with_reducible refine LeO.ite ?_ ?_)
      | (with_reducible refine LeO.bind ?_ (fun _ => ?_))
      | exact ih0 _ _ _
      | exact ih1 _ _ _ _ _
      | exact LeO.none _
      | refine LeO.ite ?_ ?_
      | refine LeO.bind ?_ (fun _ => ?_)
set_option maxHeartbeats 8000000 in
set_option maxRecDepth 100000 in
theorem stanzaref13_Spread.calls (k : Nat) (a0 : Int) (a1 : Int) (r : List Int) (w : World) (h : stanzaref13_Spread.f k a0 a1 = some r) :
    Calls Try.prog 17 #[.int .i64 a0, .int .i64 a1] w fun e w' => ∃ v0_ : Value, e = .returned (v0_) ∧ Kd.R (Kd.int .i64) 3 w' w.heap.size (fun _ => True) v0_ r ∧ Below w.heap.size w w' := by
  have HB := zA.mk (Below.refl w.heap.size w); have H : (if a0 < 0 then (stanzaref13_Spread.j0 k a0 a1 true) else (if a0 > 1048576 then (stanzaref13_Spread.j0 k a0 a1 true) else (if a1 < 1 then (stanzaref13_Spread.j0 k a0 a1 true) else (stanzaref13_Spread.j0 k a0 a1 (decide (a1 > 4096)))))) = some r := h
  clear h; have HC3 := zA.mk H; clear H; go_enter Try.func17, Try.ntmps17
  go_upto_region 1 with (fail)
  go_cut [22] (fun v22 wc => ∃ (kq : Nat) (x22_2 : Bool), v22 = .bool x22_2 ∧ zA (stanzaref13_Spread.j0 kq a0 a1 x22_2 = some r) ∧ zA (kq ≤ k) ∧ zA (Below w.heap.size w wc))
  case first =>
    have H := HC3.out; clear HC3; by_cases c4 : a0 < 0
    · rw [if_pos c4] at H
      have c4b0 : decide (a0 < 0) = true := decide_eq_true c4
      clear c4; (first | rw [c4b0] | (simp only [zM, zN]; rw [c4b0]) | skip)
      have H' := zA.mk H
      clear H; go_wp2
      go_meet
      case rel => exact ⟨_, (true), (by first | rfl | (simp; done) | (simp [*]; done)), H', ⟨by first | omega | exact Nat.le_refl _⟩, ⟨by repeat (first | (with_reducible first | exact HB.out | apply zI | apply zF | apply zH) | exact HB.out)⟩⟩
    · rw [if_neg c4] at H
      have c4b0 : decide (a0 < 0) = false := decide_eq_false c4
      clear c4; (first | rw [c4b0] | (simp only [zM, zN]; rw [c4b0]) | skip)
      by_cases c5 : a0 > 1048576
      · rw [if_pos c5] at H
        have c5b0 : decide (1048576 < a0) = true := decide_eq_true c5
        clear c5; have H' := zA.mk H
        clear H; go_wp2
        go_meet
        case rel => exact ⟨_, (true), (by first | rfl | (simp; done) | (simp [*]; done)), H', ⟨by first | omega | exact Nat.le_refl _⟩, ⟨by repeat (first | (with_reducible first | exact HB.out | apply zI | apply zF | apply zH) | exact HB.out)⟩⟩
      · rw [if_neg c5] at H
        have c5b0 : decide (1048576 < a0) = false := decide_eq_false c5
        clear c5; by_cases c6 : a1 < 1
        · rw [if_pos c6] at H
          have c6b0 : decide (a1 < 1) = true := decide_eq_true c6
          clear c6; have H' := zA.mk H
          clear H; go_wp2
          go_meet
          case rel => exact ⟨_, (true), (by first | rfl | (simp; done) | (simp [*]; done)), H', ⟨by first | omega | exact Nat.le_refl _⟩, ⟨by repeat (first | (with_reducible first | exact HB.out | apply zI | apply zF | apply zH) | exact HB.out)⟩⟩
        · rw [if_neg c6] at H
          have c6b0 : decide (a1 < 1) = false := decide_eq_false c6
          clear c6; have H' := zA.mk H
          clear H; go_wp2
          go_meet
          case rel => exact ⟨_, (decide (a1 > 4096)), (by first | rfl | (simp; done) | (simp [*]; done)), H', ⟨by first | omega | exact Nat.le_refl _⟩, ⟨by repeat (first | (with_reducible first | exact HB.out | apply zI | apply zF | apply zH) | exact HB.out)⟩⟩
  case rest =>
    clear HC3; try clear c1
    try clear p2
    try clear c4
    try clear c4b0
    try clear c5
    try clear c5b0
    try clear c6
    try clear c6b0
    obtain ⟨kq, x22_2, rfl, HA, HJ2, HB⟩ := hcut; cases kq with
    | zero => exact absurd HA.out (by simp [stanzaref13_Spread.j0])
    | succ kj2 =>
      have H := HA.out; clear HA; simp only [stanzaref13_Spread.j0] at H; by_cases c7 : x22_2 = true
      · subst c7
        have H1 : (some ([] : List Int)) = some r := by rw [if_pos rfl] at H; exact H
        clear H; have H := H1; clear H1; obtain rfl := Option.some.inj H
        go_wp2
        go_ret
        exact ⟨_, by first | rfl | (simp [errW_none, errW_some] <;> rfl) | (simp [*, errW_none, errW_some] <;> rfl), by first | exact Kd.R_nil _ _ _ _ _ | exact Kd.N_nil _ _ _ _ _ | exact Kd.V_nil _ _ _ _ _ | exact Kd.Q_nil _ _ _ _ _ | exact Kd.S_nil _ _ _ _ _, by repeat (first | (with_reducible first | exact HB.out | apply zI | apply zF | apply zH) | exact HB.out)⟩
      · replace c7 := Bool.eq_false_iff.mpr c7
        subst c7; have H1 : (stanzaref13_Spread.l0 kj2 a0 a1 ([] : List Int) 0 1) = some r := by rw [if_neg (show ¬ (false = true) by decide)] at H; exact H
        clear H; have H := H1; clear H1; have H' := zA.mk H
        clear H; go_wp2
        go_loopg [5, 6, 7] kj2 (fun kq v5 v6 v7 w' => ∃ (x5_2 : List Int) (x6_2 : Int) (x7_2 : Int), v6 = .int .i64 x6_2 ∧ v7 = .int .i64 x7_2 ∧ zA (stanzaref13_Spread.l0 kq a0 a1 x5_2 x6_2 x7_2 = some r) ∧ zA (kq ≤ kj2) ∧ zA (Kd.R (Kd.int .i64) 3 w' w.heap.size (fun _ => True) v5 x5_2) ∧ zA (Below w.heap.size w w'))
        case atStart => exact ⟨(([] : List Int)), (0), (1), (by first | rfl | (simp; done) | (simp [*]; done)), (by first | rfl | (simp; done) | (simp [*]; done)), H', ⟨Nat.le_refl _⟩, ⟨by first | exact Kd.R_nil _ _ _ _ _ | exact Kd.N_nil _ _ _ _ _ | exact Kd.V_nil _ _ _ _ _ | exact Kd.Q_nil _ _ _ _ _ | exact Kd.S_nil _ _ _ _ _⟩, ⟨by repeat (first | (with_reducible first | exact HB.out | apply zI | apply zF | apply zH) | exact HB.out)⟩⟩
        case round =>
          clear H'; try clear c1
          try clear p2
          try clear c4
          try clear c4b0
          try clear c5
          try clear c5b0
          try clear c6
          try clear c6b0
          try clear c7
          try clear p2
          obtain ⟨x5_2, x6_2, x7_2, rfl, rfl, HA, HK2, HO_5, HB⟩ := hrel; cases gk with
          | zero => exact absurd HA.out (by simp [stanzaref13_Spread.l0])
          | succ k2 =>
            have H := HA.out; clear HA; simp only [stanzaref13_Spread.l0] at H; by_cases c8 : x7_2 ≤ a1
            · rw [if_pos c8] at H
              have c8b0 : decide (x7_2 ≤ a1) = true := decide_eq_true c8
              clear c8; by_cases c9 : a1 = 0
              · rw [if_pos c9] at H
                exact absurd H (by simp)
              · rw [if_neg c9] at H
                have c9b0 : (a1 == 0) = false := beq_eq_false_iff_ne.mpr c9
                have c9b1 : (a1 != 0) = true := bne_iff_ne.mpr c9
                by_cases c10 : x5_2.length < 17592186044416
                · rw [if_pos c10] at H
                  have LMc10 := zA.mk c10; clear c10; obtain ⟨y120, hy120⟩ : ∃ y_ : List Int, y_ = (x5_2 ++ [wrap64 ((wrap64 (Int.tdiv (wrap64 (a0 * x7_2)) a1)) - x6_2)]) := ⟨_, rfl⟩; replace H : (stanzaref13_Spread.l0 k2 a0 a1 y120 (wrap64 (Int.tdiv (wrap64 (a0 * x7_2)) a1)) (wrap64 (x7_2 + 1))) = some r := by first | (rw [hy120]; with_reducible exact H) | (have H2_ := (Option.bind_some _ _).symm.trans H; rw [hy120]; with_reducible exact H2_) | (have H2_ := (Option.bind_some _ _).symm.trans H; with_reducible exact H2_) | with_reducible exact H | (rw [hy120]; exact H) | exact H
                  have Ny120 := zA.mk hy120; clear hy120; have H' := zA.mk H
                  clear H; go_wp2_with (first | ((with_reducible refine gate_builtin (b := .append) (xs := #[.tmp 33, .tmp 37]) rfl ?_); at_builtin; refine Kd.R_append (Kd.int .i64) (w0 := w) w.heap.size rfl (.tmp 33) (.tmp 37) 24 3 (.int .i64 0) 8 rfl Try.underlying24 info3 rfl (by decide) (by omega) u5 x5_2 (wrap64 ((wrap64 (Int.tdiv (wrap64 (a0 * x7_2)) a1)) - x6_2)) [.int .i64 (wrap64 ((wrap64 (Int.tdiv (wrap64 (a0 * x7_2)) a1)) - x6_2))] (fun _ => True) (fun _ => False) rfl rfl ?aP (fun _ hk => hk.elim) ?aF ?aO ?aB ?aS ?aL ?_; (case aP => exact rfl); (case aB => exact (by repeat (first | (with_reducible first | exact HB.out | apply zI | apply zF | apply zH) | exact HB.out))); (case aF => exact (fun _ _ => trivial)); (case aO => exact (by (with_reducible repeat (first | apply Kd.R_alloc | apply Kd.R_drewN | apply Kd.R_drew)); exact HO_5.out)); (case aS => exact (zK (by repeat (first | (with_reducible first | exact HB.out | apply zI | apply zF | apply zH) | exact HB.out)))); (case aL => have := LMc10.out; omega); intro v121 w11 ho hb hg hat; rw [← Ny120.out] at ho; have n0_ := zA.mk (hb); have n1_ := zA.mk (ho); clear HB; clear HO_5; have HB := n0_; have HO122 := n1_; clear n0_ n1_; clear ho hb hg hat))
                  go_roundg k2
                  case measure => have := HJ2.out; have := HK2.out; omega
                  case rel => exact ⟨(y120), (wrap64 (Int.tdiv (wrap64 (a0 * x7_2)) a1)), (wrap64 (x7_2 + 1)), (by first | rfl | (simp; done) | (simp [*]; done)), (by first | rfl | (simp; done) | (simp [*]; done)), H', ⟨by have := HJ2.out; have := HK2.out; omega⟩, ⟨by (with_reducible repeat (first | apply Kd.R_alloc | apply Kd.R_drewN | apply Kd.R_drew)); exact HO122.out⟩, ⟨by repeat (first | (with_reducible first | exact HB.out | apply zI | apply zF | apply zH) | exact HB.out)⟩⟩
                · rw [if_neg c10] at H
                  exact absurd H (by simp)
            · rw [if_neg c8] at H
              have c8b0 : decide (x7_2 ≤ a1) = false := decide_eq_false c8
              clear c8; obtain rfl := Option.some.inj H
              go_wp2
              go_ret
              exact ⟨_, by first | rfl | (simp [errW_none, errW_some] <;> rfl) | (simp [*, errW_none, errW_some] <;> rfl), by (with_reducible repeat (first | apply Kd.R_alloc | apply Kd.R_drewN | apply Kd.R_drew)); exact HO_5.out, by repeat (first | (with_reducible first | exact HB.out | apply zI | apply zF | apply zH) | exact HB.out)⟩
end Go.Proofs.Ytbnoeeflpegcoaa.F
end
section
namespace Go.Proofs.Ytbnoeeflpegcoaa.F
open Go.RowKit Go.Proofs.YtbnoeeflpegcoaaW.PrintWords Go.Proofs.YtbnoeeflpegcoaaW.PrintLast Go.Proofs.YtbnoeeflpegcoaaW.PrintMore
attribute [local go_sem] max2_int min2_int max_two min_two max_three min_three max_four min_four   -- for this text's walks alone
set_option linter.unusedVariables false
set_option linter.unusedSimpArgs false
def stanzaref13_Gaps.l0 : Nat → Int → Int → Int → Int → List (S41) → List Int → Option (Int)
  | 0, _, _, _, _, _, _ => none
  | k + 1, x1, x2, x7, x8, x330000, x330001 => (stanzaref13_Trim.f k x330000 x330001 x1 x2).bind fun t330 => (if x8 < t330 then (if 0 ≤ x8 then (if x8 < (x330000.length : Int) then (if ((rd_T41 x330000 x8).f3) = 1 then (stanzaref13_Gaps.l0 k x1 x2 (wrap64 (x7 + 1)) (wrap64 (x8 + 1)) x330000 x330001) else (stanzaref13_Gaps.l0 k x1 x2 x7 (wrap64 (x8 + 1)) x330000 x330001)) else (none)) else (none)) else (some x7))
def stanzaref13_Gaps.f (k : Nat) (l0_0 : List (S41)) (l0_1 : List Int) (a1 : Int) (a2 : Int) : Option (Int) := stanzaref13_Gaps.l0 k a1 a2 0 a1 l0_0 l0_1
theorem stanzaref13_Gaps.mono_l : ∀ k, (∀ y0 y1 y2 y3 y4 y5, LeO (stanzaref13_Gaps.l0 k y0 y1 y2 y3 y4 y5) (stanzaref13_Gaps.l0 (k + 1) y0 y1 y2 y3 y4 y5))
  | 0 => fun _ _ _ _ _ _ r h => by simp [stanzaref13_Gaps.l0] at h
  | k + 1 => by
    have ih0 := stanzaref13_Gaps.mono_l k
    · intro y0 y1 y2 y3 y4 y5
      unfold stanzaref13_Gaps.l0
      repeat' first
      | (with_reducible exact ih0 _ _ _ _ _ _)
      | (with_reducible exact stanzaref13_Trim.mono _ _ _ _ _)
      | (with_reducible exact LeO.refl _)
      | (with_reducible exact LeO.none _)
      | (with_reducible refine LeO.ite ?_ ?_)
      | (with_reducible refine LeO.bind ?_ (fun _ => ?_))
      | exact ih0 _ _ _ _ _ _
      | exact stanzaref13_Trim.mono _ _ _ _ _
      | exact LeO.none _
      | refine LeO.ite ?_ ?_
      | refine LeO.bind ?_ (fun _ => ?_)
theorem stanzaref13_Gaps.mono : ∀ a0 a1 a2 a3 k, LeO (stanzaref13_Gaps.f k a0 a1 a2 a3) (stanzaref13_Gaps.f (k + 1) a0 a1 a2 a3) := by
  intro a0 a1 a2 a3 k
  have ih0 := stanzaref13_Gaps.mono_l k; unfold stanzaref13_Gaps.f
  repeat' first
      | (with_reducible exact ih0 _ _ _ _ _ _)
      | (with_reducible exact stanzaref13_Trim.mono _ _ _ _ _)
      | (with_reducible exact LeO.refl _)
      | (with_reducible exact LeO.none _)
      | (with_reducible refine LeO.ite ?_ ?_)
      | (with_reducible refine LeO.bind ?_ (fun _ => ?_))
      | exact ih0 _ _ _ _ _ _
      | exact stanzaref13_Trim.mono _ _ _ _ _
      | exact LeO.none _
      | refine LeO.ite ?_ ?_
      | refine LeO.bind ?_ (fun _ => ?_)
set_option maxHeartbeats 8000000 in
set_option maxRecDepth 100000 in
theorem stanzaref13_Gaps.calls (k : Nat) (A0_0 : Option Addr) (c0_0 : Nat) (l0_0 : List (S41)) (A0_1 : Option Addr) (c0_1 : Nat) (l0_1 : List Int) (a1 : Int) (a2 : Int) (r : Int) (w : World) (hr0_0 : Kd.C k41 w A0_0 l0_0.length l0_0) (hc0_0 : l0_0.length ≤ c0_0) (hr0_1 : Kd.C (Kd.int .u8) w A0_1 l0_1.length l0_1) (hc0_1 : l0_1.length ≤ c0_1) (h : stanzaref13_Gaps.f k l0_0 l0_1 a1 a2 = some r) :
    Calls Try.prog 33 #[.agg #[.slice A0_0 l0_0.length c0_0, .slice A0_1 l0_1.length c0_1], .int .i64 a1, .int .i64 a2] w fun e w' => e = .returned (.int .i64 r) ∧ Below w.heap.size w w' := by
  have hu35 := Try.underlying35; have HR0_0 := zA.mk hr0_0; have HC0_0 := zA.mk hc0_0; clear hr0_0 hc0_0; have HR0_1 := zA.mk hr0_1; have HC0_1 := zA.mk hc0_1; clear hr0_1 hc0_1; have HB := zA.mk (Below.refl w.heap.size w); have H : (stanzaref13_Gaps.l0 k a1 a2 0 a1 l0_0 l0_1) = some r := h
  clear h; have H' := zA.mk H
  clear H; go_enter Try.func33, Try.ntmps33
  go_wp2_with (first | ((with_reducible refine gate_dst (N := 3) rfl ?_); refine box_event ?hg (N := 3) ?hd (cs := #[.slice A0_0 l0_0.length c0_0, .slice A0_1 l0_1.length c0_1]) (t := 35) ?hr ?_; (case hd => rfl); (case hg => rfl); (case hr => first | (go_simp; done) | (go_simp; rfl)); intro gb329 hg w4 hbox hb; have n0_ := zA.mk (zO (by repeat (first | (with_reducible first | exact HB.out | apply zI | apply zF | apply zH) | exact HB.out)) hb); have n1_ := zA.mk (hbox); have n2_ := zA.mk ((by rw [hg]; exact (zK (by repeat (first | (with_reducible first | exact HB.out | apply zI | apply zF | apply zH) | exact HB.out))) : w.heap.size ≤ gb329)); have n3_ := zA.mk ((by rw [hg]; exact (zK (by repeat (first | (with_reducible first | exact HB.out | apply zI | apply zF | apply zH) | exact HB.out))) : w.heap.size ≤ gb329)); clear HB; have HB := n0_; have BK329 := n1_; have GW329 := n2_; have GE329 := n3_; clear n0_ n1_ n2_ n3_; clear hb hbox hg))
  go_loopg [7, 8] k (fun kq v7 v8 w' => ∃ (x7_1 : Int) (x8_1 : Int), v7 = .int .i64 x7_1 ∧ v8 = .int .i64 x8_1 ∧ zA (stanzaref13_Gaps.l0 kq a1 a2 x7_1 x8_1 l0_0 l0_1 = some r) ∧ zA (kq ≤ k) ∧ zA (w'.heap[gb329]? = some (.cells #[(.slice A0_0 l0_0.length c0_0), (.slice A0_1 l0_1.length c0_1)] 35 (0, 0))) ∧ zA (Below w.heap.size w w'))
  case atStart => exact ⟨(0), (a1), (by first | rfl | (simp; done) | (simp [*]; done)), (by first | rfl | (simp; done) | (simp [*]; done)), H', ⟨Nat.le_refl _⟩, ⟨by (with_reducible repeat (first | refine zC ?_ _ | refine zD ?_ | refine zB ?_ _)); exact BK329.out⟩, ⟨by repeat (first | (with_reducible first | exact HB.out | apply zI | apply zF | apply zH | refine zE ?_ GE329.out) | exact HB.out)⟩⟩
  case round =>
    clear H'; try clear p2
    try clear c3
    obtain ⟨x7_1, x8_1, rfl, rfl, HA, HK1, BK329, HB⟩ := hrel; cases gk with
    | zero => exact absurd HA.out (by simp [stanzaref13_Gaps.l0])
    | succ k1 =>
      have H := HA.out; clear HA; simp only [stanzaref13_Gaps.l0] at H; replace H := Option.bind_eq_some_iff.mp H; obtain ⟨t330, A50, H⟩ := H; replace H : (if x8_1 < t330 then (if 0 ≤ x8_1 then (if x8_1 < (l0_0.length : Int) then (if ((rd_T41 l0_0 x8_1).f3) = 1 then (stanzaref13_Gaps.l0 k1 a1 a2 (wrap64 (x7_1 + 1)) (wrap64 (x8_1 + 1)) l0_0 l0_1) else (stanzaref13_Gaps.l0 k1 a1 a2 x7_1 (wrap64 (x8_1 + 1)) l0_0 l0_1)) else (none)) else (none)) else (some x7_1)) = some r := H; have A5 := zA.mk A50; clear A50; by_cases c6 : x8_1 < t330
      · rw [if_pos c6] at H
        have c6b0 : decide (x8_1 < t330) = true := decide_eq_true c6
        clear c6; by_cases c7 : 0 ≤ x8_1
        · rw [if_pos c7] at H
          have c7b0 : decide (0 ≤ x8_1) = true := decide_eq_true c7
          clear c7; by_cases c8 : x8_1 < (l0_0.length : Int)
          · rw [if_pos c8] at H
            have c8b0 : decide (x8_1 < (l0_0.length : Int)) = true := decide_eq_true c8
            clear c8; by_cases c9 : ((rd_T41 l0_0 x8_1).f3) = 1
            · rw [if_pos c9] at H
              have c9b0 : (((rd_T41 l0_0 x8_1).f3) == 1) = true := beq_iff_eq.mpr c9
              have c9b1 : (((rd_T41 l0_0 x8_1).f3) != 1) = false := bne_eq_false_iff_eq.mpr c9
              clear c9; have H' := zA.mk H
              clear H; have hcz10_0 : wr.cell? ⟨gb329, 0, none⟩ = some (.slice A0_0 l0_0.length c0_0) := (zG BK329.out 0).trans rfl
              have hcz10_1 : wr.cell? ⟨gb329, 1, none⟩ = some (.slice A0_1 l0_1.length c0_1) := (zG BK329.out 1).trans rfl
              have hfz10_0 := zJ BK329.out 0; have hfz10_1 := zJ BK329.out 1; go_wp2_with (first | ((with_reducible refine gate_callee (f := 31) rfl ?_); refine goesL_ (some 14) rfl rfl Try.func31 (by kernel_rfl) rfl #[.agg #[.slice A0_0 l0_0.length c0_0, .slice A0_1 l0_1.length c0_1], .int .i64 a1, .int .i64 a2] rfl (by (try simp only [List.map_toArray, List.map_cons, List.map_nil]); first | done | rfl | (simp only [List.length_drop, List.length_take]; rfl)) ?_; (with_reducible refine (stanzaref13_Trim.calls k1 _ _ l0_0 _ _ l0_1 a1 a2 t330 _ ?side1 ?side2 ?side3 ?side4 A5.out).mono ?_); (case side1 => repeat (first | exact (Kd.C_below HR0_0.out HB.out) | (with_reducible refine Kd.C_alloc ?_ _) | (with_reducible refine Kd.C_drewN ?_ _) | (with_reducible refine Kd.C_drew ?_))); (case side2 => exact HC0_0.out); (case side3 => repeat (first | exact (Kd.C_below HR0_1.out HB.out) | (with_reducible refine Kd.C_alloc ?_ _) | (with_reducible refine Kd.C_drewN ?_ _) | (with_reducible refine Kd.C_drew ?_))); (case side4 => exact HC0_1.out); rintro e w11 ⟨rfl, hb⟩; refine ⟨_, rfl, ?_⟩; have n0_ := zA.mk (zL (g := gb329) (o := .cells #[.slice A0_0 l0_0.length c0_0, .slice A0_1 l0_1.length c0_1] 35 (0, 0)) (by (with_reducible repeat (first | refine zC ?_ _ | refine zD ?_ | refine zB ?_ _)); exact BK329.out) hb); have n1_ := zA.mk (zO (by repeat (first | (with_reducible first | exact HB.out | apply zI | apply zF | apply zH | refine zE ?_ GE329.out) | exact HB.out)) hb); clear BK329; clear HB; have BK329 := n0_; have HB := n1_; clear n0_ n1_; (try clear hb); (try clear hb2); (try clear hk); (try clear hi); have hcz12_0 : w11.cell? ⟨gb329, 0, none⟩ = some (.slice A0_0 l0_0.length c0_0) := (zG BK329.out 0).trans rfl; have hcz12_1 : w11.cell? ⟨gb329, 1, none⟩ = some (.slice A0_1 l0_1.length c0_1) := (zG BK329.out 1).trans rfl; have hfz12_0 := zJ BK329.out 0; have hfz12_1 := zJ BK329.out 1; have p331 : 0 ≤ (x8_1 : Int) := of_decide_eq_true (by first | (with_reducible assumption) | assumption); have q331 : x8_1 < (l0_0.length : Int) := of_decide_eq_true (by first | (with_reducible assumption) | assumption); obtain ⟨ad331, e331, hx331_0, hx331_1, hx331_2, hx331_3⟩ := at_T41 HR0_0.out x8_1 p331 q331; cases e331; replace hx331_0 := (HB.out.cell (World.block_lt_of_cell? w _ hx331_0)).trans hx331_0; replace hx331_1 := (HB.out.cell (World.block_lt_of_cell? w _ hx331_1)).trans hx331_1; replace hx331_2 := (HB.out.cell (World.block_lt_of_cell? w _ hx331_2)).trans hx331_2; replace hx331_3 := (HB.out.cell (World.block_lt_of_cell? w _ hx331_3)).trans hx331_3; replace p331 := eq_true p331; replace q331 := eq_true q331))
              go_roundg k1
              case measure => have := HK1.out; omega
              case rel => exact ⟨(wrap64 (x7_1 + 1)), (wrap64 (x8_1 + 1)), (by first | rfl | (simp; done) | (simp [*]; done)), (by first | rfl | (simp; done) | (simp [*]; done)), H', ⟨by have := HK1.out; omega⟩, ⟨by (with_reducible repeat (first | refine zC ?_ _ | refine zD ?_ | refine zB ?_ _)); exact BK329.out⟩, ⟨by repeat (first | (with_reducible first | exact HB.out | apply zI | apply zF | apply zH | refine zE ?_ GE329.out) | exact HB.out)⟩⟩
            · rw [if_neg c9] at H
              have c9b0 : (((rd_T41 l0_0 x8_1).f3) == 1) = false := beq_eq_false_iff_ne.mpr c9
              have c9b1 : (((rd_T41 l0_0 x8_1).f3) != 1) = true := bne_iff_ne.mpr c9
              have H' := zA.mk H
              clear H; have hcz13_0 : wr.cell? ⟨gb329, 0, none⟩ = some (.slice A0_0 l0_0.length c0_0) := (zG BK329.out 0).trans rfl
              have hcz13_1 : wr.cell? ⟨gb329, 1, none⟩ = some (.slice A0_1 l0_1.length c0_1) := (zG BK329.out 1).trans rfl
              have hfz13_0 := zJ BK329.out 0; have hfz13_1 := zJ BK329.out 1; go_wp2_with (first | ((with_reducible refine gate_callee (f := 31) rfl ?_); refine goesL_ (some 14) rfl rfl Try.func31 (by kernel_rfl) rfl #[.agg #[.slice A0_0 l0_0.length c0_0, .slice A0_1 l0_1.length c0_1], .int .i64 a1, .int .i64 a2] rfl (by (try simp only [List.map_toArray, List.map_cons, List.map_nil]); first | done | rfl | (simp only [List.length_drop, List.length_take]; rfl)) ?_; (with_reducible refine (stanzaref13_Trim.calls k1 _ _ l0_0 _ _ l0_1 a1 a2 t330 _ ?side1 ?side2 ?side3 ?side4 A5.out).mono ?_); (case side1 => repeat (first | exact (Kd.C_below HR0_0.out HB.out) | (with_reducible refine Kd.C_alloc ?_ _) | (with_reducible refine Kd.C_drewN ?_ _) | (with_reducible refine Kd.C_drew ?_))); (case side2 => exact HC0_0.out); (case side3 => repeat (first | exact (Kd.C_below HR0_1.out HB.out) | (with_reducible refine Kd.C_alloc ?_ _) | (with_reducible refine Kd.C_drewN ?_ _) | (with_reducible refine Kd.C_drew ?_))); (case side4 => exact HC0_1.out); rintro e w14 ⟨rfl, hb⟩; refine ⟨_, rfl, ?_⟩; have n0_ := zA.mk (zL (g := gb329) (o := .cells #[.slice A0_0 l0_0.length c0_0, .slice A0_1 l0_1.length c0_1] 35 (0, 0)) (by (with_reducible repeat (first | refine zC ?_ _ | refine zD ?_ | refine zB ?_ _)); exact BK329.out) hb); have n1_ := zA.mk (zO (by repeat (first | (with_reducible first | exact HB.out | apply zI | apply zF | apply zH | refine zE ?_ GE329.out) | exact HB.out)) hb); clear BK329; clear HB; have BK329 := n0_; have HB := n1_; clear n0_ n1_; (try clear hb); (try clear hb2); (try clear hk); (try clear hi); have hcz15_0 : w14.cell? ⟨gb329, 0, none⟩ = some (.slice A0_0 l0_0.length c0_0) := (zG BK329.out 0).trans rfl; have hcz15_1 : w14.cell? ⟨gb329, 1, none⟩ = some (.slice A0_1 l0_1.length c0_1) := (zG BK329.out 1).trans rfl; have hfz15_0 := zJ BK329.out 0; have hfz15_1 := zJ BK329.out 1; have p331 : 0 ≤ (x8_1 : Int) := of_decide_eq_true (by first | (with_reducible assumption) | assumption); have q331 : x8_1 < (l0_0.length : Int) := of_decide_eq_true (by first | (with_reducible assumption) | assumption); obtain ⟨ad331, e331, hx331_0, hx331_1, hx331_2, hx331_3⟩ := at_T41 HR0_0.out x8_1 p331 q331; cases e331; replace hx331_0 := (HB.out.cell (World.block_lt_of_cell? w _ hx331_0)).trans hx331_0; replace hx331_1 := (HB.out.cell (World.block_lt_of_cell? w _ hx331_1)).trans hx331_1; replace hx331_2 := (HB.out.cell (World.block_lt_of_cell? w _ hx331_2)).trans hx331_2; replace hx331_3 := (HB.out.cell (World.block_lt_of_cell? w _ hx331_3)).trans hx331_3; replace p331 := eq_true p331; replace q331 := eq_true q331))
              go_roundg k1
              case measure => have := HK1.out; omega
              case rel => exact ⟨(x7_1), (wrap64 (x8_1 + 1)), (by first | rfl | (simp; done) | (simp [*]; done)), (by first | rfl | (simp; done) | (simp [*]; done)), H', ⟨by have := HK1.out; omega⟩, ⟨by (with_reducible repeat (first | refine zC ?_ _ | refine zD ?_ | refine zB ?_ _)); exact BK329.out⟩, ⟨by repeat (first | (with_reducible first | exact HB.out | apply zI | apply zF | apply zH | refine zE ?_ GE329.out) | exact HB.out)⟩⟩
          · rw [if_neg c8] at H
            exact absurd H (by simp)
        · rw [if_neg c7] at H
          exact absurd H (by simp)
      · rw [if_neg c6] at H
        have c6b0 : decide (x8_1 < t330) = false := decide_eq_false c6
        clear c6; obtain rfl := Option.some.inj H
        have hcz16_0 : wr.cell? ⟨gb329, 0, none⟩ = some (.slice A0_0 l0_0.length c0_0) := (zG BK329.out 0).trans rfl
        have hcz16_1 : wr.cell? ⟨gb329, 1, none⟩ = some (.slice A0_1 l0_1.length c0_1) := (zG BK329.out 1).trans rfl
        have hfz16_0 := zJ BK329.out 0; have hfz16_1 := zJ BK329.out 1; go_wp2_with (first | ((with_reducible refine gate_callee (f := 31) rfl ?_); refine goesL_ (some 14) rfl rfl Try.func31 (by kernel_rfl) rfl #[.agg #[.slice A0_0 l0_0.length c0_0, .slice A0_1 l0_1.length c0_1], .int .i64 a1, .int .i64 a2] rfl (by (try simp only [List.map_toArray, List.map_cons, List.map_nil]); first | done | rfl | (simp only [List.length_drop, List.length_take]; rfl)) ?_; (with_reducible refine (stanzaref13_Trim.calls k1 _ _ l0_0 _ _ l0_1 a1 a2 t330 _ ?side1 ?side2 ?side3 ?side4 A5.out).mono ?_); (case side1 => repeat (first | exact (Kd.C_below HR0_0.out HB.out) | (with_reducible refine Kd.C_alloc ?_ _) | (with_reducible refine Kd.C_drewN ?_ _) | (with_reducible refine Kd.C_drew ?_))); (case side2 => exact HC0_0.out); (case side3 => repeat (first | exact (Kd.C_below HR0_1.out HB.out) | (with_reducible refine Kd.C_alloc ?_ _) | (with_reducible refine Kd.C_drewN ?_ _) | (with_reducible refine Kd.C_drew ?_))); (case side4 => exact HC0_1.out); rintro e w17 ⟨rfl, hb⟩; refine ⟨_, rfl, ?_⟩; have n0_ := zA.mk (zL (g := gb329) (o := .cells #[.slice A0_0 l0_0.length c0_0, .slice A0_1 l0_1.length c0_1] 35 (0, 0)) (by (with_reducible repeat (first | refine zC ?_ _ | refine zD ?_ | refine zB ?_ _)); exact BK329.out) hb); have n1_ := zA.mk (zO (by repeat (first | (with_reducible first | exact HB.out | apply zI | apply zF | apply zH | refine zE ?_ GE329.out) | exact HB.out)) hb); clear BK329; clear HB; have BK329 := n0_; have HB := n1_; clear n0_ n1_; (try clear hb); (try clear hb2); (try clear hk); (try clear hi)))
        go_ret
        exact ⟨by first | rfl | (simp [errW_none, errW_some] <;> rfl) | (simp [*, errW_none, errW_some] <;> rfl), by repeat (first | (with_reducible first | exact HB.out | apply zI | apply zF | apply zH | refine zE ?_ GE329.out) | exact HB.out)⟩
end Go.Proofs.Ytbnoeeflpegcoaa.F
end
