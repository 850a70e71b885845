/- Printed by a program: Lean functions that answer as the Go functions do, and the proofs of it. -/
import Derived.Test.YtcnblneghbgjgaaVLinesRows0
import Derived.Test.YtcnblneghbgjgaaVLinesRows3
section
namespace Go.Proofs.Ytcnblneghbgjgaa.F
open Go.RowKit Go.Proofs.YtcnblneghbgjgaaW.PrintWords Go.Proofs.YtcnblneghbgjgaaW.PrintLast Go.Proofs.YtcnblneghbgjgaaW.PrintMore
attribute [local go_sem] max2_int min2_int max_two min_two max_three min_three max_four min_four   -- for this text's walks alone
set_option linter.unusedVariables false
set_option linter.unusedSimpArgs false
mutual
def stanzalaw16_LinesRows.l0 : Nat → List (S54) → Int → Int → List (S53) → List (S53) → Int → Int → List (S66) → List Int → Option (Bool)
  | 0, _, _, _, _, _, _, _, _, _ => none
  | k + 1, x7, x9, x10, x11, x32, x33, x34, x660000, x660001 => if x34 < x33 then (if 0 ≤ x34 then (if x34 < (x32.length : Int) then (if ((rd_T53 x32 x34).f0) = x9 then (if ((rd_T53 x32 x34).f1) < x9 then (stanzalaw16_LinesRows.j1 k x7 x10 x11 x32 x33 x34 true x660000 x660001 ((rd_T53 x32 x34).f0) ((rd_T53 x32 x34).f1) ((rd_T53 x32 x34).f2) ((rd_T53 x32 x34).f3)) else (if (x7.length : Int) > 0 then (if ((rd_T53 x32 x34).f1) = x9 then (stanzalaw16_LinesRows.j1 k x7 x10 x11 x32 x33 x34 true x660000 x660001 ((rd_T53 x32 x34).f0) ((rd_T53 x32 x34).f1) ((rd_T53 x32 x34).f2) ((rd_T53 x32 x34).f3)) else (if x34 < (x7.length : Int) then (if ((rd_T53 x32 x34).f2) = ((rd_T54 x7 x34).f2) then (stanzalaw16_LinesRows.j1 k x7 x10 x11 x32 x33 x34 (((rd_T53 x32 x34).f3) != ((rd_T54 x7 x34).f3)) x660000 x660001 ((rd_T53 x32 x34).f0) ((rd_T53 x32 x34).f1) ((rd_T53 x32 x34).f2) ((rd_T53 x32 x34).f3)) else (stanzalaw16_LinesRows.j1 k x7 x10 x11 x32 x33 x34 true x660000 x660001 ((rd_T53 x32 x34).f0) ((rd_T53 x32 x34).f1) ((rd_T53 x32 x34).f2) ((rd_T53 x32 x34).f3))) else (none))) else (stanzalaw16_LinesRows.j1 k x7 x10 x11 x32 x33 x34 false x660000 x660001 ((rd_T53 x32 x34).f0) ((rd_T53 x32 x34).f1) ((rd_T53 x32 x34).f2) ((rd_T53 x32 x34).f3)))) else (stanzalaw16_LinesRows.j1 k x7 x10 x11 x32 x33 x34 true x660000 x660001 ((rd_T53 x32 x34).f0) ((rd_T53 x32 x34).f1) ((rd_T53 x32 x34).f2) ((rd_T53 x32 x34).f3))) else (none)) else (none)) else ((items_Bytes.f k x660000 x660001).bind fun t668 => (if x9 = t668 then ((items_Parts.f k x660000 x660001).bind fun t669 => (if x10 = (t669.length : Int) then (if 0 ≤ (wrap64 ((x11.length : Int) - 1)) then (if (wrap64 ((x11.length : Int) - 1)) < (x11.length : Int) then (some (((rd_T53 x11 (wrap64 ((x11.length : Int) - 1))).f3) == 2)) else (none)) else (none)) else (some false))) else (some false)))
def stanzalaw16_LinesRows.j1 : Nat → List (S54) → Int → List (S53) → List (S53) → Int → Int → Bool → List (S66) → List Int → Int → Int → Int → Int → Option (Bool)
  | 0, _, _, _, _, _, _, _, _, _, _, _, _, _ => none
  | k + 1, x7, x10, x11, x32, x33, x34, x79, x660000, x660001, x675000, x675001, x675002, x675003 => if x79 = true then (some false) else (if x675003 = 2 then (stanzalaw16_LinesRows.l0 k x7 x675001 (wrap64 (x10 + 1)) x11 x32 x33 (wrap64 (x34 + 1)) x660000 x660001) else (stanzalaw16_LinesRows.l0 k x7 x675001 x10 x11 x32 x33 (wrap64 (x34 + 1)) x660000 x660001))
end
def stanzalaw16_LinesRows.f (k : Nat) (l0 : List (S63)) (a1_0 : Int) (a1_1 : Int) (a1_2 : Int) (a1_3 : Int) (a1_4 : Int) (a1_5 : Nat) : Option (Bool) := (stanzalaw16_Awake.f k).bind fun t646 => (if t646 = true then (if (l0.length : Int) > 300 then (some true) else ((stanzahand03_Para.f k l0).bind fun bt647 => ((stanzahand03_Config.f a1_0 a1_1 a1_2 a1_3 a1_4 a1_5).bind fun bt653 => ((lines_Break.f k bt647.1 bt647.2 bt653.1 bt653.2.1 bt653.2.2.1 bt653.2.2.2.1 bt653.2.2.2.2.1 bt653.2.2.2.2.2).bind fun bt661 => ((lines_Rows.f k bt647.1 bt647.2 bt661.1).bind fun t665 => (stanzalaw16_LinesRows.l0 k bt661.1 0 0 t665 t665 (t665.length : Int) 0 bt647.1 bt647.2)))))) else (some false))
theorem stanzalaw16_LinesRows.mono_l : ∀ k, (∀ y0 y1 y2 y3 y4 y5 y6 y7 y8, LeO (stanzalaw16_LinesRows.l0 k y0 y1 y2 y3 y4 y5 y6 y7 y8) (stanzalaw16_LinesRows.l0 (k + 1) y0 y1 y2 y3 y4 y5 y6 y7 y8)) ∧ (∀ y0 y1 y2 y3 y4 y5 y6 y7 y8 y9 y10 y11 y12, LeO (stanzalaw16_LinesRows.j1 k y0 y1 y2 y3 y4 y5 y6 y7 y8 y9 y10 y11 y12) (stanzalaw16_LinesRows.j1 (k + 1) y0 y1 y2 y3 y4 y5 y6 y7 y8 y9 y10 y11 y12))
  | 0 => ⟨fun _ _ _ _ _ _ _ _ _ r h => by simp [stanzalaw16_LinesRows.l0] at h, fun _ _ _ _ _ _ _ _ _ _ _ _ _ r h => by simp [stanzalaw16_LinesRows.j1] at h⟩
  | k + 1 => by
    obtain ⟨ih0, ih1⟩ := stanzalaw16_LinesRows.mono_l k; refine ⟨?_, ?_⟩
    · intro y0 y1 y2 y3 y4 y5 y6 y7 y8
      unfold stanzalaw16_LinesRows.l0
      repeat' first
      | (with_reducible exact ih0 _ _ _ _ _ _ _ _ _)
      | (with_reducible exact ih1 _ _ _ _ _ _ _ _ _ _ _ _ _)
      | (with_reducible exact items_Bytes.mono _ _ _)
      | (with_reducible exact items_Parts.mono _ _ _)
      | (with_reducible exact lines_Break.mono _ _ _ _ _ _ _ _ _)
      | (with_reducible exact lines_Rows.mono _ _ _ _)
      | (with_reducible exact stanzahand03_Para.mono _ _)
      | (with_reducible exact stanzalaw16_Awake.mono _)
      | (with_reducible exact LeO.refl _)
      | (with_reducible exact LeO.none _)
      | (with_reducible refine LeO.ite ?_ ?_)
      | (with_reducible refine LeO.bind ?_ (fun _ => ?_))
      | exact ih0 _ _ _ _ _ _ _ _ _
      | exact ih1 _ _ _ _ _ _ _ _ _ _ _ _ _
      | exact items_Bytes.mono _ _ _
      | exact items_Parts.mono _ _ _
      | exact lines_Break.mono _ _ _ _ _ _ _ _ _
      | exact lines_Rows.mono _ _ _ _
      | exact stanzahand03_Para.mono _ _
      | exact stanzalaw16_Awake.mono _
      | exact LeO.none _
      | refine LeO.ite ?_ ?_
      | refine LeO.bind ?_ (fun _ => ?_)
    · intro y0 y1 y2 y3 y4 y5 y6 y7 y8 y9 y10 y11 y12
      unfold stanzalaw16_LinesRows.j1
      repeat' first
      | (with_reducible exact ih0 _ _ _ _ _ _ _ _ _)
      | (with_reducible exact ih1 _ _ _ _ _ _ _ _ _ _ _ _ _)
      | (with_reducible exact items_Bytes.mono _ _ _)
      | (with_reducible exact items_Parts.mono _ _ _)
      | (with_reducible exact lines_Break.mono _ _ _ _ _ _ _ _ _)
      | (with_reducible exact lines_Rows.mono _ _ _ _)
      | (with_reducible exact stanzahand03_Para.mono _ _)
      | (with_reducible exact stanzalaw16_Awake.mono _)
      | (with_reducible exact LeO.refl _)
      | (with_reducible exact LeO.none _)
      | (with_reducible refine LeO.ite ?_ ?_)
      | (with_reducible refine LeO.bind ?_ (fun _ => ?_))
      | exact ih0 _ _ _ _ _ _ _ _ _
      | exact ih1 _ _ _ _ _ _ _ _ _ _ _ _ _
      | exact items_Bytes.mono _ _ _
      | exact items_Parts.mono _ _ _
      | exact lines_Break.mono _ _ _ _ _ _ _ _ _
      | exact lines_Rows.mono _ _ _ _
      | exact stanzahand03_Para.mono _ _
      | exact stanzalaw16_Awake.mono _
      | exact LeO.none _
      | refine LeO.ite ?_ ?_
      | refine LeO.bind ?_ (fun _ => ?_)
theorem stanzalaw16_LinesRows.mono : ∀ a0 a1 a2 a3 a4 a5 a6 k, LeO (stanzalaw16_LinesRows.f k a0 a1 a2 a3 a4 a5 a6) (stanzalaw16_LinesRows.f (k + 1) a0 a1 a2 a3 a4 a5 a6) := by
  intro a0 a1 a2 a3 a4 a5 a6 k
  obtain ⟨ih0, ih1⟩ := stanzalaw16_LinesRows.mono_l k; unfold stanzalaw16_LinesRows.f
  repeat' first
      | (with_reducible exact ih0 _ _ _ _ _ _ _ _ _)
      | (with_reducible exact ih1 _ _ _ _ _ _ _ _ _ _ _ _ _)
      | (with_reducible exact items_Bytes.mono _ _ _)
      | (with_reducible exact items_Parts.mono _ _ _)
      | (with_reducible exact lines_Break.mono _ _ _ _ _ _ _ _ _)
      | (with_reducible exact lines_Rows.mono _ _ _ _)
      | (with_reducible exact stanzahand03_Para.mono _ _)
      | (with_reducible exact stanzalaw16_Awake.mono _)
      | (with_reducible exact LeO.refl _)
      | (with_reducible exact LeO.none _)
      | (with_reducible refine LeO.ite ?_ ?_)
      | (with_reducible refine LeO.bind ?_ (fun _ => ?_))
      | exact ih0 _ _ _ _ _ _ _ _ _
      | exact ih1 _ _ _ _ _ _ _ _ _ _ _ _ _
      | exact items_Bytes.mono _ _ _
      | exact items_Parts.mono _ _ _
      | exact lines_Break.mono _ _ _ _ _ _ _ _ _
      | exact lines_Rows.mono _ _ _ _
      | exact stanzahand03_Para.mono _ _
      | exact stanzalaw16_Awake.mono _
      | exact LeO.none _
      | refine LeO.ite ?_ ?_
      | refine LeO.bind ?_ (fun _ => ?_)
def stanzalaw16_LinesRows.T5 : Bool × List (List Nat × List Nat) := (true, [([], []), ([0], [0]), ([], []), ([2, 1], [2]), ([], []), ([], []), ([4, 1, 3, 0, 1, 4, 5], [1, 4]), ([5, 3, 6, 0, 1, 2, 3, 4, 5, 6], [3, 5])])
def stanzalaw16_LinesRows.B5 : List Nat := [0, 1, 0, 7, 0, 0, 63, 127]
theorem stanzalaw16_LinesRows.tab5 : rtab .any (opsOf Try.f6 5) = stanzalaw16_LinesRows.T5 := by kernel_rfl
theorem stanzalaw16_LinesRows.bits5 : waitsOk stanzalaw16_LinesRows.T5.2 stanzalaw16_LinesRows.B5 = true := by kernel_rfl
def stanzalaw16_LinesRows.T12 : Bool × List (List Nat × List Nat) := (true, [([], []), ([0], [0]), ([], []), ([1, 2], [1, 2]), ([3], [3]), ([4], [4]), ([5, 4], [4, 5]), ([4], [4]), ([6, 7, 4], [4, 6, 7]), ([4, 8], [4, 8]), ([9, 4], [9]), ([10], [10]), ([11, 10], [10, 11]), ([12, 10], [10, 12]), ([13, 10, 10], [10, 13]), ([14], [14]), ([15, 14], [14, 15]), ([14], [14]), ([16, 17, 14], [14, 16, 17]), ([18, 14, 14], [14, 18]), ([19], [19]), ([20, 19], [19, 20]), ([19], [19]), ([19], [19]), ([22, 23, 19], [19, 22, 23]), ([24, 19], [19, 24]), ([25, 19], [19, 25]), ([21, 26, 19], [19, 21, 26]), ([19, 27, 14], [14, 19, 27]), ([28, 19, 14], [14, 28]), ([29], [29]), ([30, 29], [29, 30]), ([29], [29]), ([29], [29]), ([32, 33, 29], [29, 32, 33]), ([34, 29], [29, 34]), ([35, 29], [29, 35]), ([31, 36, 29], [29, 31, 36]), ([29, 37, 14], [14, 29, 37]), ([14, 38, 10], [10, 14, 38]), ([10, 39], [10, 39])])
def stanzalaw16_LinesRows.B12 : List Nat := [0, 1, 0, 7, 15, 31, 63, 31, 255, 511, 1023, 2047, 4095, 8191, 16383, 32767, 65535, 32767, 262143, 524287, 1048575, 2097151, 1048575, 1048575, 13631487, 30408703, 63963135, 134217727, 268435455, 536870911, 1073741823, 2147483647, 1073741823, 1073741823, 13958643711, 31138512895, 65498251263, 137438953471, 274877906943, 549755813887, 1099511627775]
theorem stanzalaw16_LinesRows.tab12 : rtab .any (opsOf Try.f6 12) = stanzalaw16_LinesRows.T12 := by kernel_rfl
theorem stanzalaw16_LinesRows.bits12 : waitsOk stanzalaw16_LinesRows.T12.2 stanzalaw16_LinesRows.B12 = true := by kernel_rfl
set_option maxHeartbeats 8000000 in
set_option maxRecDepth 100000 in
theorem stanzalaw16_LinesRows.calls (k : Nat) (A0 : Option Addr) (c0 : Nat) (l0 : List (S63)) (a1_0 : Int) (a1_1 : Int) (a1_2 : Int) (a1_3 : Int) (a1_4 : Int) (a1_5 : Nat) (r : Bool) (w : World) (hr0 : Kd.C k63 w A0 l0.length l0) (hc0 : l0.length ≤ c0) (h : stanzalaw16_LinesRows.f k l0 a1_0 a1_1 a1_2 a1_3 a1_4 a1_5 = some r) (hrt_ : zC (r = true)) :
    Calls Try.prog 6 #[.slice A0 l0.length c0, .agg #[.int .u8 a1_0, .int .u8 a1_1, .int .u8 a1_2, .int .u16 a1_3, .int .u16 a1_4, .float .f64 a1_5]] w fun e w' => e = .returned (.bool r) ∧ Below w.heap.size w w' := by
  have hu26 := Try.underlying26; have hu31 := Try.underlying31; have hu35 := Try.underlying35; have hu53 := Try.underlying53; have HR0 := zC.mk hr0; have HC0 := zC.mk hc0; clear hr0 hc0; have HB := zC.mk (Below.refl w.heap.size w); have H : ((stanzalaw16_Awake.f k).bind fun t646 => (if t646 = true then (if (l0.length : Int) > 300 then (some true) else ((stanzahand03_Para.f k l0).bind fun bt647 => ((stanzahand03_Config.f a1_0 a1_1 a1_2 a1_3 a1_4 a1_5).bind fun bt653 => ((lines_Break.f k bt647.1 bt647.2 bt653.1 bt653.2.1 bt653.2.2.1 bt653.2.2.2.1 bt653.2.2.2.2.1 bt653.2.2.2.2.2).bind fun bt661 => ((lines_Rows.f k bt647.1 bt647.2 bt661.1).bind fun t665 => (stanzalaw16_LinesRows.l0 k bt661.1 0 0 t665 t665 (t665.length : Int) 0 bt647.1 bt647.2)))))) else (some false))) = some r := h
  clear h; replace H := Option.bind_eq_some_iff.mp H; obtain ⟨t646, A30, H⟩ := H; replace H : (if t646 = true then (if (l0.length : Int) > 300 then (some true) else ((stanzahand03_Para.f k l0).bind fun bt647 => ((stanzahand03_Config.f a1_0 a1_1 a1_2 a1_3 a1_4 a1_5).bind fun bt653 => ((lines_Break.f k bt647.1 bt647.2 bt653.1 bt653.2.1 bt653.2.2.1 bt653.2.2.2.1 bt653.2.2.2.2.1 bt653.2.2.2.2.2).bind fun bt661 => ((lines_Rows.f k bt647.1 bt647.2 bt661.1).bind fun t665 => (stanzalaw16_LinesRows.l0 k bt661.1 0 0 t665 t665 (t665.length : Int) 0 bt647.1 bt647.2)))))) else (some false)) = some r := H
  have A3 := zC.mk A30; clear A30; by_cases c4 : t646 = true
  rotate_left
  · replace c4 := Bool.eq_false_iff.mpr c4
    subst c4; have H1 : (some false) = some r := by rw [if_neg (show ¬ (false = true) by decide)] at H; exact H
    clear H; have H := H1; clear H1; exact absurd ((Option.some.inj H).trans hrt_.out) (by decide)
  subst c4; have H1 : (if (l0.length : Int) > 300 then (some true) else ((stanzahand03_Para.f k l0).bind fun bt647 => ((stanzahand03_Config.f a1_0 a1_1 a1_2 a1_3 a1_4 a1_5).bind fun bt653 => ((lines_Break.f k bt647.1 bt647.2 bt653.1 bt653.2.1 bt653.2.2.1 bt653.2.2.2.1 bt653.2.2.2.2.1 bt653.2.2.2.2.2).bind fun bt661 => ((lines_Rows.f k bt647.1 bt647.2 bt661.1).bind fun t665 => (stanzalaw16_LinesRows.l0 k bt661.1 0 0 t665 t665 (t665.length : Int) 0 bt647.1 bt647.2)))))) = some r := by rw [if_pos rfl] at H; exact H
  clear H; have H := H1; clear H1; by_cases c5 : (l0.length : Int) > 300
  · rw [if_pos c5] at H
    have c5b0 : decide (300 < (l0.length : Int)) = true := decide_eq_true c5
    have c5b1 : decide (300 < l0.length) = true := decide_eq_true (by omega)
    clear c5; obtain rfl := Option.some.inj H
    go_enter Try.func6, Try.ntmps6
    go_wp2_with (first | ((with_reducible refine gate_dst (N := 3) rfl ?_); (try (refine gate_guard (by rfl) ?_; dsimp only)); refine box_event ?hg (N := 3) ?hd (cs := #[.int .u8 a1_0, .int .u8 a1_1, .int .u8 a1_2, .int .u16 a1_3, .int .u16 a1_4, .float .f64 a1_5]) (t := 26) ?hr ?_; (case hd => rfl); (case hg => rfl); (case hr => first | (go_simp; done) | (go_simp; rfl)); intro gb645 hg w6 hbox hb; have n0_ := zC.mk (zQ (by repeat (first | (with_reducible first | exact HB.out | apply zJ | apply zG | apply zI) | exact HB.out)) hb); have n1_ := zC.mk (hbox); have n2_ := zC.mk ((by rw [hg]; exact (zP (by repeat (first | (with_reducible first | exact HB.out | apply zJ | apply zG | apply zI) | exact HB.out))) : w.heap.size ≤ gb645)); have n3_ := zC.mk ((by rw [hg]; exact (zP (by repeat (first | (with_reducible first | exact HB.out | apply zJ | apply zG | apply zI) | exact HB.out))) : w.heap.size ≤ gb645)); clear HB; have HB := n0_; have BK645 := n1_; have GW645 := n2_; have GE645 := n3_; clear n0_ n1_ n2_ n3_; clear hb hbox hg) | ((with_reducible refine gate_callee (f := 9) rfl ?_); refine goesL_ (some 14) rfl rfl Try.func9 (by kernel_rfl) rfl #[] rfl (by (try simp only [List.map_toArray, List.map_cons, List.map_nil]); first | done | rfl | (simp only [List.length_drop, List.length_take]; rfl)) ?_; (with_reducible refine (stanzalaw16_Awake.calls k  true _ A3.out (by first | exact ⟨rfl⟩ | exact hrt_)).mono ?_); rintro e w7 ⟨rfl, hb⟩; refine ⟨_, rfl, ?_⟩; have n0_ := zC.mk (zK (g := gb645) (o := .cells #[.int .u8 a1_0, .int .u8 a1_1, .int .u8 a1_2, .int .u16 a1_3, .int .u16 a1_4, .float .f64 a1_5] 26 (0, 0)) (by (with_reducible repeat (first | refine zB ?_ _ | refine zD ?_ | refine zA ?_ _)); exact BK645.out) hb); have n1_ := zC.mk (zQ (by repeat (first | (with_reducible first | exact HB.out | apply zJ | apply zG | apply zI | refine zE ?_ GE645.out) | exact HB.out)) hb); clear BK645; clear HB; have BK645 := n0_; have HB := n1_; clear n0_ n1_; (try clear hb); (try clear hb2); (try clear hk); (try clear hi)))
    go_ret
    exact ⟨by first | rfl | (simp [errW_none, errW_some] <;> rfl) | (simp [*, errW_none, errW_some] <;> rfl), by repeat (first | (with_reducible first | exact HB.out | apply zJ | apply zG | apply zI | refine zE ?_ GE645.out) | exact HB.out)⟩
  rw [if_neg c5] at H; have c5b0 : decide (300 < (l0.length : Int)) = false := decide_eq_false c5
  have c5b1 : decide (300 < l0.length) = false := decide_eq_false (by omega)
  clear c5; replace H := Option.bind_eq_some_iff.mp H; obtain ⟨⟨t647, t650⟩, A80, H⟩ := H; replace H : ((stanzahand03_Config.f a1_0 a1_1 a1_2 a1_3 a1_4 a1_5).bind fun bt653 => ((lines_Break.f k t647 t650 bt653.1 bt653.2.1 bt653.2.2.1 bt653.2.2.2.1 bt653.2.2.2.2.1 bt653.2.2.2.2.2).bind fun bt661 => ((lines_Rows.f k t647 t650 bt661.1).bind fun t665 => (stanzalaw16_LinesRows.l0 k bt661.1 0 0 t665 t665 (t665.length : Int) 0 t647 t650)))) = some r := H
  have A8 := zC.mk A80; clear A80; replace H := Option.bind_eq_some_iff.mp H; obtain ⟨⟨t653, t654, t655, t656, t657, t658⟩, A90, H⟩ := H; replace H : ((lines_Break.f k t647 t650 t653 t654 t655 t656 t657 t658).bind fun bt661 => ((lines_Rows.f k t647 t650 bt661.1).bind fun t665 => (stanzalaw16_LinesRows.l0 k bt661.1 0 0 t665 t665 (t665.length : Int) 0 t647 t650))) = some r := H
  have A9 := zC.mk A90; clear A90; replace H := Option.bind_eq_some_iff.mp H; obtain ⟨⟨t661, t664⟩, A100, H⟩ := H; replace H : ((lines_Rows.f k t647 t650 t661).bind fun t665 => (stanzalaw16_LinesRows.l0 k t661 0 0 t665 t665 (t665.length : Int) 0 t647 t650)) = some r := H
  have A10 := zC.mk A100; clear A100; replace H := Option.bind_eq_some_iff.mp H; obtain ⟨t665, A110, H⟩ := H; replace H : (stanzalaw16_LinesRows.l0 k t661 0 0 t665 t665 (t665.length : Int) 0 t647 t650) = some r := H; have A11 := zC.mk A110; clear A110; have H' := zC.mk H
  clear H; go_enter Try.func6, Try.ntmps6
  try go_wp2_with (first | ((with_reducible refine gate_dst (N := 3) rfl ?_); (try (refine gate_guard (by rfl) ?_; dsimp only)); refine box_event ?hg (N := 3) ?hd (cs := #[.int .u8 a1_0, .int .u8 a1_1, .int .u8 a1_2, .int .u16 a1_3, .int .u16 a1_4, .float .f64 a1_5]) (t := 26) ?hr ?_; (case hd => rfl); (case hg => rfl); (case hr => first | (go_simp; done) | (go_simp; rfl)); intro gb645 hg w12 hbox hb; have n0_ := zC.mk (zQ (by repeat (first | (with_reducible first | exact HB.out | apply zJ | apply zG | apply zI) | exact HB.out)) hb); have n1_ := zC.mk (hbox); have n2_ := zC.mk ((by rw [hg]; exact (zP (by repeat (first | (with_reducible first | exact HB.out | apply zJ | apply zG | apply zI) | exact HB.out))) : w.heap.size ≤ gb645)); have n3_ := zC.mk ((by rw [hg]; exact (zP (by repeat (first | (with_reducible first | exact HB.out | apply zJ | apply zG | apply zI) | exact HB.out))) : w.heap.size ≤ gb645)); clear HB; have HB := n0_; have BK645 := n1_; have GW645 := n2_; have GE645 := n3_; clear n0_ n1_ n2_ n3_; clear hb hbox hg) | ((with_reducible refine gate_callee (f := 9) rfl ?_); refine goesL_ (some 14) rfl rfl Try.func9 (by kernel_rfl) rfl #[] rfl (by (try simp only [List.map_toArray, List.map_cons, List.map_nil]); first | done | rfl | (simp only [List.length_drop, List.length_take]; rfl)) ?_; (with_reducible refine (stanzalaw16_Awake.calls k  true _ A3.out (by first | exact ⟨rfl⟩ | exact hrt_)).mono ?_); rintro e w13 ⟨rfl, hb⟩; refine ⟨_, rfl, ?_⟩; have n0_ := zC.mk (zK (g := gb645) (o := .cells #[.int .u8 a1_0, .int .u8 a1_1, .int .u8 a1_2, .int .u16 a1_3, .int .u16 a1_4, .float .f64 a1_5] 26 (0, 0)) (by (with_reducible repeat (first | refine zB ?_ _ | refine zD ?_ | refine zA ?_ _)); exact BK645.out) hb); have n1_ := zC.mk (zQ (by repeat (first | (with_reducible first | exact HB.out | apply zJ | apply zG | apply zI | refine zE ?_ GE645.out) | exact HB.out)) hb); clear BK645; clear HB; have BK645 := n0_; have HB := n1_; clear n0_ n1_; (try clear hb); (try clear hb2); (try clear hk); (try clear hi)))
  have n0_ := zC.mk (zD BK645.out); have n1_ := zC.mk (zI HB.out); clear BK645; clear HB; have BK645 := n0_; have HB := n1_; clear n0_ n1_; refine start_ (n := 8) (S := fun w' => w'.cell? ⟨gb645, 0, none⟩ = some (.int .u8 a1_0) ∧ w'.cell? ⟨gb645, 1, none⟩ = some (.int .u8 a1_1) ∧ w'.cell? ⟨gb645, 2, none⟩ = some (.int .u8 a1_2) ∧ w'.cell? ⟨gb645, 3, none⟩ = some (.int .u16 a1_3) ∧ w'.cell? ⟨gb645, 4, none⟩ = some (.int .u16 a1_4) ∧ w'.cell? ⟨gb645, 5, none⟩ = some (.float .f64 a1_5)) (ds := []) #[false, false, false, false, false, false, false, false] (by kernel_rfl) rfl rfl ⟨(zF BK645.out 0).trans rfl, (zF BK645.out 1).trans rfl, (zF BK645.out 2).trans rfl, (zF BK645.out 3).trans rfl, (zF BK645.out 4).trans rfl, (zF BK645.out 5).trans rfl⟩ (fun hHeld => ?_); refine with_tabW stanzalaw16_LinesRows.tab5 stanzalaw16_LinesRows.bits5 (fun HT_ HW_ => ?_)
  generalize w13.drew = w14 at BK645 HB hHeld ⊢
  refine pure_ (i := 0) (N := some 19) (v := ?_) (a' := ?_) (tf_ 1 8) rfl rfl (zN HT_.out (by kernel_rfl)) (fun _ _ _ h => h) (Or.inl ⟨by rfl, ?_⟩) ?_ ?_
  rotate_left
  · intro w'
    go_simp
    with_reducible rfl
  rotate_left
  · simp only [Act.put, sA_, sB_, sC_, zL, zM]
    rfl
  refine take_ (i := 2) (N := some 21) (v := ?_) (a' := ?_) #[true, false, true, false, false, false, false, false] rfl rfl (take_ofW HT_.out HW_.out (by kernel_rfl)) (fun _ _ _ h => h) (Or.inl ⟨by rfl, ?_⟩) hHeld ?_ ?_
  rotate_left
  · rintro w' ⟨s0, s1, s2, s3, s4, s5⟩
    go_simp
    with_reducible rfl
  rotate_left
  · simp only [Act.put, sA_, sB_, sC_, zL, zM]
    rfl
  refine join_ (σ := Value × Value × Nat × Nat) 2 #[true, true, true, true, true, true, false, false] (fun s_ => [(20, .agg #[s_.1, s_.2.1]), (22, .agg #[.int .i64 t653, .int .i64 t654, .int .u8 t655, .int .i64 t656, .int .i64 t657, .float .f64 t658]), (5, .pointer (some ⟨s_.2.2.1, 0, none⟩)), (6, .pointer (some ⟨s_.2.2.2, 0, none⟩))]) (fun s_ w' => (w'.cell? ⟨gb645, 0, none⟩ = some (.int .u8 a1_0) ∧ w'.cell? ⟨gb645, 1, none⟩ = some (.int .u8 a1_1) ∧ w'.cell? ⟨gb645, 2, none⟩ = some (.int .u8 a1_2) ∧ w'.cell? ⟨gb645, 3, none⟩ = some (.int .u16 a1_3) ∧ w'.cell? ⟨gb645, 4, none⟩ = some (.int .u16 a1_4) ∧ w'.cell? ⟨gb645, 5, none⟩ = some (.float .f64 a1_5)) ∧ (Kd.R k66 66 w' w.heap.size (fun _ => True) s_.1 t647) ∧ (Kd.R (Kd.int .u8) 51 w' w.heap.size (fun _ => True) s_.2.1 t650) ∧ (w'.heap[gb645]? = some (.cells #[.int .u8 a1_0, .int .u8 a1_1, .int .u8 a1_2, .int .u16 a1_3, .int .u16 a1_4, .float .f64 a1_5] 26 (0, 0))) ∧ (w'.heap[s_.2.2.1]? = some (.cells #[.slice none 0 0, .slice none 0 0] 31 (0, 0))) ∧ (w'.heap[s_.2.2.2]? = some (.cells #[.int .i64 0, .int .i64 0, .int .u8 0, .int .i64 0, .int .i64 0, .float .f64 0] 35 (0, 0))) ∧ (w.heap.size ≤ s_.2.2.1) ∧ (w.heap.size ≤ s_.2.2.1) ∧ (gb645 ≠ s_.2.2.1) ∧ (s_.2.2.1 ≠ gb645) ∧ (s_.2.2.2 ≠ s_.2.2.1) ∧ (s_.2.2.1 ≠ s_.2.2.2) ∧ (w.heap.size ≤ s_.2.2.2) ∧ (w.heap.size ≤ s_.2.2.2) ∧ (gb645 ≠ s_.2.2.2) ∧ (s_.2.2.2 ≠ gb645) ∧ (Below w.heap.size w w')) ?_ ?_
  rotate_left
  · intro hJ1_3_4_5
    refine par4_ (fuel := 2) (l' := #[true, true, true, true, true, true, false, false]) (i1 := 1) (i3 := 3) (i4 := 4) (i5 := 5) (σ := Value × Value) (cs4 := #[.slice none 0 0, .slice none 0 0]) (t4 := 31) (cs5 := #[.int .i64 0, .int .i64 0, .int .u8 0, .int .i64 0, .int .i64 0, .float .f64 0]) (t5 := 35) (fun s_ => .agg #[s_.1, s_.2]) (.agg #[.int .i64 t653, .int .i64 t654, .int .u8 t655, .int .i64 t656, .int .i64 t657, .float .f64 t658]) (par4_of HT_.out (by kernel_rfl)) rfl rfl rfl rfl rfl rfl rfl rfl rfl rfl (by decide) rfl (fun w_ => (w_.cell? ⟨gb645, 0, none⟩ = some (.int .u8 a1_0) ∧ w_.cell? ⟨gb645, 1, none⟩ = some (.int .u8 a1_1) ∧ w_.cell? ⟨gb645, 2, none⟩ = some (.int .u8 a1_2) ∧ w_.cell? ⟨gb645, 3, none⟩ = some (.int .u16 a1_3) ∧ w_.cell? ⟨gb645, 4, none⟩ = some (.int .u16 a1_4) ∧ w_.cell? ⟨gb645, 5, none⟩ = some (.float .f64 a1_5)) ∧ (w_.heap[gb645]? = some (.cells #[.int .u8 a1_0, .int .u8 a1_1, .int .u8 a1_2, .int .u16 a1_3, .int .u16 a1_4, .float .f64 a1_5] 26 (0, 0))) ∧ (Below w.heap.size w w_)) ?pgrow (fun _ hP_ => hP_.1) (fun s_ w_ => (Kd.R k66 66 w_ w.heap.size (fun _ => True) s_.1 t647) ∧ (Kd.R (Kd.int .u8) 51 w_ w.heap.size (fun _ => True) s_.2 t650)) ?pF (fun g_ => (w.heap.size ≤ g_) ∧ (gb645 ≠ g_) ∧ (g_ ≠ gb645)) ?pNew ?pc1 ?pc3 ?pc4 ?pc5 ?pPhi ?pcont
    case pgrow =>
      intro w0_ w1_ hP_ hb_; obtain ⟨hS_, k0_, k1_⟩ := hP_; have BK645 := zC.mk (by first | exact Kd.R_below k0_ hb_ | exact zK k0_ hb_ | exact zQ k0_ hb_); have HB := zC.mk (by first | exact Kd.R_below k1_ hb_ | exact zK k1_ hb_ | exact zQ k1_ hb_)
      exact ⟨⟨(zF BK645.out 0).trans rfl, (zF BK645.out 1).trans rfl, (zF BK645.out 2).trans rfl, (zF BK645.out 3).trans rfl, (zF BK645.out 4).trans rfl, (zF BK645.out 5).trans rfl⟩, BK645.out, HB.out⟩
    case pF => intro s_ w0_ w1_ hP_ hb_; obtain ⟨f0_, f1_⟩ := hP_; exact ⟨(by first | exact Kd.R_below f0_ hb_ | exact zK f0_ hb_ | exact zQ f0_ hb_), (by first | exact Kd.R_below f1_ hb_ | exact zK f1_ hb_ | exact zQ f1_ hb_)⟩
    case pNew => intro w0_ hP_; obtain ⟨hS_, k0_, k1_⟩ := hP_; (try have l0_ := blk_lt k0_); (try have m0_ := zP k0_); (try have l1_ := blk_lt k1_); (try have m1_ := zP k1_); refine ⟨?_, ?_, ?_⟩ <;> omega
    case pc1 =>
      intro a_ W_ K_ hev_ hP_ h_; obtain ⟨hS_, k0_, k1_⟩ := hP_; have BK645 := zC.mk k0_; have HB := zC.mk k1_
      refine goes_ Try.func10 (by kernel_rfl) rfl #[.slice A0 l0.length c0] (by rfl) rfl rfl (by simp only [List.map_toArray, List.map_cons, List.map_nil]; first | rfl | (simp (disch := decide) only [hev_]; rfl) | (rw [hev_ _ (by decide) (by decide) (by decide) (by decide)]; rfl)) ?_
      with_reducible refine (stanzahand03_Para.calls k _ _ l0 t647 t650 _ ?side1 ?side2 A8.out).mono ?_
      (case side1 => repeat (first | exact (Kd.C_below HR0.out HB.out) | (with_reducible refine Kd.C_alloc ?_ _) | (with_reducible refine Kd.C_drewN ?_ _) | (with_reducible refine Kd.C_drew ?_)))
      (case side2 => exact HC0.out)
      rintro e w15 ⟨v648, v651, rfl, ho0, ho1, hb⟩
      refine ⟨_, rfl, ?_⟩
      exact h_ (v648, v651) _ hb ⟨(Kd.R_lower ho0 (zP (by repeat (first | (with_reducible first | exact HB.out | apply zJ | apply zG | apply zI | refine zE ?_ GE645.out) | exact HB.out)))), (Kd.R_lower ho1 (zP (by repeat (first | (with_reducible first | exact HB.out | apply zJ | apply zG | apply zI | refine zE ?_ GE645.out) | exact HB.out))))⟩
    case pc3 =>
      intro a_ W_ K_ hev_ hP_ h_; obtain ⟨hS_, k0_, k1_⟩ := hP_; have BK645 := zC.mk k0_; have HB := zC.mk k1_
      refine goes_ Try.func11 (by kernel_rfl) rfl #[.agg #[.int .u8 a1_0, .int .u8 a1_1, .int .u8 a1_2, .int .u16 a1_3, .int .u16 a1_4, .float .f64 a1_5]] (by rfl) rfl rfl (by simp only [List.map_toArray, List.map_cons, List.map_nil]; first | rfl | (simp (disch := decide) only [hev_]; rfl) | (rw [hev_ _ (by decide) (by decide) (by decide) (by decide)]; rfl)) ?_
      with_reducible refine (stanzahand03_Config.calls a1_0 a1_1 a1_2 a1_3 a1_4 a1_5 t653 t654 t655 t656 t657 t658 _ A9.out).mono ?_
      rintro e w17 ⟨rfl, hb⟩
      refine ⟨_, rfl, ?_⟩
      exact h_ _ hb
    case pc4 => intro a_ W_; first | (go_simp; done) | (go_simp; rfl)
    case pc5 => intro a_ W_; first | (go_simp; done) | (go_simp; rfl)
    case pPhi => exact ⟨hHeld, BK645.out, HB.out⟩
    case pcont => intro s_ gb659 gb660 w19 hP_ hF_ y4_ y5_ x4_ x5_ he_; obtain ⟨hS_, k0_, k1_⟩ := hP_; obtain ⟨v648, v651⟩ := s_; obtain ⟨f0_, f1_⟩ := hF_; exact hJ1_3_4_5 (v648, v651, gb659, gb660) _ ⟨hS_, f0_, f1_, k0_, y4_, y5_, x4_.1, x4_.1, x4_.2.1, x4_.2.2, (Ne.symm he_), he_, x5_.1, x5_.1, x5_.2.1, x5_.2.2, k1_⟩
  rintro ⟨v648, v651, gb659, gb660⟩ w19 ⟨hS_, h0_, h1_, h2_, h3_, h4_, h5_, h6_, h7_, h8_, h9_, h10_, h11_, h12_, h13_, h14_, h15_⟩
  have n0_ : zC (Kd.R k66 66 w19 w.heap.size (fun _ => True) v648 t647) := ⟨h0_⟩
  have n1_ : zC (Kd.R (Kd.int .u8) 51 w19 w.heap.size (fun _ => True) v651 t650) := ⟨h1_⟩
  have n2_ : zC (w19.heap[gb645]? = some (.cells #[.int .u8 a1_0, .int .u8 a1_1, .int .u8 a1_2, .int .u16 a1_3, .int .u16 a1_4, .float .f64 a1_5] 26 (0, 0))) := ⟨h2_⟩
  have n3_ : zC (w19.heap[gb659]? = some (.cells #[.slice none 0 0, .slice none 0 0] 31 (0, 0))) := ⟨h3_⟩
  have n4_ : zC (w19.heap[gb660]? = some (.cells #[.int .i64 0, .int .i64 0, .int .u8 0, .int .i64 0, .int .i64 0, .float .f64 0] 35 (0, 0))) := ⟨h4_⟩
  have n5_ : zC (w.heap.size ≤ gb659) := ⟨h5_⟩
  have n6_ : zC (w.heap.size ≤ gb659) := ⟨h6_⟩
  have n7_ : zC (gb645 ≠ gb659) := ⟨h7_⟩
  have n8_ : zC (gb659 ≠ gb645) := ⟨h8_⟩
  have n9_ : zC (gb660 ≠ gb659) := ⟨h9_⟩
  have n10_ : zC (gb659 ≠ gb660) := ⟨h10_⟩
  have n11_ : zC (w.heap.size ≤ gb660) := ⟨h11_⟩
  have n12_ : zC (w.heap.size ≤ gb660) := ⟨h12_⟩
  have n13_ : zC (gb645 ≠ gb660) := ⟨h13_⟩
  have n14_ : zC (gb660 ≠ gb645) := ⟨h14_⟩
  have n15_ : zC (Below w.heap.size w w19) := ⟨h15_⟩
  clear BK645 HB h0_ h1_ h2_ h3_ h4_ h5_ h6_ h7_ h8_ h9_ h10_ h11_ h12_ h13_ h14_ h15_; have HO649 := n0_; have HO652 := n1_; have BK645 := n2_; have BK659 := n3_; have BK660 := n4_; have GW659 := n5_; have GE659 := n6_; have NB645_659 := n7_; have NB659_645 := n8_; have NB660_659 := n9_; have NB659_660 := n10_; have GW660 := n11_; have GE660 := n12_; have NB645_660 := n13_; have NB660_645 := n14_; have HB := n15_; clear n0_ n1_ n2_ n3_ n4_ n5_ n6_ n7_ n8_ n9_ n10_ n11_ n12_ n13_ n14_ n15_; have hHeld : w19.cell? ⟨gb645, 0, none⟩ = some (.int .u8 a1_0) ∧ w19.cell? ⟨gb645, 1, none⟩ = some (.int .u8 a1_1) ∧ w19.cell? ⟨gb645, 2, none⟩ = some (.int .u8 a1_2) ∧ w19.cell? ⟨gb645, 3, none⟩ = some (.int .u16 a1_3) ∧ w19.cell? ⟨gb645, 4, none⟩ = some (.int .u16 a1_4) ∧ w19.cell? ⟨gb645, 5, none⟩ = some (.float .f64 a1_5) := hS_
  obtain ⟨Ao20, co20, eo20⟩ := Kd.R_slice HO649.out; (first | subst eo20 | (injection eo20 with f1_ f2_ f3_; have f4_ := f1_.symm; have f5_ := f3_.symm; clear f1_ f2_ f3_; subst f4_; subst f5_))
  obtain ⟨Ao22, co22, eo22⟩ := Kd.R_slice HO652.out; (first | subst eo22 | (injection eo22 with f1_ f2_ f3_; have f4_ := f1_.symm; have f5_ := f3_.symm; clear f1_ f2_ f3_; subst f4_; subst f5_))
  refine norm_ (a' := ?_) ?_ ?_
  rotate_left
  · simp only [putAll, Act.put, sA_, sB_, sC_]
    rfl
  refine one_ (i := 6) (N := none) #[true, true, true, true, true, true, true, false] rfl rfl (one_of HT_.out (by kernel_rfl)) (by decide) (fun K hK => ?_)
  have hs21 : w19.cell? ⟨gb659, 0, none⟩ = some (.slice none 0 0) := (zF BK659.out 0).trans rfl
  have hfs21 := zH BK659.out 0; have hns21_0 := NB645_659.out; have hns21_2 := NB660_659.out; have hms21_0 := NB659_645.out; have hms21_2 := NB659_660.out; have hs23 : w19.cell? ⟨gb659, 1, none⟩ = some (.slice none 0 0) := (zF BK659.out 1).trans rfl
  have hfs23 := zH BK659.out 1; have hns23_0 := NB645_659.out; have hns23_2 := NB660_659.out; have hms23_0 := NB659_645.out; have hms23_2 := NB659_660.out; refine skip_ (w1 := ?_) (by rfl) rfl ?_ ?_
  rotate_left
  · go_simp
    rfl
  refine hK.out _ _ ⟨((cell_far (p := ⟨gb659, _, none⟩) NB645_659.out _).trans (((cell_far (p := ⟨gb659, _, none⟩) NB645_659.out _).trans (hHeld.1)))), ((cell_far (p := ⟨gb659, _, none⟩) NB645_659.out _).trans (((cell_far (p := ⟨gb659, _, none⟩) NB645_659.out _).trans (hHeld.2.1)))), ((cell_far (p := ⟨gb659, _, none⟩) NB645_659.out _).trans (((cell_far (p := ⟨gb659, _, none⟩) NB645_659.out _).trans (hHeld.2.2.1)))), ((cell_far (p := ⟨gb659, _, none⟩) NB645_659.out _).trans (((cell_far (p := ⟨gb659, _, none⟩) NB645_659.out _).trans (hHeld.2.2.2.1)))), ((cell_far (p := ⟨gb659, _, none⟩) NB645_659.out _).trans (((cell_far (p := ⟨gb659, _, none⟩) NB645_659.out _).trans (hHeld.2.2.2.2.1)))), ((cell_far (p := ⟨gb659, _, none⟩) NB645_659.out _).trans (((cell_far (p := ⟨gb659, _, none⟩) NB645_659.out _).trans (hHeld.2.2.2.2.2))))⟩ (fun hHeld => ?_)
  clear hK K; refine one_ (i := 7) (N := none) #[true, true, true, true, true, true, true, true] rfl rfl (one_of HT_.out (by kernel_rfl)) (by decide) (fun K hK => ?_)
  have hs24 : w19.cell? ⟨gb660, 0, none⟩ = some (.int .i64 0) := (zF BK660.out 0).trans rfl
  have hfs24 := zH BK660.out 0; have hns24_0 := NB645_660.out; have hns24_1 := NB659_660.out; have hms24_0 := NB660_645.out; have hms24_1 := NB660_659.out; have hs25 : w19.cell? ⟨gb660, 1, none⟩ = some (.int .i64 0) := (zF BK660.out 1).trans rfl
  have hfs25 := zH BK660.out 1; have hns25_0 := NB645_660.out; have hns25_1 := NB659_660.out; have hms25_0 := NB660_645.out; have hms25_1 := NB660_659.out; have hs26 : w19.cell? ⟨gb660, 2, none⟩ = some (.int .u8 0) := (zF BK660.out 2).trans rfl
  have hfs26 := zH BK660.out 2; have hns26_0 := NB645_660.out; have hns26_1 := NB659_660.out; have hms26_0 := NB660_645.out; have hms26_1 := NB660_659.out; have hs27 : w19.cell? ⟨gb660, 3, none⟩ = some (.int .i64 0) := (zF BK660.out 3).trans rfl
  have hfs27 := zH BK660.out 3; have hns27_0 := NB645_660.out; have hns27_1 := NB659_660.out; have hms27_0 := NB660_645.out; have hms27_1 := NB660_659.out; have hs28 : w19.cell? ⟨gb660, 4, none⟩ = some (.int .i64 0) := (zF BK660.out 4).trans rfl
  have hfs28 := zH BK660.out 4; have hns28_0 := NB645_660.out; have hns28_1 := NB659_660.out; have hms28_0 := NB660_645.out; have hms28_1 := NB660_659.out; have hs29 : w19.cell? ⟨gb660, 5, none⟩ = some (.float .f64 0) := (zF BK660.out 5).trans rfl
  have hfs29 := zH BK660.out 5; have hns29_0 := NB645_660.out; have hns29_1 := NB659_660.out; have hms29_0 := NB660_645.out; have hms29_1 := NB660_659.out; refine skip_ (w1 := ?_) (by rfl) rfl ?_ ?_
  rotate_left
  · go_simp
    rfl
  refine hK.out _ _ ⟨((cell_far (p := ⟨gb660, _, none⟩) NB645_660.out _).trans (((cell_far (p := ⟨gb660, _, none⟩) NB645_660.out _).trans (((cell_far (p := ⟨gb660, _, none⟩) NB645_660.out _).trans (((cell_far (p := ⟨gb660, _, none⟩) NB645_660.out _).trans (((cell_far (p := ⟨gb660, _, none⟩) NB645_660.out _).trans (((cell_far (p := ⟨gb660, _, none⟩) NB645_660.out _).trans (hHeld.1)))))))))))), ((cell_far (p := ⟨gb660, _, none⟩) NB645_660.out _).trans (((cell_far (p := ⟨gb660, _, none⟩) NB645_660.out _).trans (((cell_far (p := ⟨gb660, _, none⟩) NB645_660.out _).trans (((cell_far (p := ⟨gb660, _, none⟩) NB645_660.out _).trans (((cell_far (p := ⟨gb660, _, none⟩) NB645_660.out _).trans (((cell_far (p := ⟨gb660, _, none⟩) NB645_660.out _).trans (hHeld.2.1)))))))))))), ((cell_far (p := ⟨gb660, _, none⟩) NB645_660.out _).trans (((cell_far (p := ⟨gb660, _, none⟩) NB645_660.out _).trans (((cell_far (p := ⟨gb660, _, none⟩) NB645_660.out _).trans (((cell_far (p := ⟨gb660, _, none⟩) NB645_660.out _).trans (((cell_far (p := ⟨gb660, _, none⟩) NB645_660.out _).trans (((cell_far (p := ⟨gb660, _, none⟩) NB645_660.out _).trans (hHeld.2.2.1)))))))))))), ((cell_far (p := ⟨gb660, _, none⟩) NB645_660.out _).trans (((cell_far (p := ⟨gb660, _, none⟩) NB645_660.out _).trans (((cell_far (p := ⟨gb660, _, none⟩) NB645_660.out _).trans (((cell_far (p := ⟨gb660, _, none⟩) NB645_660.out _).trans (((cell_far (p := ⟨gb660, _, none⟩) NB645_660.out _).trans (((cell_far (p := ⟨gb660, _, none⟩) NB645_660.out _).trans (hHeld.2.2.2.1)))))))))))), ((cell_far (p := ⟨gb660, _, none⟩) NB645_660.out _).trans (((cell_far (p := ⟨gb660, _, none⟩) NB645_660.out _).trans (((cell_far (p := ⟨gb660, _, none⟩) NB645_660.out _).trans (((cell_far (p := ⟨gb660, _, none⟩) NB645_660.out _).trans (((cell_far (p := ⟨gb660, _, none⟩) NB645_660.out _).trans (((cell_far (p := ⟨gb660, _, none⟩) NB645_660.out _).trans (hHeld.2.2.2.2.1)))))))))))), ((cell_far (p := ⟨gb660, _, none⟩) NB645_660.out _).trans (((cell_far (p := ⟨gb660, _, none⟩) NB645_660.out _).trans (((cell_far (p := ⟨gb660, _, none⟩) NB645_660.out _).trans (((cell_far (p := ⟨gb660, _, none⟩) NB645_660.out _).trans (((cell_far (p := ⟨gb660, _, none⟩) NB645_660.out _).trans (((cell_far (p := ⟨gb660, _, none⟩) NB645_660.out _).trans (hHeld.2.2.2.2.2))))))))))))⟩ (fun hHeld => ?_)
  clear hK K; refine done_ (done_of HT_.out (by kernel_rfl)) ?_
  have hnb30 := NB659_645.out; have hnc30 := NB645_659.out; have hnb31 := NB659_660.out; have hnc31 := NB660_659.out; have hcz32_0 : w19.cell? ⟨gb659, 0, none⟩ = some (.slice none 0 0) := (zF BK659.out 0).trans rfl
  have hcz32_1 : w19.cell? ⟨gb659, 1, none⟩ = some (.slice none 0 0) := (zF BK659.out 1).trans rfl
  have hfz32_0 := zH BK659.out 0; have hfz32_1 := zH BK659.out 1; have hnb33 := NB660_645.out; have hnc33 := NB645_660.out; have hcz34_0 : w19.cell? ⟨gb660, 0, none⟩ = some (.int .i64 0) := (zF BK660.out 0).trans rfl
  have hcz34_1 : w19.cell? ⟨gb660, 1, none⟩ = some (.int .i64 0) := (zF BK660.out 1).trans rfl
  have hcz34_2 : w19.cell? ⟨gb660, 2, none⟩ = some (.int .u8 0) := (zF BK660.out 2).trans rfl
  have hcz34_3 : w19.cell? ⟨gb660, 3, none⟩ = some (.int .i64 0) := (zF BK660.out 3).trans rfl
  have hcz34_4 : w19.cell? ⟨gb660, 4, none⟩ = some (.int .i64 0) := (zF BK660.out 4).trans rfl
  have hcz34_5 : w19.cell? ⟨gb660, 5, none⟩ = some (.float .f64 0) := (zF BK660.out 5).trans rfl
  have hfz34_0 := zH BK660.out 0; have hfz34_1 := zH BK660.out 1; have hfz34_2 := zH BK660.out 2; have hfz34_3 := zH BK660.out 3; have hfz34_4 := zH BK660.out 4; have hfz34_5 := zH BK660.out 5; try go_wp2_with (first | ((with_reducible refine gate_callee (f := 12) rfl ?_); refine goesL_ (some 26) rfl rfl Try.func12 (by kernel_rfl) rfl #[.agg #[.slice Ao20 t647.length co20, .slice Ao22 t650.length co22], .agg #[.int .i64 t653, .int .i64 t654, .int .u8 t655, .int .i64 t656, .int .i64 t657, .float .f64 t658]] rfl (by (try simp only [List.map_toArray, List.map_cons, List.map_nil]); first | done | rfl | (simp only [List.length_drop, List.length_take]; rfl)) ?_; (with_reducible refine (lines_Break.calls k _ _ t647 _ _ t650 t653 t654 t655 t656 t657 t658 t661 t664 _ ?side1 ?side2 ?side3 ?side4 A10.out).mono ?_); (case side1 => refine (Kd.R_reads' (e := 66) (base := w.heap.size) (ok := fun k_ => True) (n := t647.length) (c := co20) ?_).2.2; exact (by (with_reducible repeat (first | apply Kd.R_alloc | apply Kd.R_drewN | apply Kd.R_drew)); exact (Kd.R_mono (Kd.R_mono (Kd.R_far (p := ⟨gb660, 5, none⟩) (Kd.R_far (p := ⟨gb660, 4, none⟩) (Kd.R_far (p := ⟨gb660, 3, none⟩) (Kd.R_far (p := ⟨gb660, 2, none⟩) (Kd.R_far (p := ⟨gb660, 1, none⟩) (Kd.R_far (p := ⟨gb660, 0, none⟩) (Kd.R_far (p := ⟨gb659, 1, none⟩) (Kd.R_far (p := ⟨gb659, 0, none⟩) (Kd.R_types (Kd.R_types HO649.out BK659.out (by decide)) BK660.out (by decide)) (fun _ hk => hk.1.2) (.slice Ao20 t647.length co20)) (fun _ hk => hk.1.2) (.slice Ao22 t650.length co22)) (fun _ hk => hk.2) (.int .i64 t653)) (fun _ hk => hk.2) (.int .i64 t654)) (fun _ hk => hk.2) (.int .u8 t655)) (fun _ hk => hk.2) (.int .i64 t656)) (fun _ hk => hk.2) (.int .i64 t657)) (fun _ hk => hk.2) (.float .f64 t658)) (fun _ h_ => h_.1)) (fun _ h_ => h_.1)))); (case side2 => exact (Kd.R_reads' HO649.out).2.1); (case side3 => refine (Kd.R_reads' (e := 51) (base := w.heap.size) (ok := fun k_ => True) (n := t650.length) (c := co22) ?_).2.2; exact (by (with_reducible repeat (first | apply Kd.R_alloc | apply Kd.R_drewN | apply Kd.R_drew)); exact (Kd.R_mono (Kd.R_mono (Kd.R_far (p := ⟨gb660, 5, none⟩) (Kd.R_far (p := ⟨gb660, 4, none⟩) (Kd.R_far (p := ⟨gb660, 3, none⟩) (Kd.R_far (p := ⟨gb660, 2, none⟩) (Kd.R_far (p := ⟨gb660, 1, none⟩) (Kd.R_far (p := ⟨gb660, 0, none⟩) (Kd.R_far (p := ⟨gb659, 1, none⟩) (Kd.R_far (p := ⟨gb659, 0, none⟩) (Kd.R_types (Kd.R_types HO652.out BK659.out (by decide)) BK660.out (by decide)) (fun _ hk => hk.1.2) (.slice Ao20 t647.length co20)) (fun _ hk => hk.1.2) (.slice Ao22 t650.length co22)) (fun _ hk => hk.2) (.int .i64 t653)) (fun _ hk => hk.2) (.int .i64 t654)) (fun _ hk => hk.2) (.int .u8 t655)) (fun _ hk => hk.2) (.int .i64 t656)) (fun _ hk => hk.2) (.int .i64 t657)) (fun _ hk => hk.2) (.float .f64 t658)) (fun _ h_ => h_.1)) (fun _ h_ => h_.1)))); (case side4 => exact (Kd.R_reads' HO652.out).2.1); rintro e w35 ⟨v662, rfl, ho0, hb⟩; refine ⟨_, rfl, ?_⟩; have n0_ := zC.mk (Kd.R_below (by (with_reducible repeat (first | apply Kd.R_alloc | apply Kd.R_drewN | apply Kd.R_drew)); exact (Kd.R_mono (Kd.R_mono (Kd.R_far (p := ⟨gb660, 5, none⟩) (Kd.R_far (p := ⟨gb660, 4, none⟩) (Kd.R_far (p := ⟨gb660, 3, none⟩) (Kd.R_far (p := ⟨gb660, 2, none⟩) (Kd.R_far (p := ⟨gb660, 1, none⟩) (Kd.R_far (p := ⟨gb660, 0, none⟩) (Kd.R_far (p := ⟨gb659, 1, none⟩) (Kd.R_far (p := ⟨gb659, 0, none⟩) (Kd.R_types (Kd.R_types HO649.out BK659.out (by decide)) BK660.out (by decide)) (fun _ hk => hk.1.2) (.slice Ao20 t647.length co20)) (fun _ hk => hk.1.2) (.slice Ao22 t650.length co22)) (fun _ hk => hk.2) (.int .i64 t653)) (fun _ hk => hk.2) (.int .i64 t654)) (fun _ hk => hk.2) (.int .u8 t655)) (fun _ hk => hk.2) (.int .i64 t656)) (fun _ hk => hk.2) (.int .i64 t657)) (fun _ hk => hk.2) (.float .f64 t658)) (fun _ h_ => h_.1)) (fun _ h_ => h_.1))) hb); have n1_ := zC.mk (Kd.R_below (by (with_reducible repeat (first | apply Kd.R_alloc | apply Kd.R_drewN | apply Kd.R_drew)); exact (Kd.R_mono (Kd.R_mono (Kd.R_far (p := ⟨gb660, 5, none⟩) (Kd.R_far (p := ⟨gb660, 4, none⟩) (Kd.R_far (p := ⟨gb660, 3, none⟩) (Kd.R_far (p := ⟨gb660, 2, none⟩) (Kd.R_far (p := ⟨gb660, 1, none⟩) (Kd.R_far (p := ⟨gb660, 0, none⟩) (Kd.R_far (p := ⟨gb659, 1, none⟩) (Kd.R_far (p := ⟨gb659, 0, none⟩) (Kd.R_types (Kd.R_types HO652.out BK659.out (by decide)) BK660.out (by decide)) (fun _ hk => hk.1.2) (.slice Ao20 t647.length co20)) (fun _ hk => hk.1.2) (.slice Ao22 t650.length co22)) (fun _ hk => hk.2) (.int .i64 t653)) (fun _ hk => hk.2) (.int .i64 t654)) (fun _ hk => hk.2) (.int .u8 t655)) (fun _ hk => hk.2) (.int .i64 t656)) (fun _ hk => hk.2) (.int .i64 t657)) (fun _ hk => hk.2) (.float .f64 t658)) (fun _ h_ => h_.1)) (fun _ h_ => h_.1))) hb); have n2_ := zC.mk (Kd.R_lower ho0 (zP (by repeat (first | (with_reducible first | exact HB.out | apply zJ | apply zG | apply zI | refine zE ?_ GE645.out | refine zE ?_ GE659.out | refine zE ?_ GE660.out) | exact HB.out)))); have n3_ := zC.mk (zK (g := gb645) (o := .cells #[.int .u8 a1_0, .int .u8 a1_1, .int .u8 a1_2, .int .u16 a1_3, .int .u16 a1_4, .float .f64 a1_5] 26 (0, 0)) (by (with_reducible repeat (first | refine zB ?_ _ | refine zD ?_ | refine zA ?_ _)); refine zO ?_ NB645_660.out _; (with_reducible repeat (first | refine zB ?_ _ | refine zD ?_ | refine zA ?_ _)); refine zO ?_ NB645_660.out _; (with_reducible repeat (first | refine zB ?_ _ | refine zD ?_ | refine zA ?_ _)); refine zO ?_ NB645_660.out _; (with_reducible repeat (first | refine zB ?_ _ | refine zD ?_ | refine zA ?_ _)); refine zO ?_ NB645_660.out _; (with_reducible repeat (first | refine zB ?_ _ | refine zD ?_ | refine zA ?_ _)); refine zO ?_ NB645_660.out _; (with_reducible repeat (first | refine zB ?_ _ | refine zD ?_ | refine zA ?_ _)); refine zO ?_ NB645_660.out _; (with_reducible repeat (first | refine zB ?_ _ | refine zD ?_ | refine zA ?_ _)); refine zO ?_ NB645_659.out _; (with_reducible repeat (first | refine zB ?_ _ | refine zD ?_ | refine zA ?_ _)); refine zO ?_ NB645_659.out _; (with_reducible repeat (first | refine zB ?_ _ | refine zD ?_ | refine zA ?_ _)); exact BK645.out) hb); have n4_ := zC.mk (zK (g := gb659) (o := .cells #[.slice Ao20 t647.length co20, .slice Ao22 t650.length co22] 31 (0, 0)) (by (with_reducible repeat (first | refine zB ?_ _ | refine zD ?_ | refine zA ?_ _)); refine zO ?_ NB659_660.out _; (with_reducible repeat (first | refine zB ?_ _ | refine zD ?_ | refine zA ?_ _)); refine zO ?_ NB659_660.out _; (with_reducible repeat (first | refine zB ?_ _ | refine zD ?_ | refine zA ?_ _)); refine zO ?_ NB659_660.out _; (with_reducible repeat (first | refine zB ?_ _ | refine zD ?_ | refine zA ?_ _)); refine zO ?_ NB659_660.out _; (with_reducible repeat (first | refine zB ?_ _ | refine zD ?_ | refine zA ?_ _)); refine zO ?_ NB659_660.out _; (with_reducible repeat (first | refine zB ?_ _ | refine zD ?_ | refine zA ?_ _)); refine zO ?_ NB659_660.out _; (with_reducible repeat (first | refine zB ?_ _ | refine zD ?_ | refine zA ?_ _)); refine blk_put (cs := #[.slice Ao20 t647.length co20, .slice none 0 0]) ?_ 1 _ rfl; (with_reducible repeat (first | refine zB ?_ _ | refine zD ?_ | refine zA ?_ _)); refine blk_put (cs := #[.slice none 0 0, .slice none 0 0]) ?_ 0 _ rfl; (with_reducible repeat (first | refine zB ?_ _ | refine zD ?_ | refine zA ?_ _)); exact BK659.out) hb); have n5_ := zC.mk (zK (g := gb660) (o := .cells #[.int .i64 t653, .int .i64 t654, .int .u8 t655, .int .i64 t656, .int .i64 t657, .float .f64 t658] 35 (0, 0)) (by (with_reducible repeat (first | refine zB ?_ _ | refine zD ?_ | refine zA ?_ _)); refine blk_put (cs := #[.int .i64 t653, .int .i64 t654, .int .u8 t655, .int .i64 t656, .int .i64 t657, .float .f64 0]) ?_ 5 _ rfl; (with_reducible repeat (first | refine zB ?_ _ | refine zD ?_ | refine zA ?_ _)); refine blk_put (cs := #[.int .i64 t653, .int .i64 t654, .int .u8 t655, .int .i64 t656, .int .i64 0, .float .f64 0]) ?_ 4 _ rfl; (with_reducible repeat (first | refine zB ?_ _ | refine zD ?_ | refine zA ?_ _)); refine blk_put (cs := #[.int .i64 t653, .int .i64 t654, .int .u8 t655, .int .i64 0, .int .i64 0, .float .f64 0]) ?_ 3 _ rfl; (with_reducible repeat (first | refine zB ?_ _ | refine zD ?_ | refine zA ?_ _)); refine blk_put (cs := #[.int .i64 t653, .int .i64 t654, .int .u8 0, .int .i64 0, .int .i64 0, .float .f64 0]) ?_ 2 _ rfl; (with_reducible repeat (first | refine zB ?_ _ | refine zD ?_ | refine zA ?_ _)); refine blk_put (cs := #[.int .i64 t653, .int .i64 0, .int .u8 0, .int .i64 0, .int .i64 0, .float .f64 0]) ?_ 1 _ rfl; (with_reducible repeat (first | refine zB ?_ _ | refine zD ?_ | refine zA ?_ _)); refine blk_put (cs := #[.int .i64 0, .int .i64 0, .int .u8 0, .int .i64 0, .int .i64 0, .float .f64 0]) ?_ 0 _ rfl; (with_reducible repeat (first | refine zB ?_ _ | refine zD ?_ | refine zA ?_ _)); refine zO ?_ NB660_659.out _; (with_reducible repeat (first | refine zB ?_ _ | refine zD ?_ | refine zA ?_ _)); refine zO ?_ NB660_659.out _; (with_reducible repeat (first | refine zB ?_ _ | refine zD ?_ | refine zA ?_ _)); exact BK660.out) hb); have n6_ := zC.mk (zQ (by repeat (first | (with_reducible first | exact HB.out | apply zJ | apply zG | apply zI | refine zE ?_ GE645.out | refine zE ?_ GE659.out | refine zE ?_ GE660.out) | exact HB.out)) hb); clear HO649; clear HO652; clear BK645; clear BK659; clear BK660; clear HB; have HO649 := n0_; have HO652 := n1_; have HO663 := n2_; have BK645 := n3_; have BK659 := n4_; have BK660 := n5_; have HB := n6_; clear n0_ n1_ n2_ n3_ n4_ n5_ n6_; (try clear hb); (try clear hb2); (try clear hk); (try clear hi); (try clear ho0); have hcz36_0 : w35.cell? ⟨gb659, 0, none⟩ = some (.slice Ao20 t647.length co20) := (zF BK659.out 0).trans rfl; have hcz36_1 : w35.cell? ⟨gb659, 1, none⟩ = some (.slice Ao22 t650.length co22) := (zF BK659.out 1).trans rfl; have hfz36_0 := zH BK659.out 0; have hfz36_1 := zH BK659.out 1; obtain ⟨Ao37, co37, eo37⟩ := Kd.R_slice HO663.out; subst eo37) | ((with_reducible refine gate_callee (f := 16) rfl ?_); refine goesL_ (some 31) rfl rfl Try.func16 (by kernel_rfl) rfl #[.agg #[.slice Ao20 t647.length co20, .slice Ao22 t650.length co22], .slice Ao37 t661.length co37] rfl (by (try simp only [List.map_toArray, List.map_cons, List.map_nil]); first | done | rfl | (simp only [List.length_drop, List.length_take]; rfl)) ?_; (with_reducible refine (lines_Rows.calls k _ _ t647 _ _ t650 _ _ t661 t665 _ ?side1 ?side2 ?side3 ?side4 ?side5 ?side6 A11.out).mono ?_); (case side1 => repeat (first | exact (Kd.R_reads' HO649.out).2.2 | (with_reducible refine Kd.C_alloc ?_ _) | (with_reducible refine Kd.C_drewN ?_ _) | (with_reducible refine Kd.C_drew ?_))); (case side2 => exact (Kd.R_reads' HO649.out).2.1); (case side3 => repeat (first | exact (Kd.R_reads' HO652.out).2.2 | (with_reducible refine Kd.C_alloc ?_ _) | (with_reducible refine Kd.C_drewN ?_ _) | (with_reducible refine Kd.C_drew ?_))); (case side4 => exact (Kd.R_reads' HO652.out).2.1); (case side5 => repeat (first | exact (Kd.R_reads' HO663.out).2.2 | (with_reducible refine Kd.C_alloc ?_ _) | (with_reducible refine Kd.C_drewN ?_ _) | (with_reducible refine Kd.C_drew ?_))); (case side6 => exact (Kd.R_reads' HO663.out).2.1); rintro e w38 ⟨v666, rfl, ho0, hb⟩; refine ⟨_, rfl, ?_⟩; have n0_ := zC.mk (Kd.R_below (by (with_reducible repeat (first | apply Kd.R_alloc | apply Kd.R_drewN | apply Kd.R_drew)); exact HO649.out) hb); have n1_ := zC.mk (Kd.R_below (by (with_reducible repeat (first | apply Kd.R_alloc | apply Kd.R_drewN | apply Kd.R_drew)); exact HO652.out) hb); have n2_ := zC.mk (Kd.R_below (by (with_reducible repeat (first | apply Kd.R_alloc | apply Kd.R_drewN | apply Kd.R_drew)); exact HO663.out) hb); have n3_ := zC.mk (Kd.R_lower ho0 (zP (by repeat (first | (with_reducible first | exact HB.out | apply zJ | apply zG | apply zI | refine zE ?_ GE645.out | refine zE ?_ GE659.out | refine zE ?_ GE660.out) | exact HB.out)))); have n4_ := zC.mk (zK (g := gb645) (o := .cells #[.int .u8 a1_0, .int .u8 a1_1, .int .u8 a1_2, .int .u16 a1_3, .int .u16 a1_4, .float .f64 a1_5] 26 (0, 0)) (by (with_reducible repeat (first | refine zB ?_ _ | refine zD ?_ | refine zA ?_ _)); exact BK645.out) hb); have n5_ := zC.mk (zK (g := gb659) (o := .cells #[.slice Ao20 t647.length co20, .slice Ao22 t650.length co22] 31 (0, 0)) (by (with_reducible repeat (first | refine zB ?_ _ | refine zD ?_ | refine zA ?_ _)); exact BK659.out) hb); have n6_ := zC.mk (zK (g := gb660) (o := .cells #[.int .i64 t653, .int .i64 t654, .int .u8 t655, .int .i64 t656, .int .i64 t657, .float .f64 t658] 35 (0, 0)) (by (with_reducible repeat (first | refine zB ?_ _ | refine zD ?_ | refine zA ?_ _)); exact BK660.out) hb); have n7_ := zC.mk (zQ (by repeat (first | (with_reducible first | exact HB.out | apply zJ | apply zG | apply zI | refine zE ?_ GE645.out | refine zE ?_ GE659.out | refine zE ?_ GE660.out) | exact HB.out)) hb); clear HO649; clear HO652; clear HO663; clear BK645; clear BK659; clear BK660; clear HB; have HO649 := n0_; have HO652 := n1_; have HO663 := n2_; have HO667 := n3_; have BK645 := n4_; have BK659 := n5_; have BK660 := n6_; have HB := n7_; clear n0_ n1_ n2_ n3_ n4_ n5_ n6_ n7_; (try clear hb); (try clear hb2); (try clear hk); (try clear hi); (try clear ho0); obtain ⟨Ao39, co39, eo39⟩ := Kd.R_slice HO667.out; subst eo39))
  go_loopg [9, 10, 34] k (fun kq v9 v10 v34 w' => ∃ (x9_1 : Int) (x10_1 : Int) (x34_1 : Int), v9 = .int .i64 x9_1 ∧ v10 = .int .i64 x10_1 ∧ v34 = .int .i64 x34_1 ∧ zC (stanzalaw16_LinesRows.l0 kq t661 x9_1 x10_1 t665 t665 (t665.length : Int) x34_1 t647 t650 = some r) ∧ zC (kq ≤ k) ∧ zC (Kd.R k54 54 w' w.heap.size (fun _ => True) (.slice Ao37 t661.length co37) t661) ∧ zC (Kd.R k53 53 w' w.heap.size (fun _ => True) (.slice Ao39 t665.length co39) t665) ∧ zC (Kd.R k53 53 w' w.heap.size (fun _ => True) (.slice Ao39 t665.length co39) t665) ∧ zC (Kd.R k66 66 w' w.heap.size (fun _ => True) (.slice Ao20 t647.length co20) t647) ∧ zC (Kd.R (Kd.int .u8) 51 w' w.heap.size (fun _ => True) (.slice Ao22 t650.length co22) t650) ∧ zC (w'.heap[gb645]? = some (.cells #[.int .u8 a1_0, .int .u8 a1_1, .int .u8 a1_2, .int .u16 a1_3, .int .u16 a1_4, .float .f64 a1_5] 26 (0, 0))) ∧ zC (w'.heap[gb659]? = some (.cells #[(.slice Ao20 t647.length co20), (.slice Ao22 t650.length co22)] 31 (0, 0))) ∧ zC (w'.heap[gb660]? = some (.cells #[.int .i64 t653, .int .i64 t654, .int .u8 t655, .int .i64 t656, .int .i64 t657, .float .f64 t658] 35 (0, 0))) ∧ zC (Below w.heap.size w w'))
  case atStart => exact ⟨(0), (0), (0), (by first | rfl | (simp; done) | (simp [*]; done)), (by first | rfl | (simp; done) | (simp [*]; done)), (by first | rfl | (simp; done) | (simp [*]; done)), H', ⟨Nat.le_refl _⟩, ⟨by (with_reducible repeat (first | apply Kd.R_alloc | apply Kd.R_drewN | apply Kd.R_drew)); exact HO663.out⟩, ⟨by (with_reducible repeat (first | apply Kd.R_alloc | apply Kd.R_drewN | apply Kd.R_drew)); exact HO667.out⟩, ⟨by (with_reducible repeat (first | apply Kd.R_alloc | apply Kd.R_drewN | apply Kd.R_drew)); exact HO667.out⟩, ⟨by (with_reducible repeat (first | apply Kd.R_alloc | apply Kd.R_drewN | apply Kd.R_drew)); exact HO649.out⟩, ⟨by (with_reducible repeat (first | apply Kd.R_alloc | apply Kd.R_drewN | apply Kd.R_drew)); exact HO652.out⟩, ⟨by (with_reducible repeat (first | refine zB ?_ _ | refine zD ?_ | refine zA ?_ _)); exact BK645.out⟩, ⟨by (with_reducible repeat (first | refine zB ?_ _ | refine zD ?_ | refine zA ?_ _)); exact BK659.out⟩, ⟨by (with_reducible repeat (first | refine zB ?_ _ | refine zD ?_ | refine zA ?_ _)); exact BK660.out⟩, ⟨by repeat (first | (with_reducible first | exact HB.out | apply zJ | apply zG | apply zI | refine zE ?_ GE645.out | refine zE ?_ GE659.out | refine zE ?_ GE660.out) | exact HB.out)⟩⟩
  clear H'; try clear c1
  try clear p2
  try clear c3
  try clear c11
  try clear c12
  try clear c16
  try clear c30
  try clear c31
  try clear c33
  try clear hcz32_0
  try clear hcz32_1
  try clear hcz34_0
  try clear hcz34_1
  try clear hcz34_2
  try clear hcz34_3
  try clear hcz34_4
  try clear hcz34_5
  try clear hcz36_0
  try clear hcz36_1
  try clear hfz32_0
  try clear hfz32_1
  try clear hfz34_0
  try clear hfz34_1
  try clear hfz34_2
  try clear hfz34_3
  try clear hfz34_4
  try clear hfz34_5
  try clear hfz36_0
  try clear hfz36_1
  obtain ⟨x9_1, x10_1, x34_1, rfl, rfl, rfl, HA, HK1, HO_7, HO_11, HO_32, HO_660000, HO_660001, BK645, BK659, BK660, HB⟩ := hrel; cases gk with
  | zero => exact absurd HA.out (by simp [stanzalaw16_LinesRows.l0])
  | succ k1 =>
    have H := HA.out; clear HA; simp only [stanzalaw16_LinesRows.l0] at H; by_cases c40 : x34_1 < (t665.length : Int)
    rotate_left
    · rw [if_neg c40] at H
      have c40b0 : decide (x34_1 < (t665.length : Int)) = false := decide_eq_false c40
      clear c40; replace H := Option.bind_eq_some_iff.mp H; obtain ⟨t668, A720, H⟩ := H; replace H : (if x9_1 = t668 then ((items_Parts.f k1 t647 t650).bind fun t669 => (if x10_1 = (t669.length : Int) then (if 0 ≤ (wrap64 ((t665.length : Int) - 1)) then (if (wrap64 ((t665.length : Int) - 1)) < (t665.length : Int) then (some (((rd_T53 t665 (wrap64 ((t665.length : Int) - 1))).f3) == 2)) else (none)) else (none)) else (some false))) else (some false)) = some r := H
      have A72 := zC.mk A720; clear A720; by_cases c73 : x9_1 = t668
      rotate_left
      · rw [if_neg c73] at H
        have c73b0 : (x9_1 == t668) = false := beq_eq_false_iff_ne.mpr c73
        have c73b1 : (x9_1 != t668) = true := bne_iff_ne.mpr c73
        exact absurd ((Option.some.inj H).trans hrt_.out) (by decide)
      rw [if_pos c73] at H; have c73b0 : (x9_1 == t668) = true := beq_iff_eq.mpr c73
      have c73b1 : (x9_1 != t668) = false := bne_eq_false_iff_eq.mpr c73
      clear c73; replace H := Option.bind_eq_some_iff.mp H; obtain ⟨t669, A740, H⟩ := H; replace H : (if x10_1 = (t669.length : Int) then (if 0 ≤ (wrap64 ((t665.length : Int) - 1)) then (if (wrap64 ((t665.length : Int) - 1)) < (t665.length : Int) then (some (((rd_T53 t665 (wrap64 ((t665.length : Int) - 1))).f3) == 2)) else (none)) else (none)) else (some false)) = some r := H; have A74 := zC.mk A740; clear A740; by_cases c75 : x10_1 = (t669.length : Int)
      rotate_left
      · rw [if_neg c75] at H
        have c75b0 : (x10_1 == (t669.length : Int)) = false := beq_eq_false_iff_ne.mpr c75
        have c75b1 : (x10_1 != (t669.length : Int)) = true := bne_iff_ne.mpr c75
        exact absurd ((Option.some.inj H).trans hrt_.out) (by decide)
      rw [if_pos c75] at H; have c75b0 : (x10_1 == (t669.length : Int)) = true := beq_iff_eq.mpr c75
      have c75b1 : (x10_1 != (t669.length : Int)) = false := bne_eq_false_iff_eq.mpr c75
      clear c75; obtain ⟨ji76, hji76⟩ : ∃ j_ : Int, (wrap64 ((t665.length : Int) - 1)) = j_ := ⟨_, rfl⟩; replace H : (if 0 ≤ (ji76) then (if (ji76) < (t665.length : Int) then (some (((rd_T53 t665 (ji76)).f3) == 2)) else (none)) else (none)) = some r := by first | (rw [hji76] at H; exact H) | (simp only [hji76] at H ⊢; exact H)
      (try rw [hji76] at A72)
      (try rw [hji76] at A74)
      have hji76w : (IntKind.i64.wrap ((t665.length : Int) - 1)) = ji76 := (zL _).trans hji76
      by_cases c77 : 0 ≤ (ji76)
      rotate_left
      · rw [if_neg c77] at H
        exact absurd H (by simp)
      rw [if_pos c77] at H; have c77b0 : decide (0 ≤ (ji76)) = true := decide_eq_true c77
      clear c77; by_cases c78 : (ji76) < (t665.length : Int)
      rotate_left
      · rw [if_neg c78] at H
        exact absurd H (by simp)
      rw [if_pos c78] at H; have c78b0 : decide ((ji76) < (t665.length : Int)) = true := decide_eq_true c78
      clear c78; obtain rfl := Option.some.inj H
      have hnb79 := NB659_645.out; have hnc79 := NB645_659.out; have hnb80 := NB659_660.out; have hnc80 := NB660_659.out; have hcz81_0 : wr.cell? ⟨gb659, 0, none⟩ = some (.slice Ao20 t647.length co20) := (zF BK659.out 0).trans rfl
      have hcz81_1 : wr.cell? ⟨gb659, 1, none⟩ = some (.slice Ao22 t650.length co22) := (zF BK659.out 1).trans rfl
      have hfz81_0 := zH BK659.out 0; have hfz81_1 := zH BK659.out 1; go_wp2_with (first | ((with_reducible refine gate_callee (f := 22) rfl ?_); refine goesL_ (some 90) rfl rfl Try.func22 (by kernel_rfl) rfl #[.agg #[.slice Ao20 t647.length co20, .slice Ao22 t650.length co22]] rfl (by (try simp only [List.map_toArray, List.map_cons, List.map_nil]); first | done | rfl | (simp only [List.length_drop, List.length_take]; rfl)) ?_; (with_reducible refine (items_Bytes.calls k1 _ _ t647 _ _ t650 t668 _ ?side1 ?side2 ?side3 ?side4 A72.out).mono ?_); (case side1 => repeat (first | exact (Kd.R_reads' HO_660000.out).2.2 | (with_reducible refine Kd.C_alloc ?_ _) | (with_reducible refine Kd.C_drewN ?_ _) | (with_reducible refine Kd.C_drew ?_))); (case side2 => exact (Kd.R_reads' HO_660000.out).2.1); (case side3 => repeat (first | exact (Kd.R_reads' HO_660001.out).2.2 | (with_reducible refine Kd.C_alloc ?_ _) | (with_reducible refine Kd.C_drewN ?_ _) | (with_reducible refine Kd.C_drew ?_))); (case side4 => exact (Kd.R_reads' HO_660001.out).2.1); rintro e w82 ⟨rfl, hb⟩; refine ⟨_, rfl, ?_⟩; have n0_ := zC.mk (Kd.R_below (by (with_reducible repeat (first | apply Kd.R_alloc | apply Kd.R_drewN | apply Kd.R_drew)); exact HO_7.out) hb); have n1_ := zC.mk (Kd.R_below (by (with_reducible repeat (first | apply Kd.R_alloc | apply Kd.R_drewN | apply Kd.R_drew)); exact HO_11.out) hb); have n2_ := zC.mk (Kd.R_below (by (with_reducible repeat (first | apply Kd.R_alloc | apply Kd.R_drewN | apply Kd.R_drew)); exact HO_32.out) hb); have n3_ := zC.mk (Kd.R_below (by (with_reducible repeat (first | apply Kd.R_alloc | apply Kd.R_drewN | apply Kd.R_drew)); exact HO_660000.out) hb); have n4_ := zC.mk (Kd.R_below (by (with_reducible repeat (first | apply Kd.R_alloc | apply Kd.R_drewN | apply Kd.R_drew)); exact HO_660001.out) hb); have n5_ := zC.mk (zK (g := gb645) (o := .cells #[.int .u8 a1_0, .int .u8 a1_1, .int .u8 a1_2, .int .u16 a1_3, .int .u16 a1_4, .float .f64 a1_5] 26 (0, 0)) (by (with_reducible repeat (first | refine zB ?_ _ | refine zD ?_ | refine zA ?_ _)); exact BK645.out) hb); have n6_ := zC.mk (zK (g := gb659) (o := .cells #[.slice Ao20 t647.length co20, .slice Ao22 t650.length co22] 31 (0, 0)) (by (with_reducible repeat (first | refine zB ?_ _ | refine zD ?_ | refine zA ?_ _)); exact BK659.out) hb); have n7_ := zC.mk (zK (g := gb660) (o := .cells #[.int .i64 t653, .int .i64 t654, .int .u8 t655, .int .i64 t656, .int .i64 t657, .float .f64 t658] 35 (0, 0)) (by (with_reducible repeat (first | refine zB ?_ _ | refine zD ?_ | refine zA ?_ _)); exact BK660.out) hb); have n8_ := zC.mk (zQ (by repeat (first | (with_reducible first | exact HB.out | apply zJ | apply zG | apply zI | refine zE ?_ GE645.out | refine zE ?_ GE659.out | refine zE ?_ GE660.out) | exact HB.out)) hb); clear HO_7; clear HO_11; clear HO_32; clear HO_660000; clear HO_660001; clear BK645; clear BK659; clear BK660; clear HB; have HO_7 := n0_; have HO_11 := n1_; have HO_32 := n2_; have HO_660000 := n3_; have HO_660001 := n4_; have BK645 := n5_; have BK659 := n6_; have BK660 := n7_; have HB := n8_; clear n0_ n1_ n2_ n3_ n4_ n5_ n6_ n7_ n8_; (try clear hb); (try clear hb2); (try clear hk); (try clear hi); have hcz83_0 : w82.cell? ⟨gb659, 0, none⟩ = some (.slice Ao20 t647.length co20) := (zF BK659.out 0).trans rfl; have hcz83_1 : w82.cell? ⟨gb659, 1, none⟩ = some (.slice Ao22 t650.length co22) := (zF BK659.out 1).trans rfl; have hfz83_0 := zH BK659.out 0; have hfz83_1 := zH BK659.out 1) | (go_at_call 18; (with_reducible refine (items_Parts.calls k1 _ _ t647 _ _ t650 t669 _ ?side1 ?side2 ?side3 ?side4 A74.out).mono ?_); (case side1 => repeat (first | exact (Kd.R_reads' HO_660000.out).2.2 | (with_reducible refine Kd.C_alloc ?_ _) | (with_reducible refine Kd.C_drewN ?_ _) | (with_reducible refine Kd.C_drew ?_))); (case side2 => exact (Kd.R_reads' HO_660000.out).2.1); (case side3 => repeat (first | exact (Kd.R_reads' HO_660001.out).2.2 | (with_reducible refine Kd.C_alloc ?_ _) | (with_reducible refine Kd.C_drewN ?_ _) | (with_reducible refine Kd.C_drew ?_))); (case side4 => exact (Kd.R_reads' HO_660001.out).2.1); rintro e w84 ⟨v670, rfl, ho0, hb⟩; have n0_ := zC.mk (Kd.R_below (by (with_reducible repeat (first | apply Kd.R_alloc | apply Kd.R_drewN | apply Kd.R_drew)); exact HO_7.out) hb); have n1_ := zC.mk (Kd.R_below (by (with_reducible repeat (first | apply Kd.R_alloc | apply Kd.R_drewN | apply Kd.R_drew)); exact HO_11.out) hb); have n2_ := zC.mk (Kd.R_below (by (with_reducible repeat (first | apply Kd.R_alloc | apply Kd.R_drewN | apply Kd.R_drew)); exact HO_32.out) hb); have n3_ := zC.mk (Kd.R_below (by (with_reducible repeat (first | apply Kd.R_alloc | apply Kd.R_drewN | apply Kd.R_drew)); exact HO_660000.out) hb); have n4_ := zC.mk (Kd.R_below (by (with_reducible repeat (first | apply Kd.R_alloc | apply Kd.R_drewN | apply Kd.R_drew)); exact HO_660001.out) hb); have n5_ := zC.mk (Kd.R_lower ho0 (zP (by repeat (first | (with_reducible first | exact HB.out | apply zJ | apply zG | apply zI | refine zE ?_ GE645.out | refine zE ?_ GE659.out | refine zE ?_ GE660.out) | exact HB.out)))); have n6_ := zC.mk (zK (g := gb645) (o := .cells #[.int .u8 a1_0, .int .u8 a1_1, .int .u8 a1_2, .int .u16 a1_3, .int .u16 a1_4, .float .f64 a1_5] 26 (0, 0)) (by (with_reducible repeat (first | refine zB ?_ _ | refine zD ?_ | refine zA ?_ _)); exact BK645.out) hb); have n7_ := zC.mk (zK (g := gb659) (o := .cells #[.slice Ao20 t647.length co20, .slice Ao22 t650.length co22] 31 (0, 0)) (by (with_reducible repeat (first | refine zB ?_ _ | refine zD ?_ | refine zA ?_ _)); exact BK659.out) hb); have n8_ := zC.mk (zK (g := gb660) (o := .cells #[.int .i64 t653, .int .i64 t654, .int .u8 t655, .int .i64 t656, .int .i64 t657, .float .f64 t658] 35 (0, 0)) (by (with_reducible repeat (first | refine zB ?_ _ | refine zD ?_ | refine zA ?_ _)); exact BK660.out) hb); have n9_ := zC.mk (zQ (by repeat (first | (with_reducible first | exact HB.out | apply zJ | apply zG | apply zI | refine zE ?_ GE645.out | refine zE ?_ GE659.out | refine zE ?_ GE660.out) | exact HB.out)) hb); clear HO_7; clear HO_11; clear HO_32; clear HO_660000; clear HO_660001; clear BK645; clear BK659; clear BK660; clear HB; have HO_7 := n0_; have HO_11 := n1_; have HO_32 := n2_; have HO_660000 := n3_; have HO_660001 := n4_; have HO671 := n5_; have BK645 := n6_; have BK659 := n7_; have BK660 := n8_; have HB := n9_; clear n0_ n1_ n2_ n3_ n4_ n5_ n6_ n7_ n8_ n9_; (try clear hb); (try clear hb2); (try clear hk); (try clear hi); (try clear ho0); obtain ⟨Ao85, co85, eo85⟩ := Kd.R_slice HO671.out; subst eo85; have p672 : 0 ≤ ((ji76) : Int) := of_decide_eq_true (by first | (with_reducible assumption) | assumption); have q672 : (ji76) < (t665.length : Int) := of_decide_eq_true (by first | (with_reducible assumption) | assumption); obtain ⟨ad672, e672, hx672_0, hx672_1, hx672_2, hx672_3⟩ := at_T53 (Kd.R_reads' HO_11.out).2.2 (ji76) p672 q672; cases e672; replace p672 := eq_true p672; replace q672 := eq_true q672))
      go_ret
      exact ⟨by first | rfl | (simp [errW_none, errW_some] <;> rfl) | (simp only [← hji76]; first | rfl | (simp [errW_none, errW_some] <;> rfl)) | (simp [*, errW_none, errW_some] <;> rfl), by repeat (first | (with_reducible first | exact HB.out | apply zJ | apply zG | apply zI | refine zE ?_ GE645.out | refine zE ?_ GE659.out | refine zE ?_ GE660.out) | exact HB.out)⟩
    rw [if_pos c40] at H; have c40b0 : decide (x34_1 < (t665.length : Int)) = true := decide_eq_true c40
    clear c40; by_cases c41 : 0 ≤ x34_1
    rotate_left
    · rw [if_neg c41] at H
      exact absurd H (by simp)
    rw [if_pos c41] at H; have c41b0 : decide (0 ≤ x34_1) = true := decide_eq_true c41
    clear c41; by_cases c42 : x34_1 < (t665.length : Int)
    rotate_left
    · rw [if_neg c42] at H
      exact absurd H (by simp)
    rw [if_pos c42] at H; have c42b0 : decide (x34_1 < (t665.length : Int)) = true := decide_eq_true c42
    clear c42; have HC43 := zC.mk H; clear H; have p673 : 0 ≤ (x34_1 : Int) := of_decide_eq_true (by first | (with_reducible assumption) | assumption)
    have q673 : x34_1 < (t665.length : Int) := of_decide_eq_true (by first | (with_reducible assumption) | assumption)
    obtain ⟨ad673, e673, hx673_0, hx673_1, hx673_2, hx673_3⟩ := at_T53 (Kd.R_reads' HO_32.out).2.2 x34_1 p673 q673; cases e673
    replace p673 := eq_true p673; replace q673 := eq_true q673; go_upto_region 12 with (first | ((with_reducible refine gate_dst (N := 13) rfl ?_); (try (refine gate_guard (by rfl) ?_; dsimp only)); refine box_event ?hg (N := 13) ?hd (cs := #[.int .i64 0, .int .i64 0, .int .i64 0, .int .u8 0]) (t := 53) ?hr ?_; (case hd => rfl); (case hg => rfl); (case hr => first | (go_simp; done) | (go_simp; rfl)); intro gb674 hg w44 hbox hb; have n0_ := zC.mk (Kd.R_below (by (with_reducible repeat (first | apply Kd.R_alloc | apply Kd.R_drewN | apply Kd.R_drew)); exact HO_7.out) hb); have n1_ := zC.mk (Kd.R_below (Kd.R_elderB (by (with_reducible repeat (first | apply Kd.R_alloc | apply Kd.R_drewN | apply Kd.R_drew)); exact HO_11.out) gb674 (Nat.le_of_eq hg.symm)) hb); have n2_ := zC.mk (Kd.R_below (Kd.R_elderB (by (with_reducible repeat (first | apply Kd.R_alloc | apply Kd.R_drewN | apply Kd.R_drew)); exact HO_32.out) gb674 (Nat.le_of_eq hg.symm)) hb); have n3_ := zC.mk (Kd.R_below (by (with_reducible repeat (first | apply Kd.R_alloc | apply Kd.R_drewN | apply Kd.R_drew)); exact HO_660000.out) hb); have n4_ := zC.mk (Kd.R_below (by (with_reducible repeat (first | apply Kd.R_alloc | apply Kd.R_drewN | apply Kd.R_drew)); exact HO_660001.out) hb); have n5_ := zC.mk (zK (g := gb645) (o := .cells #[.int .u8 a1_0, .int .u8 a1_1, .int .u8 a1_2, .int .u16 a1_3, .int .u16 a1_4, .float .f64 a1_5] 26 (0, 0)) (by (with_reducible repeat (first | refine zB ?_ _ | refine zD ?_ | refine zA ?_ _)); exact BK645.out) hb); have n6_ := zC.mk (zK (g := gb659) (o := .cells #[.slice Ao20 t647.length co20, .slice Ao22 t650.length co22] 31 (0, 0)) (by (with_reducible repeat (first | refine zB ?_ _ | refine zD ?_ | refine zA ?_ _)); exact BK659.out) hb); have n7_ := zC.mk (zK (g := gb660) (o := .cells #[.int .i64 t653, .int .i64 t654, .int .u8 t655, .int .i64 t656, .int .i64 t657, .float .f64 t658] 35 (0, 0)) (by (with_reducible repeat (first | refine zB ?_ _ | refine zD ?_ | refine zA ?_ _)); exact BK660.out) hb); have n8_ := zC.mk (zQ (by repeat (first | (with_reducible first | exact HB.out | apply zJ | apply zG | apply zI | refine zE ?_ GE645.out | refine zE ?_ GE659.out | refine zE ?_ GE660.out) | exact HB.out)) hb); have n9_ := zC.mk (hbox); have n10_ := zC.mk ((by rw [hg]; exact (zP (by repeat (first | (with_reducible first | exact HB.out | apply zJ | apply zG | apply zI | refine zE ?_ GE645.out | refine zE ?_ GE659.out | refine zE ?_ GE660.out) | exact HB.out))) : w.heap.size ≤ gb674)); have n11_ := zC.mk ((by rw [hg]; exact (zP (by repeat (first | (with_reducible first | exact HB.out | apply zJ | apply zG | apply zI | refine zE ?_ GE645.out | refine zE ?_ GE659.out | refine zE ?_ GE660.out) | exact HB.out))) : w.heap.size ≤ gb674)); have n12_ := zC.mk ((by rw [hg]; exact Nat.ne_of_lt (blk_lt (g := gb645) (o := .cells #[.int .u8 a1_0, .int .u8 a1_1, .int .u8 a1_2, .int .u16 a1_3, .int .u16 a1_4, .float .f64 a1_5] 26 (0, 0)) (by (with_reducible repeat (first | refine zB ?_ _ | refine zD ?_ | refine zA ?_ _)); exact BK645.out)) : gb645 ≠ gb674)); have n13_ := zC.mk ((by rw [hg]; exact Nat.ne_of_gt (blk_lt (g := gb645) (o := .cells #[.int .u8 a1_0, .int .u8 a1_1, .int .u8 a1_2, .int .u16 a1_3, .int .u16 a1_4, .float .f64 a1_5] 26 (0, 0)) (by (with_reducible repeat (first | refine zB ?_ _ | refine zD ?_ | refine zA ?_ _)); exact BK645.out)) : gb674 ≠ gb645)); have n14_ := zC.mk ((by rw [hg]; exact Nat.ne_of_lt (blk_lt (g := gb659) (o := .cells #[.slice Ao20 t647.length co20, .slice Ao22 t650.length co22] 31 (0, 0)) (by (with_reducible repeat (first | refine zB ?_ _ | refine zD ?_ | refine zA ?_ _)); exact BK659.out)) : gb659 ≠ gb674)); have n15_ := zC.mk ((by rw [hg]; exact Nat.ne_of_gt (blk_lt (g := gb659) (o := .cells #[.slice Ao20 t647.length co20, .slice Ao22 t650.length co22] 31 (0, 0)) (by (with_reducible repeat (first | refine zB ?_ _ | refine zD ?_ | refine zA ?_ _)); exact BK659.out)) : gb674 ≠ gb659)); have n16_ := zC.mk ((by rw [hg]; exact Nat.ne_of_lt (blk_lt (g := gb660) (o := .cells #[.int .i64 t653, .int .i64 t654, .int .u8 t655, .int .i64 t656, .int .i64 t657, .float .f64 t658] 35 (0, 0)) (by (with_reducible repeat (first | refine zB ?_ _ | refine zD ?_ | refine zA ?_ _)); exact BK660.out)) : gb660 ≠ gb674)); have n17_ := zC.mk ((by rw [hg]; exact Nat.ne_of_gt (blk_lt (g := gb660) (o := .cells #[.int .i64 t653, .int .i64 t654, .int .u8 t655, .int .i64 t656, .int .i64 t657, .float .f64 t658] 35 (0, 0)) (by (with_reducible repeat (first | refine zB ?_ _ | refine zD ?_ | refine zA ?_ _)); exact BK660.out)) : gb674 ≠ gb660)); clear HO_7; clear HO_11; clear HO_32; clear HO_660000; clear HO_660001; clear BK645; clear BK659; clear BK660; clear HB; have HO_7 := n0_; have HO_11 := n1_; have HO_32 := n2_; have HO_660000 := n3_; have HO_660001 := n4_; have BK645 := n5_; have BK659 := n6_; have BK660 := n7_; have HB := n8_; have BK674 := n9_; have GW674 := n10_; have GE674 := n11_; have NB645_674 := n12_; have NB674_645 := n13_; have NB659_674 := n14_; have NB674_659 := n15_; have NB660_674 := n16_; have NB674_660 := n17_; clear n0_ n1_ n2_ n3_ n4_ n5_ n6_ n7_ n8_ n9_ n10_ n11_ n12_ n13_ n14_ n15_ n16_ n17_; clear hb hbox hg; have hnb45 := NB674_645.out; have hnc45 := NB645_674.out; have hnb46 := NB674_659.out; have hnc46 := NB659_674.out; have hnb47 := NB674_660.out; have hnc47 := NB660_674.out; have hcz48_0 : w44.cell? ⟨gb674, 0, none⟩ = some (.int .i64 0) := (zF BK674.out 0).trans rfl; have hcz48_1 : w44.cell? ⟨gb674, 1, none⟩ = some (.int .i64 0) := (zF BK674.out 1).trans rfl; have hcz48_2 : w44.cell? ⟨gb674, 2, none⟩ = some (.int .i64 0) := (zF BK674.out 2).trans rfl; have hcz48_3 : w44.cell? ⟨gb674, 3, none⟩ = some (.int .u8 0) := (zF BK674.out 3).trans rfl; have hfz48_0 := zH BK674.out 0; have hfz48_1 := zH BK674.out 1; have hfz48_2 := zH BK674.out 2; have hfz48_3 := zH BK674.out 3) | ((with_reducible refine gate_store (t := 53) (p := 13) rfl ?_); refine store_event (t := 53) (p := 13) (v := ?vo_w49) (w1 := ((((w44.setCell ⟨gb674, 0, none⟩ (.int .i64 ((rd_T53 t665 x34_1).f0))).setCell ⟨gb674, 1, none⟩ (.int .i64 ((rd_T53 t665 x34_1).f1))).setCell ⟨gb674, 2, none⟩ (.int .i64 ((rd_T53 t665 x34_1).f2))).setCell ⟨gb674, 3, none⟩ (.int .u8 ((rd_T53 t665 x34_1).f3)))) ?hg ?ho ?hn ?hr ?_; (case ho => rfl); (case hg => rfl); (case hn => rfl); (case hr => first | (go_simp; done) | (go_simp; rfl)); intro w49 hw; have n0_ : zC (Kd.R k54 54 w49 w.heap.size (fun _ => True) (.slice Ao37 t661.length co37) t661) := ⟨(by rw [hw]; exact (by (with_reducible repeat (first | apply Kd.R_alloc | apply Kd.R_drewN | apply Kd.R_drew)); exact Kd.R_mono (Kd.R_far (p := ⟨gb674, 3, none⟩) (Kd.R_far (p := ⟨gb674, 2, none⟩) (Kd.R_far (p := ⟨gb674, 1, none⟩) (Kd.R_far (p := ⟨gb674, 0, none⟩) (Kd.R_types HO_7.out BK674.out (by decide)) (fun _ hk => hk.2) (.int .i64 ((rd_T53 t665 x34_1).f0))) (fun _ hk => hk.2) (.int .i64 ((rd_T53 t665 x34_1).f1))) (fun _ hk => hk.2) (.int .i64 ((rd_T53 t665 x34_1).f2))) (fun _ hk => hk.2) (.int .u8 ((rd_T53 t665 x34_1).f3))) (fun _ hk => trivial)))⟩; have n1_ : zC (Kd.R k53 53 w49 w.heap.size (fun k_ => k_ ≠ gb674) (.slice (some ad673) t665.length co39) t665) := ⟨(by rw [hw]; exact (by (with_reducible repeat (first | apply Kd.R_alloc | apply Kd.R_drewN | apply Kd.R_drew)); exact Kd.R_mono (Kd.R_far (p := ⟨gb674, 3, none⟩) (Kd.R_far (p := ⟨gb674, 2, none⟩) (Kd.R_far (p := ⟨gb674, 1, none⟩) (Kd.R_far (p := ⟨gb674, 0, none⟩) (Kd.R_mono HO_11.out (fun k_ hk => (⟨hk, hk.2⟩ : _ ∧ k_ ≠ gb674))) (fun _ hk => hk.2) (.int .i64 ((rd_T53 t665 x34_1).f0))) (fun _ hk => hk.2) (.int .i64 ((rd_T53 t665 x34_1).f1))) (fun _ hk => hk.2) (.int .i64 ((rd_T53 t665 x34_1).f2))) (fun _ hk => hk.2) (.int .u8 ((rd_T53 t665 x34_1).f3))) (fun _ hk => hk.1.2)))⟩; have n2_ : zC (Kd.R k53 53 w49 w.heap.size (fun k_ => k_ ≠ gb674) (.slice (some ad673) t665.length co39) t665) := ⟨(by rw [hw]; exact (by (with_reducible repeat (first | apply Kd.R_alloc | apply Kd.R_drewN | apply Kd.R_drew)); exact Kd.R_mono (Kd.R_far (p := ⟨gb674, 3, none⟩) (Kd.R_far (p := ⟨gb674, 2, none⟩) (Kd.R_far (p := ⟨gb674, 1, none⟩) (Kd.R_far (p := ⟨gb674, 0, none⟩) (Kd.R_mono HO_32.out (fun k_ hk => (⟨hk, hk.2⟩ : _ ∧ k_ ≠ gb674))) (fun _ hk => hk.2) (.int .i64 ((rd_T53 t665 x34_1).f0))) (fun _ hk => hk.2) (.int .i64 ((rd_T53 t665 x34_1).f1))) (fun _ hk => hk.2) (.int .i64 ((rd_T53 t665 x34_1).f2))) (fun _ hk => hk.2) (.int .u8 ((rd_T53 t665 x34_1).f3))) (fun _ hk => hk.1.2)))⟩; have n3_ : zC (Kd.R k66 66 w49 w.heap.size (fun _ => True) (.slice Ao20 t647.length co20) t647) := ⟨(by rw [hw]; exact (by (with_reducible repeat (first | apply Kd.R_alloc | apply Kd.R_drewN | apply Kd.R_drew)); exact Kd.R_mono (Kd.R_far (p := ⟨gb674, 3, none⟩) (Kd.R_far (p := ⟨gb674, 2, none⟩) (Kd.R_far (p := ⟨gb674, 1, none⟩) (Kd.R_far (p := ⟨gb674, 0, none⟩) (Kd.R_types HO_660000.out BK674.out (by decide)) (fun _ hk => hk.2) (.int .i64 ((rd_T53 t665 x34_1).f0))) (fun _ hk => hk.2) (.int .i64 ((rd_T53 t665 x34_1).f1))) (fun _ hk => hk.2) (.int .i64 ((rd_T53 t665 x34_1).f2))) (fun _ hk => hk.2) (.int .u8 ((rd_T53 t665 x34_1).f3))) (fun _ hk => trivial)))⟩; have n4_ : zC (Kd.R (Kd.int .u8) 51 w49 w.heap.size (fun _ => True) (.slice Ao22 t650.length co22) t650) := ⟨(by rw [hw]; exact (by (with_reducible repeat (first | apply Kd.R_alloc | apply Kd.R_drewN | apply Kd.R_drew)); exact Kd.R_mono (Kd.R_far (p := ⟨gb674, 3, none⟩) (Kd.R_far (p := ⟨gb674, 2, none⟩) (Kd.R_far (p := ⟨gb674, 1, none⟩) (Kd.R_far (p := ⟨gb674, 0, none⟩) (Kd.R_types HO_660001.out BK674.out (by decide)) (fun _ hk => hk.2) (.int .i64 ((rd_T53 t665 x34_1).f0))) (fun _ hk => hk.2) (.int .i64 ((rd_T53 t665 x34_1).f1))) (fun _ hk => hk.2) (.int .i64 ((rd_T53 t665 x34_1).f2))) (fun _ hk => hk.2) (.int .u8 ((rd_T53 t665 x34_1).f3))) (fun _ hk => trivial)))⟩; have n5_ : zC (w49.heap[gb645]? = some (.cells #[.int .u8 a1_0, .int .u8 a1_1, .int .u8 a1_2, .int .u16 a1_3, .int .u16 a1_4, .float .f64 a1_5] 26 (0, 0))) := ⟨(by rw [hw]; exact (by (with_reducible repeat (first | refine zB ?_ _ | refine zD ?_ | refine zA ?_ _)); refine zO ?_ NB645_674.out _; (with_reducible repeat (first | refine zB ?_ _ | refine zD ?_ | refine zA ?_ _)); refine zO ?_ NB645_674.out _; (with_reducible repeat (first | refine zB ?_ _ | refine zD ?_ | refine zA ?_ _)); refine zO ?_ NB645_674.out _; (with_reducible repeat (first | refine zB ?_ _ | refine zD ?_ | refine zA ?_ _)); refine zO ?_ NB645_674.out _; (with_reducible repeat (first | refine zB ?_ _ | refine zD ?_ | refine zA ?_ _)); exact BK645.out))⟩; have n6_ : zC (w49.heap[gb659]? = some (.cells #[.slice Ao20 t647.length co20, .slice Ao22 t650.length co22] 31 (0, 0))) := ⟨(by rw [hw]; exact (by (with_reducible repeat (first | refine zB ?_ _ | refine zD ?_ | refine zA ?_ _)); refine zO ?_ NB659_674.out _; (with_reducible repeat (first | refine zB ?_ _ | refine zD ?_ | refine zA ?_ _)); refine zO ?_ NB659_674.out _; (with_reducible repeat (first | refine zB ?_ _ | refine zD ?_ | refine zA ?_ _)); refine zO ?_ NB659_674.out _; (with_reducible repeat (first | refine zB ?_ _ | refine zD ?_ | refine zA ?_ _)); refine zO ?_ NB659_674.out _; (with_reducible repeat (first | refine zB ?_ _ | refine zD ?_ | refine zA ?_ _)); exact BK659.out))⟩; have n7_ : zC (w49.heap[gb660]? = some (.cells #[.int .i64 t653, .int .i64 t654, .int .u8 t655, .int .i64 t656, .int .i64 t657, .float .f64 t658] 35 (0, 0))) := ⟨(by rw [hw]; exact (by (with_reducible repeat (first | refine zB ?_ _ | refine zD ?_ | refine zA ?_ _)); refine zO ?_ NB660_674.out _; (with_reducible repeat (first | refine zB ?_ _ | refine zD ?_ | refine zA ?_ _)); refine zO ?_ NB660_674.out _; (with_reducible repeat (first | refine zB ?_ _ | refine zD ?_ | refine zA ?_ _)); refine zO ?_ NB660_674.out _; (with_reducible repeat (first | refine zB ?_ _ | refine zD ?_ | refine zA ?_ _)); refine zO ?_ NB660_674.out _; (with_reducible repeat (first | refine zB ?_ _ | refine zD ?_ | refine zA ?_ _)); exact BK660.out))⟩; have n8_ : zC (w49.heap[gb674]? = some (.cells #[.int .i64 ((rd_T53 t665 x34_1).f0), .int .i64 ((rd_T53 t665 x34_1).f1), .int .i64 ((rd_T53 t665 x34_1).f2), .int .u8 ((rd_T53 t665 x34_1).f3)] 53 (0, 0))) := ⟨(by rw [hw]; exact (by (with_reducible repeat (first | refine zB ?_ _ | refine zD ?_ | refine zA ?_ _)); refine blk_put (cs := #[.int .i64 ((rd_T53 t665 x34_1).f0), .int .i64 ((rd_T53 t665 x34_1).f1), .int .i64 ((rd_T53 t665 x34_1).f2), .int .u8 0]) ?_ 3 _ rfl; (with_reducible repeat (first | refine zB ?_ _ | refine zD ?_ | refine zA ?_ _)); refine blk_put (cs := #[.int .i64 ((rd_T53 t665 x34_1).f0), .int .i64 ((rd_T53 t665 x34_1).f1), .int .i64 0, .int .u8 0]) ?_ 2 _ rfl; (with_reducible repeat (first | refine zB ?_ _ | refine zD ?_ | refine zA ?_ _)); refine blk_put (cs := #[.int .i64 ((rd_T53 t665 x34_1).f0), .int .i64 0, .int .i64 0, .int .u8 0]) ?_ 1 _ rfl; (with_reducible repeat (first | refine zB ?_ _ | refine zD ?_ | refine zA ?_ _)); refine blk_put (cs := #[.int .i64 0, .int .i64 0, .int .i64 0, .int .u8 0]) ?_ 0 _ rfl; (with_reducible repeat (first | refine zB ?_ _ | refine zD ?_ | refine zA ?_ _)); exact BK674.out))⟩; have n9_ : zC (Below w.heap.size w w49) := ⟨(by rw [hw]; exact (by repeat (first | (with_reducible first | exact HB.out | apply zJ | apply zG | apply zI | refine zE ?_ GE645.out | refine zE ?_ GE659.out | refine zE ?_ GE660.out | refine zE ?_ GE674.out) | exact HB.out)))⟩; clear hw; clear HO_7; clear HO_11; clear HO_32; clear HO_660000; clear HO_660001; clear BK645; clear BK659; clear BK660; clear BK674; clear HB; have HO_7 := n0_; have HO_11 := n1_; have HO_32 := n2_; have HO_660000 := n3_; have HO_660001 := n4_; have BK645 := n5_; have BK659 := n6_; have BK660 := n7_; have BK674 := n8_; have HB := n9_; clear n0_ n1_ n2_ n3_ n4_ n5_ n6_ n7_ n8_ n9_))
    (try simp only [Act.put, sA_, sB_, sC_])
    go_cut [79] (fun v79 wc => ∃ (kq : Nat) (x79_42 : Bool), v79 = .bool x79_42 ∧ zC (stanzalaw16_LinesRows.j1 kq t661 x10_1 t665 t665 (t665.length : Int) x34_1 x79_42 t647 t650 ((rd_T53 t665 x34_1).f0) ((rd_T53 t665 x34_1).f1) ((rd_T53 t665 x34_1).f2) ((rd_T53 t665 x34_1).f3) = some r) ∧ zC (kq ≤ k1) ∧ zC (Kd.R k54 54 wc w.heap.size (fun _ => True) (.slice Ao37 t661.length co37) t661) ∧ zC (Kd.R k53 53 wc w.heap.size (fun k_ => k_ ≠ gb674) (.slice (some ad673) t665.length co39) t665) ∧ zC (Kd.R k53 53 wc w.heap.size (fun k_ => k_ ≠ gb674) (.slice (some ad673) t665.length co39) t665) ∧ zC (Kd.R k66 66 wc w.heap.size (fun _ => True) (.slice Ao20 t647.length co20) t647) ∧ zC (Kd.R (Kd.int .u8) 51 wc w.heap.size (fun _ => True) (.slice Ao22 t650.length co22) t650) ∧ zC (wc.heap[gb645]? = some (.cells #[.int .u8 a1_0, .int .u8 a1_1, .int .u8 a1_2, .int .u16 a1_3, .int .u16 a1_4, .float .f64 a1_5] 26 (0, 0))) ∧ zC (wc.heap[gb659]? = some (.cells #[(.slice Ao20 t647.length co20), (.slice Ao22 t650.length co22)] 31 (0, 0))) ∧ zC (wc.heap[gb660]? = some (.cells #[.int .i64 t653, .int .i64 t654, .int .u8 t655, .int .i64 t656, .int .i64 t657, .float .f64 t658] 35 (0, 0))) ∧ zC (wc.heap[gb674]? = some (.cells #[.int .i64 ((rd_T53 t665 x34_1).f0), .int .i64 ((rd_T53 t665 x34_1).f1), .int .i64 ((rd_T53 t665 x34_1).f2), .int .u8 ((rd_T53 t665 x34_1).f3)] 53 (0, 0))) ∧ zC (Below w.heap.size w wc))
    case first =>
      have H := HC43.out; clear HC43; by_cases c50 : ((rd_T53 t665 x34_1).f0) = x9_1
      rotate_left
      · rw [if_neg c50] at H
        have c50b0 : (((rd_T53 t665 x34_1).f0) == x9_1) = false := beq_eq_false_iff_ne.mpr c50
        have c50b1 : (((rd_T53 t665 x34_1).f0) != x9_1) = true := bne_iff_ne.mpr c50
        (first | rw [c50b0] | (simp only [zL, zM]; rw [c50b0]) | skip)
        have H' := zC.mk H
        clear H; try go_wp2
        have n0_ := zC.mk (Kd.R_drew HO_7.out); have n1_ := zC.mk (Kd.R_drew HO_11.out); have n2_ := zC.mk (Kd.R_drew HO_32.out); have n3_ := zC.mk (Kd.R_drew HO_660000.out); have n4_ := zC.mk (Kd.R_drew HO_660001.out); have n5_ := zC.mk (zD BK645.out); have n6_ := zC.mk (zD BK659.out); have n7_ := zC.mk (zD BK660.out); have n8_ := zC.mk (zD BK674.out); have n9_ := zC.mk (zI HB.out); clear HO_7; clear HO_11; clear HO_32; clear HO_660000; clear HO_660001; clear BK645; clear BK659; clear BK660; clear BK674; clear HB; have HO_7 := n0_; have HO_11 := n1_; have HO_32 := n2_; have HO_660000 := n3_; have HO_660001 := n4_; have BK645 := n5_; have BK659 := n6_; have BK660 := n7_; have BK674 := n8_; have HB := n9_; clear n0_ n1_ n2_ n3_ n4_ n5_ n6_ n7_ n8_ n9_; refine start_ (n := 41) (S := fun w' => w'.cell? ⟨gb674, 0, none⟩ = some (.int .i64 ((rd_T53 t665 x34_1).f0)) ∧ w'.cell? ⟨gb674, 1, none⟩ = some (.int .i64 ((rd_T53 t665 x34_1).f1)) ∧ w'.cell? ⟨gb674, 2, none⟩ = some (.int .i64 ((rd_T53 t665 x34_1).f2)) ∧ w'.cell? ⟨gb674, 3, none⟩ = some (.int .u8 ((rd_T53 t665 x34_1).f3))) (ds := []) #[false, false, false, false, false, false, false, false, false, false, false, false, false, false, false, false, false, false, false, false, false, false, false, false, false, false, false, false, false, false, false, false, false, false, false, false, false, false, false, false, false] (by kernel_rfl) rfl rfl ⟨(zF BK674.out 0).trans rfl, (zF BK674.out 1).trans rfl, (zF BK674.out 2).trans rfl, (zF BK674.out 3).trans rfl⟩ (fun hHeld => ?_); refine with_tabW stanzalaw16_LinesRows.tab12 stanzalaw16_LinesRows.bits12 (fun HT_ HW_ => ?_)
        generalize w49.drew = w61 at HO_7 HO_11 HO_32 HO_660000 HO_660001 BK645 BK659 BK660 BK674 HB hHeld ⊢
        refine pure_ (i := 0) (N := some 39) (v := ?_) (a' := ?_) (tf_ 1 41) rfl rfl (zN HT_.out (by kernel_rfl)) (fun _ _ _ h => h) (Or.inl ⟨by rfl, ?_⟩) ?_ ?_
        rotate_left
        · intro w'
          go_simp
          with_reducible rfl
        rotate_left
        · simp only [Act.put, sA_, sB_, sC_, zL, zM]
          rfl
        refine pure_ (i := 2) (N := some 41) (v := ?_) (a' := ?_) #[true, false, true, false, false, false, false, false, false, false, false, false, false, false, false, false, false, false, false, false, false, false, false, false, false, false, false, false, false, false, false, false, false, false, false, false, false, false, false, false, false] rfl rfl (zN HT_.out (by kernel_rfl)) (fun _ _ _ h => h) (Or.inl ⟨by rfl, ?_⟩) ?_ ?_
        rotate_left
        · intro w'
          go_simp
          with_reducible rfl
        rotate_left
        · simp only [Act.put, sA_, sB_, sC_, zL, zM]
          rfl
        refine take_ (i := 1) (N := some 40) (v := ?_) (a' := ?_) (tf_ 3 41) rfl rfl (take_ofW HT_.out HW_.out (by kernel_rfl)) (fun _ _ _ h => h) (Or.inl ⟨by rfl, ?_⟩) hHeld ?_ ?_
        rotate_left
        · rintro w' ⟨s0, s1, s2, s3⟩
          go_simp
          with_reducible rfl
        rotate_left
        · simp only [Act.put, sA_, sB_, sC_, zL, zM]
          rfl
        refine pure_ (i := 3) (N := some 42) (v := ?_) (a' := ?_) (tf_ 4 41) rfl rfl (zN HT_.out (by kernel_rfl)) (fun _ _ _ h => h) (Or.inl ⟨by rfl, ?_⟩) ?_ ?_
        rotate_left
        · intro w'
          go_simp
          with_reducible rfl
        rotate_left
        · simp only [Act.put, sA_, sB_, sC_, zL, zM]
          rfl
        refine pure_ (i := 4) (N := some 43) (v := ?_) (a' := ?_) (tf_ 5 41) rfl rfl (zN HT_.out (by kernel_rfl)) (fun _ _ _ h => h) (Or.inl ⟨by rfl, ?_⟩) ?_ ?_
        rotate_left
        · intro w'
          go_simp
          with_reducible rfl
        rotate_left
        · simp only [Act.put, sA_, sB_, sC_, zL, zM]
          rfl
        refine pure_ (i := 5) (N := some 44) (v := undef) (a' := ?_) (tf_ 6 41) rfl rfl (zN HT_.out (by kernel_rfl)) (fun _ _ _ h => h) (Or.inr ⟨by rfl, rfl⟩) ?_ ?_
        rotate_left
        · simp only [Act.put, sA_, sB_, sC_, zL, zM]
          rfl
        refine pure_ (i := 6) (N := some 45) (v := undef) (a' := ?_) (tf_ 7 41) rfl rfl (zN HT_.out (by kernel_rfl)) (fun _ _ _ h => h) (Or.inr ⟨by rfl, rfl⟩) ?_ ?_
        rotate_left
        · simp only [Act.put, sA_, sB_, sC_, zL, zM]
          rfl
        refine pure_ (i := 7) (N := some 46) (v := undef) (a' := ?_) (tf_ 8 41) rfl rfl (zN HT_.out (by kernel_rfl)) (fun _ _ _ h => h) (Or.inr ⟨by rfl, rfl⟩) ?_ ?_
        rotate_left
        · simp only [Act.put, sA_, sB_, sC_, zL, zM]
          rfl
        refine pure_ (i := 8) (N := some 47) (v := undef) (a' := ?_) (tf_ 9 41) rfl rfl (zN HT_.out (by kernel_rfl)) (fun _ _ _ h => h) (Or.inr ⟨by rfl, rfl⟩) ?_ ?_
        rotate_left
        · simp only [Act.put, sA_, sB_, sC_, zL, zM]
          rfl
        refine pure_ (i := 9) (N := some 48) (v := ?_) (a' := ?_) (tf_ 10 41) rfl rfl (zN HT_.out (by kernel_rfl)) (fun _ _ _ h => h) (Or.inl ⟨by rfl, ?_⟩) ?_ ?_
        rotate_left
        · intro w'
          go_simp
          with_reducible rfl
        rotate_left
        · simp only [Act.put, sA_, sB_, sC_, zL, zM]
          rfl
        refine pure_ (i := 10) (N := some 49) (v := ?_) (a' := ?_) (tf_ 11 41) rfl rfl (zN HT_.out (by kernel_rfl)) (fun _ _ _ h => h) (Or.inl ⟨by rfl, ?_⟩) ?_ ?_
        rotate_left
        · intro w'
          go_simp
          with_reducible rfl
        rotate_left
        · simp only [Act.put, sA_, sB_, sC_, zL, zM]
          rfl
        refine pure_ (i := 11) (N := some 50) (v := undef) (a' := ?_) (tf_ 12 41) rfl rfl (zN HT_.out (by kernel_rfl)) (fun _ _ _ h => h) (Or.inr ⟨by rfl, rfl⟩) ?_ ?_
        rotate_left
        · simp only [Act.put, sA_, sB_, sC_, zL, zM]
          rfl
        refine pure_ (i := 12) (N := some 51) (v := undef) (a' := ?_) (tf_ 13 41) rfl rfl (zN HT_.out (by kernel_rfl)) (fun _ _ _ h => h) (Or.inr ⟨by rfl, rfl⟩) ?_ ?_
        rotate_left
        · simp only [Act.put, sA_, sB_, sC_, zL, zM]
          rfl
        refine pure_ (i := 13) (N := some 52) (v := undef) (a' := ?_) (tf_ 14 41) rfl rfl (zN HT_.out (by kernel_rfl)) (fun _ _ _ h => h) (Or.inr ⟨by rfl, rfl⟩) ?_ ?_
        rotate_left
        · simp only [Act.put, sA_, sB_, sC_, zL, zM]
          rfl
        refine pure_ (i := 14) (N := some 53) (v := undef) (a' := ?_) (tf_ 15 41) rfl rfl (zN HT_.out (by kernel_rfl)) (fun _ _ _ h => h) (Or.inr ⟨by rfl, rfl⟩) ?_ ?_
        rotate_left
        · simp only [Act.put, sA_, sB_, sC_, zL, zM]
          rfl
        refine pure_ (i := 15) (N := some 54) (v := undef) (a' := ?_) (tf_ 16 41) rfl rfl (zN HT_.out (by kernel_rfl)) (fun _ _ _ h => h) (Or.inr ⟨by rfl, rfl⟩) ?_ ?_
        rotate_left
        · simp only [Act.put, sA_, sB_, sC_, zL, zM]
          rfl
        refine pure_ (i := 16) (N := some 55) (v := undef) (a' := ?_) (tf_ 17 41) rfl rfl (zN HT_.out (by kernel_rfl)) (fun _ _ _ h => h) (Or.inr ⟨by rfl, rfl⟩) ?_ ?_
        rotate_left
        · simp only [Act.put, sA_, sB_, sC_, zL, zM]
          rfl
        refine pure_ (i := 17) (N := some 56) (v := undef) (a' := ?_) (tf_ 18 41) rfl rfl (zN HT_.out (by kernel_rfl)) (fun _ _ _ h => h) (Or.inr ⟨by rfl, rfl⟩) ?_ ?_
        rotate_left
        · simp only [Act.put, sA_, sB_, sC_, zL, zM]
          rfl
        refine pure_ (i := 18) (N := some 57) (v := undef) (a' := ?_) (tf_ 19 41) rfl rfl (zN HT_.out (by kernel_rfl)) (fun _ _ _ h => h) (Or.inr ⟨by rfl, rfl⟩) ?_ ?_
        rotate_left
        · simp only [Act.put, sA_, sB_, sC_, zL, zM]
          rfl
        refine pure_ (i := 19) (N := some 58) (v := undef) (a' := ?_) (tf_ 20 41) rfl rfl (zN HT_.out (by kernel_rfl)) (fun _ _ _ h => h) (Or.inr ⟨by rfl, rfl⟩) ?_ ?_
        rotate_left
        · simp only [Act.put, sA_, sB_, sC_, zL, zM]
          rfl
        refine pure_ (i := 20) (N := some 59) (v := undef) (a' := ?_) (tf_ 21 41) rfl rfl (zN HT_.out (by kernel_rfl)) (fun _ _ _ h => h) (Or.inr ⟨by rfl, rfl⟩) ?_ ?_
        rotate_left
        · simp only [Act.put, sA_, sB_, sC_, zL, zM]
          rfl
        refine pure_ (i := 21) (N := some 60) (v := undef) (a' := ?_) (tf_ 22 41) rfl rfl (zN HT_.out (by kernel_rfl)) (fun _ _ _ h => h) (Or.inr ⟨by rfl, rfl⟩) ?_ ?_
        rotate_left
        · simp only [Act.put, sA_, sB_, sC_, zL, zM]
          rfl
        refine pure_ (i := 22) (N := some 61) (v := undef) (a' := ?_) (tf_ 23 41) rfl rfl (zN HT_.out (by kernel_rfl)) (fun _ _ _ h => h) (Or.inr ⟨by rfl, rfl⟩) ?_ ?_
        rotate_left
        · simp only [Act.put, sA_, sB_, sC_, zL, zM]
          rfl
        refine pure_ (i := 23) (N := some 62) (v := undef) (a' := ?_) (tf_ 24 41) rfl rfl (zN HT_.out (by kernel_rfl)) (fun _ _ _ h => h) (Or.inr ⟨by rfl, rfl⟩) ?_ ?_
        rotate_left
        · simp only [Act.put, sA_, sB_, sC_, zL, zM]
          rfl
        refine pure_ (i := 24) (N := some 63) (v := undef) (a' := ?_) (tf_ 25 41) rfl rfl (zN HT_.out (by kernel_rfl)) (fun _ _ _ h => h) (Or.inr ⟨by rfl, rfl⟩) ?_ ?_
        rotate_left
        · simp only [Act.put, sA_, sB_, sC_, zL, zM]
          rfl
        refine pure_ (i := 25) (N := some 64) (v := undef) (a' := ?_) (tf_ 26 41) rfl rfl (zN HT_.out (by kernel_rfl)) (fun _ _ _ h => h) (Or.inr ⟨by rfl, rfl⟩) ?_ ?_
        rotate_left
        · simp only [Act.put, sA_, sB_, sC_, zL, zM]
          rfl
        refine pure_ (i := 26) (N := some 65) (v := undef) (a' := ?_) (tf_ 27 41) rfl rfl (zN HT_.out (by kernel_rfl)) (fun _ _ _ h => h) (Or.inr ⟨by rfl, rfl⟩) ?_ ?_
        rotate_left
        · simp only [Act.put, sA_, sB_, sC_, zL, zM]
          rfl
        refine pure_ (i := 27) (N := some 66) (v := undef) (a' := ?_) (tf_ 28 41) rfl rfl (zN HT_.out (by kernel_rfl)) (fun _ _ _ h => h) (Or.inr ⟨by rfl, rfl⟩) ?_ ?_
        rotate_left
        · simp only [Act.put, sA_, sB_, sC_, zL, zM]
          rfl
        refine pure_ (i := 28) (N := some 67) (v := undef) (a' := ?_) (tf_ 29 41) rfl rfl (zN HT_.out (by kernel_rfl)) (fun _ _ _ h => h) (Or.inr ⟨by rfl, rfl⟩) ?_ ?_
        rotate_left
        · simp only [Act.put, sA_, sB_, sC_, zL, zM]
          rfl
        refine pure_ (i := 29) (N := some 68) (v := undef) (a' := ?_) (tf_ 30 41) rfl rfl (zN HT_.out (by kernel_rfl)) (fun _ _ _ h => h) (Or.inr ⟨by rfl, rfl⟩) ?_ ?_
        rotate_left
        · simp only [Act.put, sA_, sB_, sC_, zL, zM]
          rfl
        refine pure_ (i := 30) (N := some 69) (v := undef) (a' := ?_) (tf_ 31 41) rfl rfl (zN HT_.out (by kernel_rfl)) (fun _ _ _ h => h) (Or.inr ⟨by rfl, rfl⟩) ?_ ?_
        rotate_left
        · simp only [Act.put, sA_, sB_, sC_, zL, zM]
          rfl
        refine pure_ (i := 31) (N := some 70) (v := undef) (a' := ?_) (tf_ 32 41) rfl rfl (zN HT_.out (by kernel_rfl)) (fun _ _ _ h => h) (Or.inr ⟨by rfl, rfl⟩) ?_ ?_
        rotate_left
        · simp only [Act.put, sA_, sB_, sC_, zL, zM]
          rfl
        refine pure_ (i := 32) (N := some 71) (v := undef) (a' := ?_) (tf_ 33 41) rfl rfl (zN HT_.out (by kernel_rfl)) (fun _ _ _ h => h) (Or.inr ⟨by rfl, rfl⟩) ?_ ?_
        rotate_left
        · simp only [Act.put, sA_, sB_, sC_, zL, zM]
          rfl
        refine pure_ (i := 33) (N := some 72) (v := undef) (a' := ?_) (tf_ 34 41) rfl rfl (zN HT_.out (by kernel_rfl)) (fun _ _ _ h => h) (Or.inr ⟨by rfl, rfl⟩) ?_ ?_
        rotate_left
        · simp only [Act.put, sA_, sB_, sC_, zL, zM]
          rfl
        refine pure_ (i := 34) (N := some 73) (v := undef) (a' := ?_) (tf_ 35 41) rfl rfl (zN HT_.out (by kernel_rfl)) (fun _ _ _ h => h) (Or.inr ⟨by rfl, rfl⟩) ?_ ?_
        rotate_left
        · simp only [Act.put, sA_, sB_, sC_, zL, zM]
          rfl
        refine pure_ (i := 35) (N := some 74) (v := undef) (a' := ?_) (tf_ 36 41) rfl rfl (zN HT_.out (by kernel_rfl)) (fun _ _ _ h => h) (Or.inr ⟨by rfl, rfl⟩) ?_ ?_
        rotate_left
        · simp only [Act.put, sA_, sB_, sC_, zL, zM]
          rfl
        refine pure_ (i := 36) (N := some 75) (v := undef) (a' := ?_) (tf_ 37 41) rfl rfl (zN HT_.out (by kernel_rfl)) (fun _ _ _ h => h) (Or.inr ⟨by rfl, rfl⟩) ?_ ?_
        rotate_left
        · simp only [Act.put, sA_, sB_, sC_, zL, zM]
          rfl
        refine pure_ (i := 37) (N := some 76) (v := undef) (a' := ?_) (tf_ 38 41) rfl rfl (zN HT_.out (by kernel_rfl)) (fun _ _ _ h => h) (Or.inr ⟨by rfl, rfl⟩) ?_ ?_
        rotate_left
        · simp only [Act.put, sA_, sB_, sC_, zL, zM]
          rfl
        refine pure_ (i := 38) (N := some 77) (v := undef) (a' := ?_) (tf_ 39 41) rfl rfl (zN HT_.out (by kernel_rfl)) (fun _ _ _ h => h) (Or.inr ⟨by rfl, rfl⟩) ?_ ?_
        rotate_left
        · simp only [Act.put, sA_, sB_, sC_, zL, zM]
          rfl
        refine pure_ (i := 39) (N := some 78) (v := undef) (a' := ?_) (tf_ 40 41) rfl rfl (zN HT_.out (by kernel_rfl)) (fun _ _ _ h => h) (Or.inr ⟨by rfl, rfl⟩) ?_ ?_
        rotate_left
        · simp only [Act.put, sA_, sB_, sC_, zL, zM]
          rfl
        refine pure_ (i := 40) (N := some 79) (v := ?_) (a' := ?_) #[true, true, true, true, true, true, true, true, true, true, true, true, true, true, true, true, true, true, true, true, true, true, true, true, true, true, true, true, true, true, true, true, true, true, true, true, true, true, true, true, true] rfl rfl (zN HT_.out (by kernel_rfl)) (fun _ _ _ h => h) (Or.inl ⟨by rfl, ?_⟩) ?_ ?_
        rotate_left
        · intro w'
          go_simp
          with_reducible rfl
        rotate_left
        · simp only [Act.put, sA_, sB_, sC_, zL, zM]
          rfl
        refine done_ (done_of HT_.out (by kernel_rfl)) ?_
        try go_wp2
        go_meet
        case rel => exact ⟨_, (true), (by first | rfl | (simp; done) | (simp [*]; done)), H', ⟨by have := HK1.out; first | omega | exact Nat.le_refl _⟩, ⟨by (with_reducible repeat (first | apply Kd.R_alloc | apply Kd.R_drewN | apply Kd.R_drew)); exact HO_7.out⟩, ⟨by (with_reducible repeat (first | apply Kd.R_alloc | apply Kd.R_drewN | apply Kd.R_drew)); exact HO_11.out⟩, ⟨by (with_reducible repeat (first | apply Kd.R_alloc | apply Kd.R_drewN | apply Kd.R_drew)); exact HO_32.out⟩, ⟨by (with_reducible repeat (first | apply Kd.R_alloc | apply Kd.R_drewN | apply Kd.R_drew)); exact HO_660000.out⟩, ⟨by (with_reducible repeat (first | apply Kd.R_alloc | apply Kd.R_drewN | apply Kd.R_drew)); exact HO_660001.out⟩, ⟨by (with_reducible repeat (first | refine zB ?_ _ | refine zD ?_ | refine zA ?_ _)); exact BK645.out⟩, ⟨by (with_reducible repeat (first | refine zB ?_ _ | refine zD ?_ | refine zA ?_ _)); exact BK659.out⟩, ⟨by (with_reducible repeat (first | refine zB ?_ _ | refine zD ?_ | refine zA ?_ _)); exact BK660.out⟩, ⟨by (with_reducible repeat (first | refine zB ?_ _ | refine zD ?_ | refine zA ?_ _)); exact BK674.out⟩, ⟨by repeat (first | (with_reducible first | exact HB.out | apply zJ | apply zG | apply zI | refine zE ?_ GE645.out | refine zE ?_ GE659.out | refine zE ?_ GE660.out | refine zE ?_ GE674.out) | exact HB.out)⟩⟩
      rw [if_pos c50] at H; have c50b0 : (((rd_T53 t665 x34_1).f0) == x9_1) = true := beq_iff_eq.mpr c50
      have c50b1 : (((rd_T53 t665 x34_1).f0) != x9_1) = false := bne_eq_false_iff_eq.mpr c50
      clear c50; (first | rw [c50b0] | (simp only [zL, zM]; rw [c50b0]) | skip)
      by_cases c51 : ((rd_T53 t665 x34_1).f1) < x9_1
      · rw [if_pos c51] at H
        have c51b0 : decide (((rd_T53 t665 x34_1).f1) < x9_1) = true := decide_eq_true c51
        clear c51; have H' := zC.mk H
        clear H; try go_wp2
        have n0_ := zC.mk (Kd.R_drew HO_7.out); have n1_ := zC.mk (Kd.R_drew HO_11.out); have n2_ := zC.mk (Kd.R_drew HO_32.out); have n3_ := zC.mk (Kd.R_drew HO_660000.out); have n4_ := zC.mk (Kd.R_drew HO_660001.out); have n5_ := zC.mk (zD BK645.out); have n6_ := zC.mk (zD BK659.out); have n7_ := zC.mk (zD BK660.out); have n8_ := zC.mk (zD BK674.out); have n9_ := zC.mk (zI HB.out); clear HO_7; clear HO_11; clear HO_32; clear HO_660000; clear HO_660001; clear BK645; clear BK659; clear BK660; clear BK674; clear HB; have HO_7 := n0_; have HO_11 := n1_; have HO_32 := n2_; have HO_660000 := n3_; have HO_660001 := n4_; have BK645 := n5_; have BK659 := n6_; have BK660 := n7_; have BK674 := n8_; have HB := n9_; clear n0_ n1_ n2_ n3_ n4_ n5_ n6_ n7_ n8_ n9_; refine start_ (n := 41) (S := fun w' => w'.cell? ⟨gb674, 0, none⟩ = some (.int .i64 ((rd_T53 t665 x34_1).f0)) ∧ w'.cell? ⟨gb674, 1, none⟩ = some (.int .i64 ((rd_T53 t665 x34_1).f1)) ∧ w'.cell? ⟨gb674, 2, none⟩ = some (.int .i64 ((rd_T53 t665 x34_1).f2)) ∧ w'.cell? ⟨gb674, 3, none⟩ = some (.int .u8 ((rd_T53 t665 x34_1).f3))) (ds := []) #[false, false, false, false, false, false, false, false, false, false, false, false, false, false, false, false, false, false, false, false, false, false, false, false, false, false, false, false, false, false, false, false, false, false, false, false, false, false, false, false, false] (by kernel_rfl) rfl rfl ⟨(zF BK674.out 0).trans rfl, (zF BK674.out 1).trans rfl, (zF BK674.out 2).trans rfl, (zF BK674.out 3).trans rfl⟩ (fun hHeld => ?_); refine with_tabW stanzalaw16_LinesRows.tab12 stanzalaw16_LinesRows.bits12 (fun HT_ HW_ => ?_)
        generalize w49.drew = w52 at HO_7 HO_11 HO_32 HO_660000 HO_660001 BK645 BK659 BK660 BK674 HB hHeld ⊢
        refine pure_ (i := 0) (N := some 39) (v := ?_) (a' := ?_) (tf_ 1 41) rfl rfl (zN HT_.out (by kernel_rfl)) (fun _ _ _ h => h) (Or.inl ⟨by rfl, ?_⟩) ?_ ?_
        rotate_left
        · intro w'
          go_simp
          with_reducible rfl
        rotate_left
        · simp only [Act.put, sA_, sB_, sC_, zL, zM]
          rfl
        refine pure_ (i := 2) (N := some 41) (v := ?_) (a' := ?_) #[true, false, true, false, false, false, false, false, false, false, false, false, false, false, false, false, false, false, false, false, false, false, false, false, false, false, false, false, false, false, false, false, false, false, false, false, false, false, false, false, false] rfl rfl (zN HT_.out (by kernel_rfl)) (fun _ _ _ h => h) (Or.inl ⟨by rfl, ?_⟩) ?_ ?_
        rotate_left
        · intro w'
          go_simp
          with_reducible rfl
        rotate_left
        · simp only [Act.put, sA_, sB_, sC_, zL, zM]
          rfl
        refine take_ (i := 1) (N := some 40) (v := ?_) (a' := ?_) (tf_ 3 41) rfl rfl (take_ofW HT_.out HW_.out (by kernel_rfl)) (fun _ _ _ h => h) (Or.inl ⟨by rfl, ?_⟩) hHeld ?_ ?_
        rotate_left
        · rintro w' ⟨s0, s1, s2, s3⟩
          go_simp
          with_reducible rfl
        rotate_left
        · simp only [Act.put, sA_, sB_, sC_, zL, zM]
          rfl
        refine pure_ (i := 3) (N := some 42) (v := ?_) (a' := ?_) (tf_ 4 41) rfl rfl (zN HT_.out (by kernel_rfl)) (fun _ _ _ h => h) (Or.inl ⟨by rfl, ?_⟩) ?_ ?_
        rotate_left
        · intro w'
          go_simp
          with_reducible rfl
        rotate_left
        · simp only [Act.put, sA_, sB_, sC_, zL, zM]
          rfl
        refine pure_ (i := 4) (N := some 43) (v := ?_) (a' := ?_) (tf_ 5 41) rfl rfl (zN HT_.out (by kernel_rfl)) (fun _ _ _ h => h) (Or.inl ⟨by rfl, ?_⟩) ?_ ?_
        rotate_left
        · intro w'
          go_simp
          with_reducible rfl
        rotate_left
        · simp only [Act.put, sA_, sB_, sC_, zL, zM]
          rfl
        refine pure_ (i := 5) (N := some 44) (v := ?_) (a' := ?_) (tf_ 6 41) rfl rfl (zN HT_.out (by kernel_rfl)) (fun _ _ _ h => h) (Or.inl ⟨by rfl, ?_⟩) ?_ ?_
        rotate_left
        · intro w'
          go_simp
          with_reducible rfl
        rotate_left
        · simp only [Act.put, sA_, sB_, sC_, zL, zM]
          rfl
        refine pure_ (i := 7) (N := some 46) (v := ?_) (a' := ?_) #[true, true, true, true, true, true, false, true, false, false, false, false, false, false, false, false, false, false, false, false, false, false, false, false, false, false, false, false, false, false, false, false, false, false, false, false, false, false, false, false, false] rfl rfl (zN HT_.out (by kernel_rfl)) (fun _ _ _ h => h) (Or.inl ⟨by rfl, ?_⟩) ?_ ?_
        rotate_left
        · intro w'
          go_simp
          with_reducible rfl
        rotate_left
        · simp only [Act.put, sA_, sB_, sC_, zL, zM]
          rfl
        refine take_ (i := 6) (N := some 45) (v := ?_) (a' := ?_) (tf_ 8 41) rfl rfl (take_ofW HT_.out HW_.out (by kernel_rfl)) (fun _ _ _ h => h) (Or.inl ⟨by rfl, ?_⟩) hHeld ?_ ?_
        rotate_left
        · rintro w' ⟨s0, s1, s2, s3⟩
          go_simp
          with_reducible rfl
        rotate_left
        · simp only [Act.put, sA_, sB_, sC_, zL, zM]
          rfl
        refine pure_ (i := 8) (N := some 47) (v := ?_) (a' := ?_) (tf_ 9 41) rfl rfl (zN HT_.out (by kernel_rfl)) (fun _ _ _ h => h) (Or.inl ⟨by rfl, ?_⟩) ?_ ?_
        rotate_left
        · intro w'
          go_simp
          with_reducible rfl
        rotate_left
        · simp only [Act.put, sA_, sB_, sC_, zL, zM]
          rfl
        refine pure_ (i := 9) (N := some 48) (v := ?_) (a' := ?_) (tf_ 10 41) rfl rfl (zN HT_.out (by kernel_rfl)) (fun _ _ _ h => h) (Or.inl ⟨by rfl, ?_⟩) ?_ ?_
        rotate_left
        · intro w'
          go_simp
          with_reducible rfl
        rotate_left
        · simp only [Act.put, sA_, sB_, sC_, zL, zM]
          rfl
        refine pure_ (i := 10) (N := some 49) (v := ?_) (a' := ?_) (tf_ 11 41) rfl rfl (zN HT_.out (by kernel_rfl)) (fun _ _ _ h => h) (Or.inl ⟨by rfl, ?_⟩) ?_ ?_
        rotate_left
        · intro w'
          go_simp
          with_reducible rfl
        rotate_left
        · simp only [Act.put, sA_, sB_, sC_, zL, zM]
          rfl
        refine pure_ (i := 11) (N := some 50) (v := undef) (a' := ?_) (tf_ 12 41) rfl rfl (zN HT_.out (by kernel_rfl)) (fun _ _ _ h => h) (Or.inr ⟨by rfl, rfl⟩) ?_ ?_
        rotate_left
        · simp only [Act.put, sA_, sB_, sC_, zL, zM]
          rfl
        refine pure_ (i := 12) (N := some 51) (v := undef) (a' := ?_) (tf_ 13 41) rfl rfl (zN HT_.out (by kernel_rfl)) (fun _ _ _ h => h) (Or.inr ⟨by rfl, rfl⟩) ?_ ?_
        rotate_left
        · simp only [Act.put, sA_, sB_, sC_, zL, zM]
          rfl
        refine pure_ (i := 13) (N := some 52) (v := undef) (a' := ?_) (tf_ 14 41) rfl rfl (zN HT_.out (by kernel_rfl)) (fun _ _ _ h => h) (Or.inr ⟨by rfl, rfl⟩) ?_ ?_
        rotate_left
        · simp only [Act.put, sA_, sB_, sC_, zL, zM]
          rfl
        refine pure_ (i := 14) (N := some 53) (v := undef) (a' := ?_) (tf_ 15 41) rfl rfl (zN HT_.out (by kernel_rfl)) (fun _ _ _ h => h) (Or.inr ⟨by rfl, rfl⟩) ?_ ?_
        rotate_left
        · simp only [Act.put, sA_, sB_, sC_, zL, zM]
          rfl
        refine pure_ (i := 15) (N := some 54) (v := undef) (a' := ?_) (tf_ 16 41) rfl rfl (zN HT_.out (by kernel_rfl)) (fun _ _ _ h => h) (Or.inr ⟨by rfl, rfl⟩) ?_ ?_
        rotate_left
        · simp only [Act.put, sA_, sB_, sC_, zL, zM]
          rfl
        refine pure_ (i := 16) (N := some 55) (v := undef) (a' := ?_) (tf_ 17 41) rfl rfl (zN HT_.out (by kernel_rfl)) (fun _ _ _ h => h) (Or.inr ⟨by rfl, rfl⟩) ?_ ?_
        rotate_left
        · simp only [Act.put, sA_, sB_, sC_, zL, zM]
          rfl
        refine pure_ (i := 17) (N := some 56) (v := undef) (a' := ?_) (tf_ 18 41) rfl rfl (zN HT_.out (by kernel_rfl)) (fun _ _ _ h => h) (Or.inr ⟨by rfl, rfl⟩) ?_ ?_
        rotate_left
        · simp only [Act.put, sA_, sB_, sC_, zL, zM]
          rfl
        refine pure_ (i := 18) (N := some 57) (v := undef) (a' := ?_) (tf_ 19 41) rfl rfl (zN HT_.out (by kernel_rfl)) (fun _ _ _ h => h) (Or.inr ⟨by rfl, rfl⟩) ?_ ?_
        rotate_left
        · simp only [Act.put, sA_, sB_, sC_, zL, zM]
          rfl
        refine pure_ (i := 19) (N := some 58) (v := undef) (a' := ?_) (tf_ 20 41) rfl rfl (zN HT_.out (by kernel_rfl)) (fun _ _ _ h => h) (Or.inr ⟨by rfl, rfl⟩) ?_ ?_
        rotate_left
        · simp only [Act.put, sA_, sB_, sC_, zL, zM]
          rfl
        refine pure_ (i := 20) (N := some 59) (v := undef) (a' := ?_) (tf_ 21 41) rfl rfl (zN HT_.out (by kernel_rfl)) (fun _ _ _ h => h) (Or.inr ⟨by rfl, rfl⟩) ?_ ?_
        rotate_left
        · simp only [Act.put, sA_, sB_, sC_, zL, zM]
          rfl
        refine pure_ (i := 21) (N := some 60) (v := undef) (a' := ?_) (tf_ 22 41) rfl rfl (zN HT_.out (by kernel_rfl)) (fun _ _ _ h => h) (Or.inr ⟨by rfl, rfl⟩) ?_ ?_
        rotate_left
        · simp only [Act.put, sA_, sB_, sC_, zL, zM]
          rfl
        refine pure_ (i := 22) (N := some 61) (v := undef) (a' := ?_) (tf_ 23 41) rfl rfl (zN HT_.out (by kernel_rfl)) (fun _ _ _ h => h) (Or.inr ⟨by rfl, rfl⟩) ?_ ?_
        rotate_left
        · simp only [Act.put, sA_, sB_, sC_, zL, zM]
          rfl
        refine pure_ (i := 23) (N := some 62) (v := undef) (a' := ?_) (tf_ 24 41) rfl rfl (zN HT_.out (by kernel_rfl)) (fun _ _ _ h => h) (Or.inr ⟨by rfl, rfl⟩) ?_ ?_
        rotate_left
        · simp only [Act.put, sA_, sB_, sC_, zL, zM]
          rfl
        refine pure_ (i := 24) (N := some 63) (v := undef) (a' := ?_) (tf_ 25 41) rfl rfl (zN HT_.out (by kernel_rfl)) (fun _ _ _ h => h) (Or.inr ⟨by rfl, rfl⟩) ?_ ?_
        rotate_left
        · simp only [Act.put, sA_, sB_, sC_, zL, zM]
          rfl
        refine pure_ (i := 25) (N := some 64) (v := undef) (a' := ?_) (tf_ 26 41) rfl rfl (zN HT_.out (by kernel_rfl)) (fun _ _ _ h => h) (Or.inr ⟨by rfl, rfl⟩) ?_ ?_
        rotate_left
        · simp only [Act.put, sA_, sB_, sC_, zL, zM]
          rfl
        refine pure_ (i := 26) (N := some 65) (v := undef) (a' := ?_) (tf_ 27 41) rfl rfl (zN HT_.out (by kernel_rfl)) (fun _ _ _ h => h) (Or.inr ⟨by rfl, rfl⟩) ?_ ?_
        rotate_left
        · simp only [Act.put, sA_, sB_, sC_, zL, zM]
          rfl
        refine pure_ (i := 27) (N := some 66) (v := undef) (a' := ?_) (tf_ 28 41) rfl rfl (zN HT_.out (by kernel_rfl)) (fun _ _ _ h => h) (Or.inr ⟨by rfl, rfl⟩) ?_ ?_
        rotate_left
        · simp only [Act.put, sA_, sB_, sC_, zL, zM]
          rfl
        refine pure_ (i := 28) (N := some 67) (v := undef) (a' := ?_) (tf_ 29 41) rfl rfl (zN HT_.out (by kernel_rfl)) (fun _ _ _ h => h) (Or.inr ⟨by rfl, rfl⟩) ?_ ?_
        rotate_left
        · simp only [Act.put, sA_, sB_, sC_, zL, zM]
          rfl
        refine pure_ (i := 29) (N := some 68) (v := undef) (a' := ?_) (tf_ 30 41) rfl rfl (zN HT_.out (by kernel_rfl)) (fun _ _ _ h => h) (Or.inr ⟨by rfl, rfl⟩) ?_ ?_
        rotate_left
        · simp only [Act.put, sA_, sB_, sC_, zL, zM]
          rfl
        refine pure_ (i := 30) (N := some 69) (v := undef) (a' := ?_) (tf_ 31 41) rfl rfl (zN HT_.out (by kernel_rfl)) (fun _ _ _ h => h) (Or.inr ⟨by rfl, rfl⟩) ?_ ?_
        rotate_left
        · simp only [Act.put, sA_, sB_, sC_, zL, zM]
          rfl
        refine pure_ (i := 31) (N := some 70) (v := undef) (a' := ?_) (tf_ 32 41) rfl rfl (zN HT_.out (by kernel_rfl)) (fun _ _ _ h => h) (Or.inr ⟨by rfl, rfl⟩) ?_ ?_
        rotate_left
        · simp only [Act.put, sA_, sB_, sC_, zL, zM]
          rfl
        refine pure_ (i := 32) (N := some 71) (v := undef) (a' := ?_) (tf_ 33 41) rfl rfl (zN HT_.out (by kernel_rfl)) (fun _ _ _ h => h) (Or.inr ⟨by rfl, rfl⟩) ?_ ?_
        rotate_left
        · simp only [Act.put, sA_, sB_, sC_, zL, zM]
          rfl
        refine pure_ (i := 33) (N := some 72) (v := undef) (a' := ?_) (tf_ 34 41) rfl rfl (zN HT_.out (by kernel_rfl)) (fun _ _ _ h => h) (Or.inr ⟨by rfl, rfl⟩) ?_ ?_
        rotate_left
        · simp only [Act.put, sA_, sB_, sC_, zL, zM]
          rfl
        refine pure_ (i := 34) (N := some 73) (v := undef) (a' := ?_) (tf_ 35 41) rfl rfl (zN HT_.out (by kernel_rfl)) (fun _ _ _ h => h) (Or.inr ⟨by rfl, rfl⟩) ?_ ?_
        rotate_left
        · simp only [Act.put, sA_, sB_, sC_, zL, zM]
          rfl
        refine pure_ (i := 35) (N := some 74) (v := undef) (a' := ?_) (tf_ 36 41) rfl rfl (zN HT_.out (by kernel_rfl)) (fun _ _ _ h => h) (Or.inr ⟨by rfl, rfl⟩) ?_ ?_
        rotate_left
        · simp only [Act.put, sA_, sB_, sC_, zL, zM]
          rfl
        refine pure_ (i := 36) (N := some 75) (v := undef) (a' := ?_) (tf_ 37 41) rfl rfl (zN HT_.out (by kernel_rfl)) (fun _ _ _ h => h) (Or.inr ⟨by rfl, rfl⟩) ?_ ?_
        rotate_left
        · simp only [Act.put, sA_, sB_, sC_, zL, zM]
          rfl
        refine pure_ (i := 37) (N := some 76) (v := undef) (a' := ?_) (tf_ 38 41) rfl rfl (zN HT_.out (by kernel_rfl)) (fun _ _ _ h => h) (Or.inr ⟨by rfl, rfl⟩) ?_ ?_
        rotate_left
        · simp only [Act.put, sA_, sB_, sC_, zL, zM]
          rfl
        refine pure_ (i := 38) (N := some 77) (v := undef) (a' := ?_) (tf_ 39 41) rfl rfl (zN HT_.out (by kernel_rfl)) (fun _ _ _ h => h) (Or.inr ⟨by rfl, rfl⟩) ?_ ?_
        rotate_left
        · simp only [Act.put, sA_, sB_, sC_, zL, zM]
          rfl
        refine pure_ (i := 39) (N := some 78) (v := undef) (a' := ?_) (tf_ 40 41) rfl rfl (zN HT_.out (by kernel_rfl)) (fun _ _ _ h => h) (Or.inr ⟨by rfl, rfl⟩) ?_ ?_
        rotate_left
        · simp only [Act.put, sA_, sB_, sC_, zL, zM]
          rfl
        refine pure_ (i := 40) (N := some 79) (v := ?_) (a' := ?_) #[true, true, true, true, true, true, true, true, true, true, true, true, true, true, true, true, true, true, true, true, true, true, true, true, true, true, true, true, true, true, true, true, true, true, true, true, true, true, true, true, true] rfl rfl (zN HT_.out (by kernel_rfl)) (fun _ _ _ h => h) (Or.inl ⟨by rfl, ?_⟩) ?_ ?_
        rotate_left
        · intro w'
          go_simp
          with_reducible rfl
        rotate_left
        · simp only [Act.put, sA_, sB_, sC_, zL, zM]
          rfl
        refine done_ (done_of HT_.out (by kernel_rfl)) ?_
        try go_wp2
        go_meet
        case rel => exact ⟨_, (true), (by first | rfl | (simp; done) | (simp [*]; done)), H', ⟨by have := HK1.out; first | omega | exact Nat.le_refl _⟩, ⟨by (with_reducible repeat (first | apply Kd.R_alloc | apply Kd.R_drewN | apply Kd.R_drew)); exact HO_7.out⟩, ⟨by (with_reducible repeat (first | apply Kd.R_alloc | apply Kd.R_drewN | apply Kd.R_drew)); exact HO_11.out⟩, ⟨by (with_reducible repeat (first | apply Kd.R_alloc | apply Kd.R_drewN | apply Kd.R_drew)); exact HO_32.out⟩, ⟨by (with_reducible repeat (first | apply Kd.R_alloc | apply Kd.R_drewN | apply Kd.R_drew)); exact HO_660000.out⟩, ⟨by (with_reducible repeat (first | apply Kd.R_alloc | apply Kd.R_drewN | apply Kd.R_drew)); exact HO_660001.out⟩, ⟨by (with_reducible repeat (first | refine zB ?_ _ | refine zD ?_ | refine zA ?_ _)); exact BK645.out⟩, ⟨by (with_reducible repeat (first | refine zB ?_ _ | refine zD ?_ | refine zA ?_ _)); exact BK659.out⟩, ⟨by (with_reducible repeat (first | refine zB ?_ _ | refine zD ?_ | refine zA ?_ _)); exact BK660.out⟩, ⟨by (with_reducible repeat (first | refine zB ?_ _ | refine zD ?_ | refine zA ?_ _)); exact BK674.out⟩, ⟨by repeat (first | (with_reducible first | exact HB.out | apply zJ | apply zG | apply zI | refine zE ?_ GE645.out | refine zE ?_ GE659.out | refine zE ?_ GE660.out | refine zE ?_ GE674.out) | exact HB.out)⟩⟩
      rw [if_neg c51] at H; have c51b0 : decide (((rd_T53 t665 x34_1).f1) < x9_1) = false := decide_eq_false c51
      clear c51; by_cases c53 : (t661.length : Int) > 0
      rotate_left
      · rw [if_neg c53] at H
        have c53b0 : decide (0 < (t661.length : Int)) = false := decide_eq_false c53
        have c53b1 : decide (0 < t661.length) = false := decide_eq_false (by omega)
        clear c53; have H' := zC.mk H
        clear H; try go_wp2
        have n0_ := zC.mk (Kd.R_drew HO_7.out); have n1_ := zC.mk (Kd.R_drew HO_11.out); have n2_ := zC.mk (Kd.R_drew HO_32.out); have n3_ := zC.mk (Kd.R_drew HO_660000.out); have n4_ := zC.mk (Kd.R_drew HO_660001.out); have n5_ := zC.mk (zD BK645.out); have n6_ := zC.mk (zD BK659.out); have n7_ := zC.mk (zD BK660.out); have n8_ := zC.mk (zD BK674.out); have n9_ := zC.mk (zI HB.out); clear HO_7; clear HO_11; clear HO_32; clear HO_660000; clear HO_660001; clear BK645; clear BK659; clear BK660; clear BK674; clear HB; have HO_7 := n0_; have HO_11 := n1_; have HO_32 := n2_; have HO_660000 := n3_; have HO_660001 := n4_; have BK645 := n5_; have BK659 := n6_; have BK660 := n7_; have BK674 := n8_; have HB := n9_; clear n0_ n1_ n2_ n3_ n4_ n5_ n6_ n7_ n8_ n9_; refine start_ (n := 41) (S := fun w' => w'.cell? ⟨gb674, 0, none⟩ = some (.int .i64 ((rd_T53 t665 x34_1).f0)) ∧ w'.cell? ⟨gb674, 1, none⟩ = some (.int .i64 ((rd_T53 t665 x34_1).f1)) ∧ w'.cell? ⟨gb674, 2, none⟩ = some (.int .i64 ((rd_T53 t665 x34_1).f2)) ∧ w'.cell? ⟨gb674, 3, none⟩ = some (.int .u8 ((rd_T53 t665 x34_1).f3))) (ds := []) #[false, false, false, false, false, false, false, false, false, false, false, false, false, false, false, false, false, false, false, false, false, false, false, false, false, false, false, false, false, false, false, false, false, false, false, false, false, false, false, false, false] (by kernel_rfl) rfl rfl ⟨(zF BK674.out 0).trans rfl, (zF BK674.out 1).trans rfl, (zF BK674.out 2).trans rfl, (zF BK674.out 3).trans rfl⟩ (fun hHeld => ?_); refine with_tabW stanzalaw16_LinesRows.tab12 stanzalaw16_LinesRows.bits12 (fun HT_ HW_ => ?_)
        generalize w49.drew = w60 at HO_7 HO_11 HO_32 HO_660000 HO_660001 BK645 BK659 BK660 BK674 HB hHeld ⊢
        refine pure_ (i := 0) (N := some 39) (v := ?_) (a' := ?_) (tf_ 1 41) rfl rfl (zN HT_.out (by kernel_rfl)) (fun _ _ _ h => h) (Or.inl ⟨by rfl, ?_⟩) ?_ ?_
        rotate_left
        · intro w'
          go_simp
          with_reducible rfl
        rotate_left
        · simp only [Act.put, sA_, sB_, sC_, zL, zM]
          rfl
        refine pure_ (i := 2) (N := some 41) (v := ?_) (a' := ?_) #[true, false, true, false, false, false, false, false, false, false, false, false, false, false, false, false, false, false, false, false, false, false, false, false, false, false, false, false, false, false, false, false, false, false, false, false, false, false, false, false, false] rfl rfl (zN HT_.out (by kernel_rfl)) (fun _ _ _ h => h) (Or.inl ⟨by rfl, ?_⟩) ?_ ?_
        rotate_left
        · intro w'
          go_simp
          with_reducible rfl
        rotate_left
        · simp only [Act.put, sA_, sB_, sC_, zL, zM]
          rfl
        refine take_ (i := 1) (N := some 40) (v := ?_) (a' := ?_) (tf_ 3 41) rfl rfl (take_ofW HT_.out HW_.out (by kernel_rfl)) (fun _ _ _ h => h) (Or.inl ⟨by rfl, ?_⟩) hHeld ?_ ?_
        rotate_left
        · rintro w' ⟨s0, s1, s2, s3⟩
          go_simp
          with_reducible rfl
        rotate_left
        · simp only [Act.put, sA_, sB_, sC_, zL, zM]
          rfl
        refine pure_ (i := 3) (N := some 42) (v := ?_) (a' := ?_) (tf_ 4 41) rfl rfl (zN HT_.out (by kernel_rfl)) (fun _ _ _ h => h) (Or.inl ⟨by rfl, ?_⟩) ?_ ?_
        rotate_left
        · intro w'
          go_simp
          with_reducible rfl
        rotate_left
        · simp only [Act.put, sA_, sB_, sC_, zL, zM]
          rfl
        refine pure_ (i := 4) (N := some 43) (v := ?_) (a' := ?_) (tf_ 5 41) rfl rfl (zN HT_.out (by kernel_rfl)) (fun _ _ _ h => h) (Or.inl ⟨by rfl, ?_⟩) ?_ ?_
        rotate_left
        · intro w'
          go_simp
          with_reducible rfl
        rotate_left
        · simp only [Act.put, sA_, sB_, sC_, zL, zM]
          rfl
        refine pure_ (i := 5) (N := some 44) (v := ?_) (a' := ?_) (tf_ 6 41) rfl rfl (zN HT_.out (by kernel_rfl)) (fun _ _ _ h => h) (Or.inl ⟨by rfl, ?_⟩) ?_ ?_
        rotate_left
        · intro w'
          go_simp
          with_reducible rfl
        rotate_left
        · simp only [Act.put, sA_, sB_, sC_, zL, zM]
          rfl
        refine pure_ (i := 7) (N := some 46) (v := ?_) (a' := ?_) #[true, true, true, true, true, true, false, true, false, false, false, false, false, false, false, false, false, false, false, false, false, false, false, false, false, false, false, false, false, false, false, false, false, false, false, false, false, false, false, false, false] rfl rfl (zN HT_.out (by kernel_rfl)) (fun _ _ _ h => h) (Or.inl ⟨by rfl, ?_⟩) ?_ ?_
        rotate_left
        · intro w'
          go_simp
          with_reducible rfl
        rotate_left
        · simp only [Act.put, sA_, sB_, sC_, zL, zM]
          rfl
        refine take_ (i := 6) (N := some 45) (v := ?_) (a' := ?_) (tf_ 8 41) rfl rfl (take_ofW HT_.out HW_.out (by kernel_rfl)) (fun _ _ _ h => h) (Or.inl ⟨by rfl, ?_⟩) hHeld ?_ ?_
        rotate_left
        · rintro w' ⟨s0, s1, s2, s3⟩
          go_simp
          with_reducible rfl
        rotate_left
        · simp only [Act.put, sA_, sB_, sC_, zL, zM]
          rfl
        refine pure_ (i := 8) (N := some 47) (v := ?_) (a' := ?_) (tf_ 9 41) rfl rfl (zN HT_.out (by kernel_rfl)) (fun _ _ _ h => h) (Or.inl ⟨by rfl, ?_⟩) ?_ ?_
        rotate_left
        · intro w'
          go_simp
          with_reducible rfl
        rotate_left
        · simp only [Act.put, sA_, sB_, sC_, zL, zM]
          rfl
        refine pure_ (i := 9) (N := some 48) (v := ?_) (a' := ?_) (tf_ 10 41) rfl rfl (zN HT_.out (by kernel_rfl)) (fun _ _ _ h => h) (Or.inl ⟨by rfl, ?_⟩) ?_ ?_
        rotate_left
        · intro w'
          go_simp
          with_reducible rfl
        rotate_left
        · simp only [Act.put, sA_, sB_, sC_, zL, zM]
          rfl
        refine pure_ (i := 10) (N := some 49) (v := ?_) (a' := ?_) (tf_ 11 41) rfl rfl (zN HT_.out (by kernel_rfl)) (fun _ _ _ h => h) (Or.inl ⟨by rfl, ?_⟩) ?_ ?_
        rotate_left
        · intro w'
          go_simp
          with_reducible rfl
        rotate_left
        · simp only [Act.put, sA_, sB_, sC_, zL, zM]
          rfl
        refine pure_ (i := 11) (N := some 50) (v := ?_) (a' := ?_) (tf_ 12 41) rfl rfl (zN HT_.out (by kernel_rfl)) (fun _ _ _ h => h) (Or.inl ⟨by rfl, ?_⟩) ?_ ?_
        rotate_left
        · intro w'
          go_simp
          with_reducible rfl
        rotate_left
        · simp only [Act.put, sA_, sB_, sC_, zL, zM]
          rfl
        refine pure_ (i := 12) (N := some 51) (v := ?_) (a' := ?_) (tf_ 13 41) rfl rfl (zN HT_.out (by kernel_rfl)) (fun _ _ _ h => h) (Or.inl ⟨by rfl, ?_⟩) ?_ ?_
        rotate_left
        · intro w'
          go_simp
          with_reducible rfl
        rotate_left
        · simp only [Act.put, sA_, sB_, sC_, zL, zM]
          rfl
        refine pure_ (i := 13) (N := some 52) (v := ?_) (a' := ?_) (tf_ 14 41) rfl rfl (zN HT_.out (by kernel_rfl)) (fun _ _ _ h => h) (Or.inl ⟨by rfl, ?_⟩) ?_ ?_
        rotate_left
        · intro w'
          go_simp
          with_reducible rfl
        rotate_left
        · simp only [Act.put, sA_, sB_, sC_, zL, zM]
          rfl
        refine pure_ (i := 14) (N := some 53) (v := ?_) (a' := ?_) (tf_ 15 41) rfl rfl (zN HT_.out (by kernel_rfl)) (fun _ _ _ h => h) (Or.inl ⟨by rfl, ?_⟩) ?_ ?_
        rotate_left
        · intro w'
          go_simp
          with_reducible rfl
        rotate_left
        · simp only [Act.put, sA_, sB_, sC_, zL, zM]
          rfl
        refine pure_ (i := 15) (N := some 54) (v := undef) (a' := ?_) (tf_ 16 41) rfl rfl (zN HT_.out (by kernel_rfl)) (fun _ _ _ h => h) (Or.inr ⟨by rfl, rfl⟩) ?_ ?_
        rotate_left
        · simp only [Act.put, sA_, sB_, sC_, zL, zM]
          rfl
        refine pure_ (i := 16) (N := some 55) (v := undef) (a' := ?_) (tf_ 17 41) rfl rfl (zN HT_.out (by kernel_rfl)) (fun _ _ _ h => h) (Or.inr ⟨by rfl, rfl⟩) ?_ ?_
        rotate_left
        · simp only [Act.put, sA_, sB_, sC_, zL, zM]
          rfl
        refine pure_ (i := 17) (N := some 56) (v := undef) (a' := ?_) (tf_ 18 41) rfl rfl (zN HT_.out (by kernel_rfl)) (fun _ _ _ h => h) (Or.inr ⟨by rfl, rfl⟩) ?_ ?_
        rotate_left
        · simp only [Act.put, sA_, sB_, sC_, zL, zM]
          rfl
        refine pure_ (i := 18) (N := some 57) (v := undef) (a' := ?_) (tf_ 19 41) rfl rfl (zN HT_.out (by kernel_rfl)) (fun _ _ _ h => h) (Or.inr ⟨by rfl, rfl⟩) ?_ ?_
        rotate_left
        · simp only [Act.put, sA_, sB_, sC_, zL, zM]
          rfl
        refine pure_ (i := 19) (N := some 58) (v := undef) (a' := ?_) (tf_ 20 41) rfl rfl (zN HT_.out (by kernel_rfl)) (fun _ _ _ h => h) (Or.inr ⟨by rfl, rfl⟩) ?_ ?_
        rotate_left
        · simp only [Act.put, sA_, sB_, sC_, zL, zM]
          rfl
        refine pure_ (i := 20) (N := some 59) (v := undef) (a' := ?_) (tf_ 21 41) rfl rfl (zN HT_.out (by kernel_rfl)) (fun _ _ _ h => h) (Or.inr ⟨by rfl, rfl⟩) ?_ ?_
        rotate_left
        · simp only [Act.put, sA_, sB_, sC_, zL, zM]
          rfl
        refine pure_ (i := 21) (N := some 60) (v := undef) (a' := ?_) (tf_ 22 41) rfl rfl (zN HT_.out (by kernel_rfl)) (fun _ _ _ h => h) (Or.inr ⟨by rfl, rfl⟩) ?_ ?_
        rotate_left
        · simp only [Act.put, sA_, sB_, sC_, zL, zM]
          rfl
        refine pure_ (i := 22) (N := some 61) (v := undef) (a' := ?_) (tf_ 23 41) rfl rfl (zN HT_.out (by kernel_rfl)) (fun _ _ _ h => h) (Or.inr ⟨by rfl, rfl⟩) ?_ ?_
        rotate_left
        · simp only [Act.put, sA_, sB_, sC_, zL, zM]
          rfl
        refine pure_ (i := 23) (N := some 62) (v := undef) (a' := ?_) (tf_ 24 41) rfl rfl (zN HT_.out (by kernel_rfl)) (fun _ _ _ h => h) (Or.inr ⟨by rfl, rfl⟩) ?_ ?_
        rotate_left
        · simp only [Act.put, sA_, sB_, sC_, zL, zM]
          rfl
        refine pure_ (i := 24) (N := some 63) (v := undef) (a' := ?_) (tf_ 25 41) rfl rfl (zN HT_.out (by kernel_rfl)) (fun _ _ _ h => h) (Or.inr ⟨by rfl, rfl⟩) ?_ ?_
        rotate_left
        · simp only [Act.put, sA_, sB_, sC_, zL, zM]
          rfl
        refine pure_ (i := 25) (N := some 64) (v := undef) (a' := ?_) (tf_ 26 41) rfl rfl (zN HT_.out (by kernel_rfl)) (fun _ _ _ h => h) (Or.inr ⟨by rfl, rfl⟩) ?_ ?_
        rotate_left
        · simp only [Act.put, sA_, sB_, sC_, zL, zM]
          rfl
        refine pure_ (i := 26) (N := some 65) (v := undef) (a' := ?_) (tf_ 27 41) rfl rfl (zN HT_.out (by kernel_rfl)) (fun _ _ _ h => h) (Or.inr ⟨by rfl, rfl⟩) ?_ ?_
        rotate_left
        · simp only [Act.put, sA_, sB_, sC_, zL, zM]
          rfl
        refine pure_ (i := 27) (N := some 66) (v := undef) (a' := ?_) (tf_ 28 41) rfl rfl (zN HT_.out (by kernel_rfl)) (fun _ _ _ h => h) (Or.inr ⟨by rfl, rfl⟩) ?_ ?_
        rotate_left
        · simp only [Act.put, sA_, sB_, sC_, zL, zM]
          rfl
        refine pure_ (i := 28) (N := some 67) (v := undef) (a' := ?_) (tf_ 29 41) rfl rfl (zN HT_.out (by kernel_rfl)) (fun _ _ _ h => h) (Or.inr ⟨by rfl, rfl⟩) ?_ ?_
        rotate_left
        · simp only [Act.put, sA_, sB_, sC_, zL, zM]
          rfl
        refine pure_ (i := 29) (N := some 68) (v := undef) (a' := ?_) (tf_ 30 41) rfl rfl (zN HT_.out (by kernel_rfl)) (fun _ _ _ h => h) (Or.inr ⟨by rfl, rfl⟩) ?_ ?_
        rotate_left
        · simp only [Act.put, sA_, sB_, sC_, zL, zM]
          rfl
        refine pure_ (i := 30) (N := some 69) (v := undef) (a' := ?_) (tf_ 31 41) rfl rfl (zN HT_.out (by kernel_rfl)) (fun _ _ _ h => h) (Or.inr ⟨by rfl, rfl⟩) ?_ ?_
        rotate_left
        · simp only [Act.put, sA_, sB_, sC_, zL, zM]
          rfl
        refine pure_ (i := 31) (N := some 70) (v := undef) (a' := ?_) (tf_ 32 41) rfl rfl (zN HT_.out (by kernel_rfl)) (fun _ _ _ h => h) (Or.inr ⟨by rfl, rfl⟩) ?_ ?_
        rotate_left
        · simp only [Act.put, sA_, sB_, sC_, zL, zM]
          rfl
        refine pure_ (i := 32) (N := some 71) (v := undef) (a' := ?_) (tf_ 33 41) rfl rfl (zN HT_.out (by kernel_rfl)) (fun _ _ _ h => h) (Or.inr ⟨by rfl, rfl⟩) ?_ ?_
        rotate_left
        · simp only [Act.put, sA_, sB_, sC_, zL, zM]
          rfl
        refine pure_ (i := 33) (N := some 72) (v := undef) (a' := ?_) (tf_ 34 41) rfl rfl (zN HT_.out (by kernel_rfl)) (fun _ _ _ h => h) (Or.inr ⟨by rfl, rfl⟩) ?_ ?_
        rotate_left
        · simp only [Act.put, sA_, sB_, sC_, zL, zM]
          rfl
        refine pure_ (i := 34) (N := some 73) (v := undef) (a' := ?_) (tf_ 35 41) rfl rfl (zN HT_.out (by kernel_rfl)) (fun _ _ _ h => h) (Or.inr ⟨by rfl, rfl⟩) ?_ ?_
        rotate_left
        · simp only [Act.put, sA_, sB_, sC_, zL, zM]
          rfl
        refine pure_ (i := 35) (N := some 74) (v := undef) (a' := ?_) (tf_ 36 41) rfl rfl (zN HT_.out (by kernel_rfl)) (fun _ _ _ h => h) (Or.inr ⟨by rfl, rfl⟩) ?_ ?_
        rotate_left
        · simp only [Act.put, sA_, sB_, sC_, zL, zM]
          rfl
        refine pure_ (i := 36) (N := some 75) (v := undef) (a' := ?_) (tf_ 37 41) rfl rfl (zN HT_.out (by kernel_rfl)) (fun _ _ _ h => h) (Or.inr ⟨by rfl, rfl⟩) ?_ ?_
        rotate_left
        · simp only [Act.put, sA_, sB_, sC_, zL, zM]
          rfl
        refine pure_ (i := 37) (N := some 76) (v := undef) (a' := ?_) (tf_ 38 41) rfl rfl (zN HT_.out (by kernel_rfl)) (fun _ _ _ h => h) (Or.inr ⟨by rfl, rfl⟩) ?_ ?_
        rotate_left
        · simp only [Act.put, sA_, sB_, sC_, zL, zM]
          rfl
        refine pure_ (i := 38) (N := some 77) (v := undef) (a' := ?_) (tf_ 39 41) rfl rfl (zN HT_.out (by kernel_rfl)) (fun _ _ _ h => h) (Or.inr ⟨by rfl, rfl⟩) ?_ ?_
        rotate_left
        · simp only [Act.put, sA_, sB_, sC_, zL, zM]
          rfl
        refine pure_ (i := 39) (N := some 78) (v := ?_) (a' := ?_) (tf_ 40 41) rfl rfl (zN HT_.out (by kernel_rfl)) (fun _ _ _ h => h) (Or.inl ⟨by rfl, ?_⟩) ?_ ?_
        rotate_left
        · intro w'
          go_simp
          with_reducible rfl
        rotate_left
        · simp only [Act.put, sA_, sB_, sC_, zL, zM]
          rfl
        refine pure_ (i := 40) (N := some 79) (v := ?_) (a' := ?_) #[true, true, true, true, true, true, true, true, true, true, true, true, true, true, true, true, true, true, true, true, true, true, true, true, true, true, true, true, true, true, true, true, true, true, true, true, true, true, true, true, true] rfl rfl (zN HT_.out (by kernel_rfl)) (fun _ _ _ h => h) (Or.inl ⟨by rfl, ?_⟩) ?_ ?_
        rotate_left
        · intro w'
          go_simp
          with_reducible rfl
        rotate_left
        · simp only [Act.put, sA_, sB_, sC_, zL, zM]
          rfl
        refine done_ (done_of HT_.out (by kernel_rfl)) ?_
        try go_wp2
        go_meet
        case rel => exact ⟨_, (false), (by first | rfl | (simp; done) | (simp [*]; done)), H', ⟨by have := HK1.out; first | omega | exact Nat.le_refl _⟩, ⟨by (with_reducible repeat (first | apply Kd.R_alloc | apply Kd.R_drewN | apply Kd.R_drew)); exact HO_7.out⟩, ⟨by (with_reducible repeat (first | apply Kd.R_alloc | apply Kd.R_drewN | apply Kd.R_drew)); exact HO_11.out⟩, ⟨by (with_reducible repeat (first | apply Kd.R_alloc | apply Kd.R_drewN | apply Kd.R_drew)); exact HO_32.out⟩, ⟨by (with_reducible repeat (first | apply Kd.R_alloc | apply Kd.R_drewN | apply Kd.R_drew)); exact HO_660000.out⟩, ⟨by (with_reducible repeat (first | apply Kd.R_alloc | apply Kd.R_drewN | apply Kd.R_drew)); exact HO_660001.out⟩, ⟨by (with_reducible repeat (first | refine zB ?_ _ | refine zD ?_ | refine zA ?_ _)); exact BK645.out⟩, ⟨by (with_reducible repeat (first | refine zB ?_ _ | refine zD ?_ | refine zA ?_ _)); exact BK659.out⟩, ⟨by (with_reducible repeat (first | refine zB ?_ _ | refine zD ?_ | refine zA ?_ _)); exact BK660.out⟩, ⟨by (with_reducible repeat (first | refine zB ?_ _ | refine zD ?_ | refine zA ?_ _)); exact BK674.out⟩, ⟨by repeat (first | (with_reducible first | exact HB.out | apply zJ | apply zG | apply zI | refine zE ?_ GE645.out | refine zE ?_ GE659.out | refine zE ?_ GE660.out | refine zE ?_ GE674.out) | exact HB.out)⟩⟩
      rw [if_pos c53] at H; have c53b0 : decide (0 < (t661.length : Int)) = true := decide_eq_true c53
      have c53b1 : decide (0 < t661.length) = true := decide_eq_true (by omega)
      clear c53; by_cases c54 : ((rd_T53 t665 x34_1).f1) = x9_1
      · rw [if_pos c54] at H
        have c54b0 : (((rd_T53 t665 x34_1).f1) == x9_1) = true := beq_iff_eq.mpr c54
        have c54b1 : (((rd_T53 t665 x34_1).f1) != x9_1) = false := bne_eq_false_iff_eq.mpr c54
        clear c54; have H' := zC.mk H
        clear H; try go_wp2
        have n0_ := zC.mk (Kd.R_drew HO_7.out); have n1_ := zC.mk (Kd.R_drew HO_11.out); have n2_ := zC.mk (Kd.R_drew HO_32.out); have n3_ := zC.mk (Kd.R_drew HO_660000.out); have n4_ := zC.mk (Kd.R_drew HO_660001.out); have n5_ := zC.mk (zD BK645.out); have n6_ := zC.mk (zD BK659.out); have n7_ := zC.mk (zD BK660.out); have n8_ := zC.mk (zD BK674.out); have n9_ := zC.mk (zI HB.out); clear HO_7; clear HO_11; clear HO_32; clear HO_660000; clear HO_660001; clear BK645; clear BK659; clear BK660; clear BK674; clear HB; have HO_7 := n0_; have HO_11 := n1_; have HO_32 := n2_; have HO_660000 := n3_; have HO_660001 := n4_; have BK645 := n5_; have BK659 := n6_; have BK660 := n7_; have BK674 := n8_; have HB := n9_; clear n0_ n1_ n2_ n3_ n4_ n5_ n6_ n7_ n8_ n9_; refine start_ (n := 41) (S := fun w' => w'.cell? ⟨gb674, 0, none⟩ = some (.int .i64 ((rd_T53 t665 x34_1).f0)) ∧ w'.cell? ⟨gb674, 1, none⟩ = some (.int .i64 ((rd_T53 t665 x34_1).f1)) ∧ w'.cell? ⟨gb674, 2, none⟩ = some (.int .i64 ((rd_T53 t665 x34_1).f2)) ∧ w'.cell? ⟨gb674, 3, none⟩ = some (.int .u8 ((rd_T53 t665 x34_1).f3))) (ds := []) #[false, false, false, false, false, false, false, false, false, false, false, false, false, false, false, false, false, false, false, false, false, false, false, false, false, false, false, false, false, false, false, false, false, false, false, false, false, false, false, false, false] (by kernel_rfl) rfl rfl ⟨(zF BK674.out 0).trans rfl, (zF BK674.out 1).trans rfl, (zF BK674.out 2).trans rfl, (zF BK674.out 3).trans rfl⟩ (fun hHeld => ?_); refine with_tabW stanzalaw16_LinesRows.tab12 stanzalaw16_LinesRows.bits12 (fun HT_ HW_ => ?_)
        generalize w49.drew = w55 at HO_7 HO_11 HO_32 HO_660000 HO_660001 BK645 BK659 BK660 BK674 HB hHeld ⊢
        refine pure_ (i := 0) (N := some 39) (v := ?_) (a' := ?_) (tf_ 1 41) rfl rfl (zN HT_.out (by kernel_rfl)) (fun _ _ _ h => h) (Or.inl ⟨by rfl, ?_⟩) ?_ ?_
        rotate_left
        · intro w'
          go_simp
          with_reducible rfl
        rotate_left
        · simp only [Act.put, sA_, sB_, sC_, zL, zM]
          rfl
        refine pure_ (i := 2) (N := some 41) (v := ?_) (a' := ?_) #[true, false, true, false, false, false, false, false, false, false, false, false, false, false, false, false, false, false, false, false, false, false, false, false, false, false, false, false, false, false, false, false, false, false, false, false, false, false, false, false, false] rfl rfl (zN HT_.out (by kernel_rfl)) (fun _ _ _ h => h) (Or.inl ⟨by rfl, ?_⟩) ?_ ?_
        rotate_left
        · intro w'
          go_simp
          with_reducible rfl
        rotate_left
        · simp only [Act.put, sA_, sB_, sC_, zL, zM]
          rfl
        refine take_ (i := 1) (N := some 40) (v := ?_) (a' := ?_) (tf_ 3 41) rfl rfl (take_ofW HT_.out HW_.out (by kernel_rfl)) (fun _ _ _ h => h) (Or.inl ⟨by rfl, ?_⟩) hHeld ?_ ?_
        rotate_left
        · rintro w' ⟨s0, s1, s2, s3⟩
          go_simp
          with_reducible rfl
        rotate_left
        · simp only [Act.put, sA_, sB_, sC_, zL, zM]
          rfl
        refine pure_ (i := 3) (N := some 42) (v := ?_) (a' := ?_) (tf_ 4 41) rfl rfl (zN HT_.out (by kernel_rfl)) (fun _ _ _ h => h) (Or.inl ⟨by rfl, ?_⟩) ?_ ?_
        rotate_left
        · intro w'
          go_simp
          with_reducible rfl
        rotate_left
        · simp only [Act.put, sA_, sB_, sC_, zL, zM]
          rfl
        refine pure_ (i := 4) (N := some 43) (v := ?_) (a' := ?_) (tf_ 5 41) rfl rfl (zN HT_.out (by kernel_rfl)) (fun _ _ _ h => h) (Or.inl ⟨by rfl, ?_⟩) ?_ ?_
        rotate_left
        · intro w'
          go_simp
          with_reducible rfl
        rotate_left
        · simp only [Act.put, sA_, sB_, sC_, zL, zM]
          rfl
        refine pure_ (i := 5) (N := some 44) (v := ?_) (a' := ?_) (tf_ 6 41) rfl rfl (zN HT_.out (by kernel_rfl)) (fun _ _ _ h => h) (Or.inl ⟨by rfl, ?_⟩) ?_ ?_
        rotate_left
        · intro w'
          go_simp
          with_reducible rfl
        rotate_left
        · simp only [Act.put, sA_, sB_, sC_, zL, zM]
          rfl
        refine pure_ (i := 7) (N := some 46) (v := ?_) (a' := ?_) #[true, true, true, true, true, true, false, true, false, false, false, false, false, false, false, false, false, false, false, false, false, false, false, false, false, false, false, false, false, false, false, false, false, false, false, false, false, false, false, false, false] rfl rfl (zN HT_.out (by kernel_rfl)) (fun _ _ _ h => h) (Or.inl ⟨by rfl, ?_⟩) ?_ ?_
        rotate_left
        · intro w'
          go_simp
          with_reducible rfl
        rotate_left
        · simp only [Act.put, sA_, sB_, sC_, zL, zM]
          rfl
        refine take_ (i := 6) (N := some 45) (v := ?_) (a' := ?_) (tf_ 8 41) rfl rfl (take_ofW HT_.out HW_.out (by kernel_rfl)) (fun _ _ _ h => h) (Or.inl ⟨by rfl, ?_⟩) hHeld ?_ ?_
        rotate_left
        · rintro w' ⟨s0, s1, s2, s3⟩
          go_simp
          with_reducible rfl
        rotate_left
        · simp only [Act.put, sA_, sB_, sC_, zL, zM]
          rfl
        refine pure_ (i := 8) (N := some 47) (v := ?_) (a' := ?_) (tf_ 9 41) rfl rfl (zN HT_.out (by kernel_rfl)) (fun _ _ _ h => h) (Or.inl ⟨by rfl, ?_⟩) ?_ ?_
        rotate_left
        · intro w'
          go_simp
          with_reducible rfl
        rotate_left
        · simp only [Act.put, sA_, sB_, sC_, zL, zM]
          rfl
        refine pure_ (i := 9) (N := some 48) (v := ?_) (a' := ?_) (tf_ 10 41) rfl rfl (zN HT_.out (by kernel_rfl)) (fun _ _ _ h => h) (Or.inl ⟨by rfl, ?_⟩) ?_ ?_
        rotate_left
        · intro w'
          go_simp
          with_reducible rfl
        rotate_left
        · simp only [Act.put, sA_, sB_, sC_, zL, zM]
          rfl
        refine pure_ (i := 10) (N := some 49) (v := ?_) (a' := ?_) (tf_ 11 41) rfl rfl (zN HT_.out (by kernel_rfl)) (fun _ _ _ h => h) (Or.inl ⟨by rfl, ?_⟩) ?_ ?_
        rotate_left
        · intro w'
          go_simp
          with_reducible rfl
        rotate_left
        · simp only [Act.put, sA_, sB_, sC_, zL, zM]
          rfl
        refine pure_ (i := 11) (N := some 50) (v := ?_) (a' := ?_) (tf_ 12 41) rfl rfl (zN HT_.out (by kernel_rfl)) (fun _ _ _ h => h) (Or.inl ⟨by rfl, ?_⟩) ?_ ?_
        rotate_left
        · intro w'
          go_simp
          with_reducible rfl
        rotate_left
        · simp only [Act.put, sA_, sB_, sC_, zL, zM]
          rfl
        refine pure_ (i := 12) (N := some 51) (v := ?_) (a' := ?_) (tf_ 13 41) rfl rfl (zN HT_.out (by kernel_rfl)) (fun _ _ _ h => h) (Or.inl ⟨by rfl, ?_⟩) ?_ ?_
        rotate_left
        · intro w'
          go_simp
          with_reducible rfl
        rotate_left
        · simp only [Act.put, sA_, sB_, sC_, zL, zM]
          rfl
        refine pure_ (i := 13) (N := some 52) (v := ?_) (a' := ?_) (tf_ 14 41) rfl rfl (zN HT_.out (by kernel_rfl)) (fun _ _ _ h => h) (Or.inl ⟨by rfl, ?_⟩) ?_ ?_
        rotate_left
        · intro w'
          go_simp
          with_reducible rfl
        rotate_left
        · simp only [Act.put, sA_, sB_, sC_, zL, zM]
          rfl
        refine pure_ (i := 14) (N := some 53) (v := ?_) (a' := ?_) (tf_ 15 41) rfl rfl (zN HT_.out (by kernel_rfl)) (fun _ _ _ h => h) (Or.inl ⟨by rfl, ?_⟩) ?_ ?_
        rotate_left
        · intro w'
          go_simp
          with_reducible rfl
        rotate_left
        · simp only [Act.put, sA_, sB_, sC_, zL, zM]
          rfl
        refine pure_ (i := 15) (N := some 54) (v := ?_) (a' := ?_) (tf_ 16 41) rfl rfl (zN HT_.out (by kernel_rfl)) (fun _ _ _ h => h) (Or.inl ⟨by rfl, ?_⟩) ?_ ?_
        rotate_left
        · intro w'
          go_simp
          with_reducible rfl
        rotate_left
        · simp only [Act.put, sA_, sB_, sC_, zL, zM]
          rfl
        refine pure_ (i := 17) (N := some 56) (v := ?_) (a' := ?_) #[true, true, true, true, true, true, true, true, true, true, true, true, true, true, true, true, false, true, false, false, false, false, false, false, false, false, false, false, false, false, false, false, false, false, false, false, false, false, false, false, false] rfl rfl (zN HT_.out (by kernel_rfl)) (fun _ _ _ h => h) (Or.inl ⟨by rfl, ?_⟩) ?_ ?_
        rotate_left
        · intro w'
          go_simp
          with_reducible rfl
        rotate_left
        · simp only [Act.put, sA_, sB_, sC_, zL, zM]
          rfl
        refine take_ (i := 16) (N := some 55) (v := ?_) (a' := ?_) (tf_ 18 41) rfl rfl (take_ofW HT_.out HW_.out (by kernel_rfl)) (fun _ _ _ h => h) (Or.inl ⟨by rfl, ?_⟩) hHeld ?_ ?_
        rotate_left
        · rintro w' ⟨s0, s1, s2, s3⟩
          go_simp
          with_reducible rfl
        rotate_left
        · simp only [Act.put, sA_, sB_, sC_, zL, zM]
          rfl
        refine pure_ (i := 18) (N := some 57) (v := ?_) (a' := ?_) (tf_ 19 41) rfl rfl (zN HT_.out (by kernel_rfl)) (fun _ _ _ h => h) (Or.inl ⟨by rfl, ?_⟩) ?_ ?_
        rotate_left
        · intro w'
          go_simp
          with_reducible rfl
        rotate_left
        · simp only [Act.put, sA_, sB_, sC_, zL, zM]
          rfl
        refine pure_ (i := 19) (N := some 58) (v := ?_) (a' := ?_) (tf_ 20 41) rfl rfl (zN HT_.out (by kernel_rfl)) (fun _ _ _ h => h) (Or.inl ⟨by rfl, ?_⟩) ?_ ?_
        rotate_left
        · intro w'
          go_simp
          with_reducible rfl
        rotate_left
        · simp only [Act.put, sA_, sB_, sC_, zL, zM]
          rfl
        refine pure_ (i := 20) (N := some 59) (v := undef) (a' := ?_) (tf_ 21 41) rfl rfl (zN HT_.out (by kernel_rfl)) (fun _ _ _ h => h) (Or.inr ⟨by rfl, rfl⟩) ?_ ?_
        rotate_left
        · simp only [Act.put, sA_, sB_, sC_, zL, zM]
          rfl
        refine pure_ (i := 21) (N := some 60) (v := undef) (a' := ?_) (tf_ 22 41) rfl rfl (zN HT_.out (by kernel_rfl)) (fun _ _ _ h => h) (Or.inr ⟨by rfl, rfl⟩) ?_ ?_
        rotate_left
        · simp only [Act.put, sA_, sB_, sC_, zL, zM]
          rfl
        refine pure_ (i := 22) (N := some 61) (v := undef) (a' := ?_) (tf_ 23 41) rfl rfl (zN HT_.out (by kernel_rfl)) (fun _ _ _ h => h) (Or.inr ⟨by rfl, rfl⟩) ?_ ?_
        rotate_left
        · simp only [Act.put, sA_, sB_, sC_, zL, zM]
          rfl
        refine pure_ (i := 23) (N := some 62) (v := undef) (a' := ?_) (tf_ 24 41) rfl rfl (zN HT_.out (by kernel_rfl)) (fun _ _ _ h => h) (Or.inr ⟨by rfl, rfl⟩) ?_ ?_
        rotate_left
        · simp only [Act.put, sA_, sB_, sC_, zL, zM]
          rfl
        refine pure_ (i := 24) (N := some 63) (v := undef) (a' := ?_) (tf_ 25 41) rfl rfl (zN HT_.out (by kernel_rfl)) (fun _ _ _ h => h) (Or.inr ⟨by rfl, rfl⟩) ?_ ?_
        rotate_left
        · simp only [Act.put, sA_, sB_, sC_, zL, zM]
          rfl
        refine pure_ (i := 25) (N := some 64) (v := undef) (a' := ?_) (tf_ 26 41) rfl rfl (zN HT_.out (by kernel_rfl)) (fun _ _ _ h => h) (Or.inr ⟨by rfl, rfl⟩) ?_ ?_
        rotate_left
        · simp only [Act.put, sA_, sB_, sC_, zL, zM]
          rfl
        refine pure_ (i := 26) (N := some 65) (v := undef) (a' := ?_) (tf_ 27 41) rfl rfl (zN HT_.out (by kernel_rfl)) (fun _ _ _ h => h) (Or.inr ⟨by rfl, rfl⟩) ?_ ?_
        rotate_left
        · simp only [Act.put, sA_, sB_, sC_, zL, zM]
          rfl
        refine pure_ (i := 27) (N := some 66) (v := undef) (a' := ?_) (tf_ 28 41) rfl rfl (zN HT_.out (by kernel_rfl)) (fun _ _ _ h => h) (Or.inr ⟨by rfl, rfl⟩) ?_ ?_
        rotate_left
        · simp only [Act.put, sA_, sB_, sC_, zL, zM]
          rfl
        refine pure_ (i := 28) (N := some 67) (v := ?_) (a' := ?_) (tf_ 29 41) rfl rfl (zN HT_.out (by kernel_rfl)) (fun _ _ _ h => h) (Or.inl ⟨by rfl, ?_⟩) ?_ ?_
        rotate_left
        · intro w'
          go_simp
          with_reducible rfl
        rotate_left
        · simp only [Act.put, sA_, sB_, sC_, zL, zM]
          rfl
        refine pure_ (i := 29) (N := some 68) (v := ?_) (a' := ?_) (tf_ 30 41) rfl rfl (zN HT_.out (by kernel_rfl)) (fun _ _ _ h => h) (Or.inl ⟨by rfl, ?_⟩) ?_ ?_
        rotate_left
        · intro w'
          go_simp
          with_reducible rfl
        rotate_left
        · simp only [Act.put, sA_, sB_, sC_, zL, zM]
          rfl
        refine pure_ (i := 30) (N := some 69) (v := undef) (a' := ?_) (tf_ 31 41) rfl rfl (zN HT_.out (by kernel_rfl)) (fun _ _ _ h => h) (Or.inr ⟨by rfl, rfl⟩) ?_ ?_
        rotate_left
        · simp only [Act.put, sA_, sB_, sC_, zL, zM]
          rfl
        refine pure_ (i := 31) (N := some 70) (v := undef) (a' := ?_) (tf_ 32 41) rfl rfl (zN HT_.out (by kernel_rfl)) (fun _ _ _ h => h) (Or.inr ⟨by rfl, rfl⟩) ?_ ?_
        rotate_left
        · simp only [Act.put, sA_, sB_, sC_, zL, zM]
          rfl
        refine pure_ (i := 32) (N := some 71) (v := undef) (a' := ?_) (tf_ 33 41) rfl rfl (zN HT_.out (by kernel_rfl)) (fun _ _ _ h => h) (Or.inr ⟨by rfl, rfl⟩) ?_ ?_
        rotate_left
        · simp only [Act.put, sA_, sB_, sC_, zL, zM]
          rfl
        refine pure_ (i := 33) (N := some 72) (v := undef) (a' := ?_) (tf_ 34 41) rfl rfl (zN HT_.out (by kernel_rfl)) (fun _ _ _ h => h) (Or.inr ⟨by rfl, rfl⟩) ?_ ?_
        rotate_left
        · simp only [Act.put, sA_, sB_, sC_, zL, zM]
          rfl
        refine pure_ (i := 34) (N := some 73) (v := undef) (a' := ?_) (tf_ 35 41) rfl rfl (zN HT_.out (by kernel_rfl)) (fun _ _ _ h => h) (Or.inr ⟨by rfl, rfl⟩) ?_ ?_
        rotate_left
        · simp only [Act.put, sA_, sB_, sC_, zL, zM]
          rfl
        refine pure_ (i := 35) (N := some 74) (v := undef) (a' := ?_) (tf_ 36 41) rfl rfl (zN HT_.out (by kernel_rfl)) (fun _ _ _ h => h) (Or.inr ⟨by rfl, rfl⟩) ?_ ?_
        rotate_left
        · simp only [Act.put, sA_, sB_, sC_, zL, zM]
          rfl
        refine pure_ (i := 36) (N := some 75) (v := undef) (a' := ?_) (tf_ 37 41) rfl rfl (zN HT_.out (by kernel_rfl)) (fun _ _ _ h => h) (Or.inr ⟨by rfl, rfl⟩) ?_ ?_
        rotate_left
        · simp only [Act.put, sA_, sB_, sC_, zL, zM]
          rfl
        refine pure_ (i := 37) (N := some 76) (v := undef) (a' := ?_) (tf_ 38 41) rfl rfl (zN HT_.out (by kernel_rfl)) (fun _ _ _ h => h) (Or.inr ⟨by rfl, rfl⟩) ?_ ?_
        rotate_left
        · simp only [Act.put, sA_, sB_, sC_, zL, zM]
          rfl
        refine pure_ (i := 38) (N := some 77) (v := ?_) (a' := ?_) (tf_ 39 41) rfl rfl (zN HT_.out (by kernel_rfl)) (fun _ _ _ h => h) (Or.inl ⟨by rfl, ?_⟩) ?_ ?_
        rotate_left
        · intro w'
          go_simp
          with_reducible rfl
        rotate_left
        · simp only [Act.put, sA_, sB_, sC_, zL, zM]
          rfl
        refine pure_ (i := 39) (N := some 78) (v := ?_) (a' := ?_) (tf_ 40 41) rfl rfl (zN HT_.out (by kernel_rfl)) (fun _ _ _ h => h) (Or.inl ⟨by rfl, ?_⟩) ?_ ?_
        rotate_left
        · intro w'
          go_simp
          with_reducible rfl
        rotate_left
        · simp only [Act.put, sA_, sB_, sC_, zL, zM]
          rfl
        refine pure_ (i := 40) (N := some 79) (v := ?_) (a' := ?_) #[true, true, true, true, true, true, true, true, true, true, true, true, true, true, true, true, true, true, true, true, true, true, true, true, true, true, true, true, true, true, true, true, true, true, true, true, true, true, true, true, true] rfl rfl (zN HT_.out (by kernel_rfl)) (fun _ _ _ h => h) (Or.inl ⟨by rfl, ?_⟩) ?_ ?_
        rotate_left
        · intro w'
          go_simp
          with_reducible rfl
        rotate_left
        · simp only [Act.put, sA_, sB_, sC_, zL, zM]
          rfl
        refine done_ (done_of HT_.out (by kernel_rfl)) ?_
        try go_wp2
        go_meet
        case rel => exact ⟨_, (true), (by first | rfl | (simp; done) | (simp [*]; done)), H', ⟨by have := HK1.out; first | omega | exact Nat.le_refl _⟩, ⟨by (with_reducible repeat (first | apply Kd.R_alloc | apply Kd.R_drewN | apply Kd.R_drew)); exact HO_7.out⟩, ⟨by (with_reducible repeat (first | apply Kd.R_alloc | apply Kd.R_drewN | apply Kd.R_drew)); exact HO_11.out⟩, ⟨by (with_reducible repeat (first | apply Kd.R_alloc | apply Kd.R_drewN | apply Kd.R_drew)); exact HO_32.out⟩, ⟨by (with_reducible repeat (first | apply Kd.R_alloc | apply Kd.R_drewN | apply Kd.R_drew)); exact HO_660000.out⟩, ⟨by (with_reducible repeat (first | apply Kd.R_alloc | apply Kd.R_drewN | apply Kd.R_drew)); exact HO_660001.out⟩, ⟨by (with_reducible repeat (first | refine zB ?_ _ | refine zD ?_ | refine zA ?_ _)); exact BK645.out⟩, ⟨by (with_reducible repeat (first | refine zB ?_ _ | refine zD ?_ | refine zA ?_ _)); exact BK659.out⟩, ⟨by (with_reducible repeat (first | refine zB ?_ _ | refine zD ?_ | refine zA ?_ _)); exact BK660.out⟩, ⟨by (with_reducible repeat (first | refine zB ?_ _ | refine zD ?_ | refine zA ?_ _)); exact BK674.out⟩, ⟨by repeat (first | (with_reducible first | exact HB.out | apply zJ | apply zG | apply zI | refine zE ?_ GE645.out | refine zE ?_ GE659.out | refine zE ?_ GE660.out | refine zE ?_ GE674.out) | exact HB.out)⟩⟩
      rw [if_neg c54] at H; have c54b0 : (((rd_T53 t665 x34_1).f1) == x9_1) = false := beq_eq_false_iff_ne.mpr c54
      have c54b1 : (((rd_T53 t665 x34_1).f1) != x9_1) = true := bne_iff_ne.mpr c54
      by_cases c56 : x34_1 < (t661.length : Int)
      rotate_left
      · rw [if_neg c56] at H
        exact absurd H (by simp)
      rw [if_pos c56] at H; have c56b0 : decide (x34_1 < (t661.length : Int)) = true := decide_eq_true c56
      clear c56; by_cases c57 : ((rd_T53 t665 x34_1).f2) = ((rd_T54 t661 x34_1).f2)
      rotate_left
      · rw [if_neg c57] at H
        have c57b0 : (((rd_T53 t665 x34_1).f2) == ((rd_T54 t661 x34_1).f2)) = false := beq_eq_false_iff_ne.mpr c57
        have c57b1 : (((rd_T53 t665 x34_1).f2) != ((rd_T54 t661 x34_1).f2)) = true := bne_iff_ne.mpr c57
        have H' := zC.mk H
        clear H; try go_wp2
        have n0_ := zC.mk (Kd.R_drew HO_7.out); have n1_ := zC.mk (Kd.R_drew HO_11.out); have n2_ := zC.mk (Kd.R_drew HO_32.out); have n3_ := zC.mk (Kd.R_drew HO_660000.out); have n4_ := zC.mk (Kd.R_drew HO_660001.out); have n5_ := zC.mk (zD BK645.out); have n6_ := zC.mk (zD BK659.out); have n7_ := zC.mk (zD BK660.out); have n8_ := zC.mk (zD BK674.out); have n9_ := zC.mk (zI HB.out); clear HO_7; clear HO_11; clear HO_32; clear HO_660000; clear HO_660001; clear BK645; clear BK659; clear BK660; clear BK674; clear HB; have HO_7 := n0_; have HO_11 := n1_; have HO_32 := n2_; have HO_660000 := n3_; have HO_660001 := n4_; have BK645 := n5_; have BK659 := n6_; have BK660 := n7_; have BK674 := n8_; have HB := n9_; clear n0_ n1_ n2_ n3_ n4_ n5_ n6_ n7_ n8_ n9_; have p675 : 0 ≤ (x34_1 : Int) := of_decide_eq_true (by first | (with_reducible assumption) | assumption)
        have q675 : x34_1 < (t661.length : Int) := of_decide_eq_true (by first | (with_reducible assumption) | assumption)
        obtain ⟨ad675, e675, hx675_0, hx675_1, hx675_2, hx675_3⟩ := at_T54 (Kd.R_reads' HO_7.out).2.2 x34_1 p675 q675; cases e675
        replace p675 := eq_true p675; replace q675 := eq_true q675; refine start_ (n := 41) (S := fun w' => w'.cell? ⟨gb674, 0, none⟩ = some (.int .i64 ((rd_T53 t665 x34_1).f0)) ∧ w'.cell? ⟨gb674, 1, none⟩ = some (.int .i64 ((rd_T53 t665 x34_1).f1)) ∧ w'.cell? ⟨gb674, 2, none⟩ = some (.int .i64 ((rd_T53 t665 x34_1).f2)) ∧ w'.cell? ⟨gb674, 3, none⟩ = some (.int .u8 ((rd_T53 t665 x34_1).f3)) ∧ w'.cell? (ad675.add ((x34_1).toNat * 4)) = some (.int .i64 ((rd_T54 t661 x34_1).f0)) ∧ w'.cell? ⟨(ad675.add ((x34_1).toNat * 4)).block, (ad675.add ((x34_1).toNat * 4)).off + 1, none⟩ = some (.int .i64 ((rd_T54 t661 x34_1).f1)) ∧ w'.cell? ⟨(ad675.add ((x34_1).toNat * 4)).block, (ad675.add ((x34_1).toNat * 4)).off + 2, none⟩ = some (.int .i64 ((rd_T54 t661 x34_1).f2)) ∧ w'.cell? ⟨(ad675.add ((x34_1).toNat * 4)).block, (ad675.add ((x34_1).toNat * 4)).off + 3, none⟩ = some (.int .u8 ((rd_T54 t661 x34_1).f3))) (ds := []) #[false, false, false, false, false, false, false, false, false, false, false, false, false, false, false, false, false, false, false, false, false, false, false, false, false, false, false, false, false, false, false, false, false, false, false, false, false, false, false, false, false] (by kernel_rfl) rfl rfl ⟨(zF BK674.out 0).trans rfl, (zF BK674.out 1).trans rfl, (zF BK674.out 2).trans rfl, (zF BK674.out 3).trans rfl, hx675_0, hx675_1, hx675_2, hx675_3⟩ (fun hHeld => ?_); refine with_tabW stanzalaw16_LinesRows.tab12 stanzalaw16_LinesRows.bits12 (fun HT_ HW_ => ?_)
        generalize w49.drew = w59 at HO_7 HO_11 HO_32 HO_660000 HO_660001 BK645 BK659 BK660 BK674 HB hx675_0 hx675_1 hx675_2 hx675_3 hHeld ⊢
        refine pure_ (i := 0) (N := some 39) (v := ?_) (a' := ?_) (tf_ 1 41) rfl rfl (zN HT_.out (by kernel_rfl)) (fun _ _ _ h => h) (Or.inl ⟨by rfl, ?_⟩) ?_ ?_
        rotate_left
        · intro w'
          go_simp
          with_reducible rfl
        rotate_left
        · simp only [Act.put, sA_, sB_, sC_, zL, zM]
          rfl
        refine pure_ (i := 2) (N := some 41) (v := ?_) (a' := ?_) #[true, false, true, false, false, false, false, false, false, false, false, false, false, false, false, false, false, false, false, false, false, false, false, false, false, false, false, false, false, false, false, false, false, false, false, false, false, false, false, false, false] rfl rfl (zN HT_.out (by kernel_rfl)) (fun _ _ _ h => h) (Or.inl ⟨by rfl, ?_⟩) ?_ ?_
        rotate_left
        · intro w'
          go_simp
          with_reducible rfl
        rotate_left
        · simp only [Act.put, sA_, sB_, sC_, zL, zM]
          rfl
        refine take_ (i := 1) (N := some 40) (v := ?_) (a' := ?_) (tf_ 3 41) rfl rfl (take_ofW HT_.out HW_.out (by kernel_rfl)) (fun _ _ _ h => h) (Or.inl ⟨by rfl, ?_⟩) hHeld ?_ ?_
        rotate_left
        · rintro w' ⟨s0, s1, s2, s3, s4, s5, s6, s7⟩
          go_simp
          with_reducible rfl
        rotate_left
        · simp only [Act.put, sA_, sB_, sC_, zL, zM]
          rfl
        refine pure_ (i := 3) (N := some 42) (v := ?_) (a' := ?_) (tf_ 4 41) rfl rfl (zN HT_.out (by kernel_rfl)) (fun _ _ _ h => h) (Or.inl ⟨by rfl, ?_⟩) ?_ ?_
        rotate_left
        · intro w'
          go_simp
          with_reducible rfl
        rotate_left
        · simp only [Act.put, sA_, sB_, sC_, zL, zM]
          rfl
        refine pure_ (i := 4) (N := some 43) (v := ?_) (a' := ?_) (tf_ 5 41) rfl rfl (zN HT_.out (by kernel_rfl)) (fun _ _ _ h => h) (Or.inl ⟨by rfl, ?_⟩) ?_ ?_
        rotate_left
        · intro w'
          go_simp
          with_reducible rfl
        rotate_left
        · simp only [Act.put, sA_, sB_, sC_, zL, zM]
          rfl
        refine pure_ (i := 5) (N := some 44) (v := ?_) (a' := ?_) (tf_ 6 41) rfl rfl (zN HT_.out (by kernel_rfl)) (fun _ _ _ h => h) (Or.inl ⟨by rfl, ?_⟩) ?_ ?_
        rotate_left
        · intro w'
          go_simp
          with_reducible rfl
        rotate_left
        · simp only [Act.put, sA_, sB_, sC_, zL, zM]
          rfl
        refine pure_ (i := 7) (N := some 46) (v := ?_) (a' := ?_) #[true, true, true, true, true, true, false, true, false, false, false, false, false, false, false, false, false, false, false, false, false, false, false, false, false, false, false, false, false, false, false, false, false, false, false, false, false, false, false, false, false] rfl rfl (zN HT_.out (by kernel_rfl)) (fun _ _ _ h => h) (Or.inl ⟨by rfl, ?_⟩) ?_ ?_
        rotate_left
        · intro w'
          go_simp
          with_reducible rfl
        rotate_left
        · simp only [Act.put, sA_, sB_, sC_, zL, zM]
          rfl
        refine take_ (i := 6) (N := some 45) (v := ?_) (a' := ?_) (tf_ 8 41) rfl rfl (take_ofW HT_.out HW_.out (by kernel_rfl)) (fun _ _ _ h => h) (Or.inl ⟨by rfl, ?_⟩) hHeld ?_ ?_
        rotate_left
        · rintro w' ⟨s0, s1, s2, s3, s4, s5, s6, s7⟩
          go_simp
          with_reducible rfl
        rotate_left
        · simp only [Act.put, sA_, sB_, sC_, zL, zM]
          rfl
        refine pure_ (i := 8) (N := some 47) (v := ?_) (a' := ?_) (tf_ 9 41) rfl rfl (zN HT_.out (by kernel_rfl)) (fun _ _ _ h => h) (Or.inl ⟨by rfl, ?_⟩) ?_ ?_
        rotate_left
        · intro w'
          go_simp
          with_reducible rfl
        rotate_left
        · simp only [Act.put, sA_, sB_, sC_, zL, zM]
          rfl
        refine pure_ (i := 9) (N := some 48) (v := ?_) (a' := ?_) (tf_ 10 41) rfl rfl (zN HT_.out (by kernel_rfl)) (fun _ _ _ h => h) (Or.inl ⟨by rfl, ?_⟩) ?_ ?_
        rotate_left
        · intro w'
          go_simp
          with_reducible rfl
        rotate_left
        · simp only [Act.put, sA_, sB_, sC_, zL, zM]
          rfl
        refine pure_ (i := 10) (N := some 49) (v := ?_) (a' := ?_) (tf_ 11 41) rfl rfl (zN HT_.out (by kernel_rfl)) (fun _ _ _ h => h) (Or.inl ⟨by rfl, ?_⟩) ?_ ?_
        rotate_left
        · intro w'
          go_simp
          with_reducible rfl
        rotate_left
        · simp only [Act.put, sA_, sB_, sC_, zL, zM]
          rfl
        refine pure_ (i := 11) (N := some 50) (v := ?_) (a' := ?_) (tf_ 12 41) rfl rfl (zN HT_.out (by kernel_rfl)) (fun _ _ _ h => h) (Or.inl ⟨by rfl, ?_⟩) ?_ ?_
        rotate_left
        · intro w'
          go_simp
          with_reducible rfl
        rotate_left
        · simp only [Act.put, sA_, sB_, sC_, zL, zM]
          rfl
        refine pure_ (i := 12) (N := some 51) (v := ?_) (a' := ?_) (tf_ 13 41) rfl rfl (zN HT_.out (by kernel_rfl)) (fun _ _ _ h => h) (Or.inl ⟨by rfl, ?_⟩) ?_ ?_
        rotate_left
        · intro w'
          go_simp
          with_reducible rfl
        rotate_left
        · simp only [Act.put, sA_, sB_, sC_, zL, zM]
          rfl
        refine pure_ (i := 13) (N := some 52) (v := ?_) (a' := ?_) (tf_ 14 41) rfl rfl (zN HT_.out (by kernel_rfl)) (fun _ _ _ h => h) (Or.inl ⟨by rfl, ?_⟩) ?_ ?_
        rotate_left
        · intro w'
          go_simp
          with_reducible rfl
        rotate_left
        · simp only [Act.put, sA_, sB_, sC_, zL, zM]
          rfl
        refine pure_ (i := 14) (N := some 53) (v := ?_) (a' := ?_) (tf_ 15 41) rfl rfl (zN HT_.out (by kernel_rfl)) (fun _ _ _ h => h) (Or.inl ⟨by rfl, ?_⟩) ?_ ?_
        rotate_left
        · intro w'
          go_simp
          with_reducible rfl
        rotate_left
        · simp only [Act.put, sA_, sB_, sC_, zL, zM]
          rfl
        refine pure_ (i := 15) (N := some 54) (v := ?_) (a' := ?_) (tf_ 16 41) rfl rfl (zN HT_.out (by kernel_rfl)) (fun _ _ _ h => h) (Or.inl ⟨by rfl, ?_⟩) ?_ ?_
        rotate_left
        · intro w'
          go_simp
          with_reducible rfl
        rotate_left
        · simp only [Act.put, sA_, sB_, sC_, zL, zM]
          rfl
        refine pure_ (i := 17) (N := some 56) (v := ?_) (a' := ?_) #[true, true, true, true, true, true, true, true, true, true, true, true, true, true, true, true, false, true, false, false, false, false, false, false, false, false, false, false, false, false, false, false, false, false, false, false, false, false, false, false, false] rfl rfl (zN HT_.out (by kernel_rfl)) (fun _ _ _ h => h) (Or.inl ⟨by rfl, ?_⟩) ?_ ?_
        rotate_left
        · intro w'
          go_simp
          with_reducible rfl
        rotate_left
        · simp only [Act.put, sA_, sB_, sC_, zL, zM]
          rfl
        refine take_ (i := 16) (N := some 55) (v := ?_) (a' := ?_) (tf_ 18 41) rfl rfl (take_ofW HT_.out HW_.out (by kernel_rfl)) (fun _ _ _ h => h) (Or.inl ⟨by rfl, ?_⟩) hHeld ?_ ?_
        rotate_left
        · rintro w' ⟨s0, s1, s2, s3, s4, s5, s6, s7⟩
          go_simp
          with_reducible rfl
        rotate_left
        · simp only [Act.put, sA_, sB_, sC_, zL, zM]
          rfl
        refine pure_ (i := 18) (N := some 57) (v := ?_) (a' := ?_) (tf_ 19 41) rfl rfl (zN HT_.out (by kernel_rfl)) (fun _ _ _ h => h) (Or.inl ⟨by rfl, ?_⟩) ?_ ?_
        rotate_left
        · intro w'
          go_simp
          with_reducible rfl
        rotate_left
        · simp only [Act.put, sA_, sB_, sC_, zL, zM]
          rfl
        refine pure_ (i := 19) (N := some 58) (v := ?_) (a' := ?_) (tf_ 20 41) rfl rfl (zN HT_.out (by kernel_rfl)) (fun _ _ _ h => h) (Or.inl ⟨by rfl, ?_⟩) ?_ ?_
        rotate_left
        · intro w'
          go_simp
          with_reducible rfl
        rotate_left
        · simp only [Act.put, sA_, sB_, sC_, zL, zM]
          rfl
        refine pure_ (i := 20) (N := some 59) (v := ?_) (a' := ?_) (tf_ 21 41) rfl rfl (zN HT_.out (by kernel_rfl)) (fun _ _ _ h => h) (Or.inl ⟨by rfl, ?_⟩) ?_ ?_
        rotate_left
        · intro w'
          go_simp
          with_reducible rfl
        rotate_left
        · simp only [Act.put, sA_, sB_, sC_, zL, zM]
          rfl
        refine pure_ (i := 22) (N := some 61) (v := ?_) (a' := ?_) #[true, true, true, true, true, true, true, true, true, true, true, true, true, true, true, true, true, true, true, true, true, false, true, false, false, false, false, false, false, false, false, false, false, false, false, false, false, false, false, false, false] rfl rfl (zN HT_.out (by kernel_rfl)) (fun _ _ _ h => h) (Or.inl ⟨by rfl, ?_⟩) ?_ ?_
        rotate_left
        · intro w'
          go_simp
          with_reducible rfl
        rotate_left
        · simp only [Act.put, sA_, sB_, sC_, zL, zM]
          rfl
        refine pure_ (i := 23) (N := some 62) (v := ?_) (a' := ?_) #[true, true, true, true, true, true, true, true, true, true, true, true, true, true, true, true, true, true, true, true, true, false, true, true, false, false, false, false, false, false, false, false, false, false, false, false, false, false, false, false, false] rfl rfl (zN HT_.out (by kernel_rfl)) (fun _ _ _ h => h) (Or.inl ⟨by rfl, ?_⟩) ?_ ?_
        rotate_left
        · intro w'
          go_simp
          with_reducible rfl
        rotate_left
        · simp only [Act.put, sA_, sB_, sC_, zL, zM]
          rfl
        refine pure_ (i := 24) (N := some 63) (v := ?_) (a' := ?_) #[true, true, true, true, true, true, true, true, true, true, true, true, true, true, true, true, true, true, true, true, true, false, true, true, true, false, false, false, false, false, false, false, false, false, false, false, false, false, false, false, false] rfl rfl (zN HT_.out (by kernel_rfl)) (fun _ _ _ h => h) (Or.inl ⟨by rfl, ?_⟩) ?_ ?_
        rotate_left
        · intro w'
          go_simp
          with_reducible rfl
        rotate_left
        · simp only [Act.put, sA_, sB_, sC_, zL, zM]
          rfl
        refine pure_ (i := 25) (N := some 64) (v := ?_) (a' := ?_) #[true, true, true, true, true, true, true, true, true, true, true, true, true, true, true, true, true, true, true, true, true, false, true, true, true, true, false, false, false, false, false, false, false, false, false, false, false, false, false, false, false] rfl rfl (zN HT_.out (by kernel_rfl)) (fun _ _ _ h => h) (Or.inl ⟨by rfl, ?_⟩) ?_ ?_
        rotate_left
        · intro w'
          go_simp
          with_reducible rfl
        rotate_left
        · simp only [Act.put, sA_, sB_, sC_, zL, zM]
          rfl
        refine take_ (i := 21) (N := some 60) (v := ?_) (a' := ?_) (tf_ 26 41) rfl rfl (take_ofW HT_.out HW_.out (by kernel_rfl)) (fun _ _ _ h => h) (Or.inl ⟨by rfl, ?_⟩) hHeld ?_ ?_
        rotate_left
        · rintro w' ⟨s0, s1, s2, s3, s4, s5, s6, s7⟩
          go_simp
          with_reducible rfl
        rotate_left
        · simp only [Act.put, sA_, sB_, sC_, zL, zM]
          rfl
        refine take_ (i := 26) (N := some 65) (v := ?_) (a' := ?_) (tf_ 27 41) rfl rfl (take_ofW HT_.out HW_.out (by kernel_rfl)) (fun _ _ _ h => h) (Or.inl ⟨by rfl, ?_⟩) hHeld ?_ ?_
        rotate_left
        · rintro w' ⟨s0, s1, s2, s3, s4, s5, s6, s7⟩
          go_simp
          with_reducible rfl
        rotate_left
        · simp only [Act.put, sA_, sB_, sC_, zL, zM]
          rfl
        refine pure_ (i := 27) (N := some 66) (v := ?_) (a' := ?_) (tf_ 28 41) rfl rfl (zN HT_.out (by kernel_rfl)) (fun _ _ _ h => h) (Or.inl ⟨by rfl, ?_⟩) ?_ ?_
        rotate_left
        · intro w'
          go_simp
          with_reducible rfl
        rotate_left
        · simp only [Act.put, sA_, sB_, sC_, zL, zM]
          rfl
        refine pure_ (i := 28) (N := some 67) (v := ?_) (a' := ?_) (tf_ 29 41) rfl rfl (zN HT_.out (by kernel_rfl)) (fun _ _ _ h => h) (Or.inl ⟨by rfl, ?_⟩) ?_ ?_
        rotate_left
        · intro w'
          go_simp
          with_reducible rfl
        rotate_left
        · simp only [Act.put, sA_, sB_, sC_, zL, zM]
          rfl
        refine pure_ (i := 29) (N := some 68) (v := ?_) (a' := ?_) (tf_ 30 41) rfl rfl (zN HT_.out (by kernel_rfl)) (fun _ _ _ h => h) (Or.inl ⟨by rfl, ?_⟩) ?_ ?_
        rotate_left
        · intro w'
          go_simp
          with_reducible rfl
        rotate_left
        · simp only [Act.put, sA_, sB_, sC_, zL, zM]
          rfl
        refine pure_ (i := 30) (N := some 69) (v := undef) (a' := ?_) (tf_ 31 41) rfl rfl (zN HT_.out (by kernel_rfl)) (fun _ _ _ h => h) (Or.inr ⟨by rfl, rfl⟩) ?_ ?_
        rotate_left
        · simp only [Act.put, sA_, sB_, sC_, zL, zM]
          rfl
        refine pure_ (i := 31) (N := some 70) (v := undef) (a' := ?_) (tf_ 32 41) rfl rfl (zN HT_.out (by kernel_rfl)) (fun _ _ _ h => h) (Or.inr ⟨by rfl, rfl⟩) ?_ ?_
        rotate_left
        · simp only [Act.put, sA_, sB_, sC_, zL, zM]
          rfl
        refine pure_ (i := 32) (N := some 71) (v := undef) (a' := ?_) (tf_ 33 41) rfl rfl (zN HT_.out (by kernel_rfl)) (fun _ _ _ h => h) (Or.inr ⟨by rfl, rfl⟩) ?_ ?_
        rotate_left
        · simp only [Act.put, sA_, sB_, sC_, zL, zM]
          rfl
        refine pure_ (i := 33) (N := some 72) (v := undef) (a' := ?_) (tf_ 34 41) rfl rfl (zN HT_.out (by kernel_rfl)) (fun _ _ _ h => h) (Or.inr ⟨by rfl, rfl⟩) ?_ ?_
        rotate_left
        · simp only [Act.put, sA_, sB_, sC_, zL, zM]
          rfl
        refine pure_ (i := 34) (N := some 73) (v := undef) (a' := ?_) (tf_ 35 41) rfl rfl (zN HT_.out (by kernel_rfl)) (fun _ _ _ h => h) (Or.inr ⟨by rfl, rfl⟩) ?_ ?_
        rotate_left
        · simp only [Act.put, sA_, sB_, sC_, zL, zM]
          rfl
        refine pure_ (i := 35) (N := some 74) (v := undef) (a' := ?_) (tf_ 36 41) rfl rfl (zN HT_.out (by kernel_rfl)) (fun _ _ _ h => h) (Or.inr ⟨by rfl, rfl⟩) ?_ ?_
        rotate_left
        · simp only [Act.put, sA_, sB_, sC_, zL, zM]
          rfl
        refine pure_ (i := 36) (N := some 75) (v := undef) (a' := ?_) (tf_ 37 41) rfl rfl (zN HT_.out (by kernel_rfl)) (fun _ _ _ h => h) (Or.inr ⟨by rfl, rfl⟩) ?_ ?_
        rotate_left
        · simp only [Act.put, sA_, sB_, sC_, zL, zM]
          rfl
        refine pure_ (i := 37) (N := some 76) (v := undef) (a' := ?_) (tf_ 38 41) rfl rfl (zN HT_.out (by kernel_rfl)) (fun _ _ _ h => h) (Or.inr ⟨by rfl, rfl⟩) ?_ ?_
        rotate_left
        · simp only [Act.put, sA_, sB_, sC_, zL, zM]
          rfl
        refine pure_ (i := 38) (N := some 77) (v := ?_) (a' := ?_) (tf_ 39 41) rfl rfl (zN HT_.out (by kernel_rfl)) (fun _ _ _ h => h) (Or.inl ⟨by rfl, ?_⟩) ?_ ?_
        rotate_left
        · intro w'
          go_simp
          with_reducible rfl
        rotate_left
        · simp only [Act.put, sA_, sB_, sC_, zL, zM]
          rfl
        refine pure_ (i := 39) (N := some 78) (v := ?_) (a' := ?_) (tf_ 40 41) rfl rfl (zN HT_.out (by kernel_rfl)) (fun _ _ _ h => h) (Or.inl ⟨by rfl, ?_⟩) ?_ ?_
        rotate_left
        · intro w'
          go_simp
          with_reducible rfl
        rotate_left
        · simp only [Act.put, sA_, sB_, sC_, zL, zM]
          rfl
        refine pure_ (i := 40) (N := some 79) (v := ?_) (a' := ?_) #[true, true, true, true, true, true, true, true, true, true, true, true, true, true, true, true, true, true, true, true, true, true, true, true, true, true, true, true, true, true, true, true, true, true, true, true, true, true, true, true, true] rfl rfl (zN HT_.out (by kernel_rfl)) (fun _ _ _ h => h) (Or.inl ⟨by rfl, ?_⟩) ?_ ?_
        rotate_left
        · intro w'
          go_simp
          with_reducible rfl
        rotate_left
        · simp only [Act.put, sA_, sB_, sC_, zL, zM]
          rfl
        refine done_ (done_of HT_.out (by kernel_rfl)) ?_
        try go_wp2
        go_meet
        case rel => exact ⟨_, (true), (by first | rfl | (simp; done) | (simp [*]; done)), H', ⟨by have := HK1.out; first | omega | exact Nat.le_refl _⟩, ⟨by (with_reducible repeat (first | apply Kd.R_alloc | apply Kd.R_drewN | apply Kd.R_drew)); exact HO_7.out⟩, ⟨by (with_reducible repeat (first | apply Kd.R_alloc | apply Kd.R_drewN | apply Kd.R_drew)); exact HO_11.out⟩, ⟨by (with_reducible repeat (first | apply Kd.R_alloc | apply Kd.R_drewN | apply Kd.R_drew)); exact HO_32.out⟩, ⟨by (with_reducible repeat (first | apply Kd.R_alloc | apply Kd.R_drewN | apply Kd.R_drew)); exact HO_660000.out⟩, ⟨by (with_reducible repeat (first | apply Kd.R_alloc | apply Kd.R_drewN | apply Kd.R_drew)); exact HO_660001.out⟩, ⟨by (with_reducible repeat (first | refine zB ?_ _ | refine zD ?_ | refine zA ?_ _)); exact BK645.out⟩, ⟨by (with_reducible repeat (first | refine zB ?_ _ | refine zD ?_ | refine zA ?_ _)); exact BK659.out⟩, ⟨by (with_reducible repeat (first | refine zB ?_ _ | refine zD ?_ | refine zA ?_ _)); exact BK660.out⟩, ⟨by (with_reducible repeat (first | refine zB ?_ _ | refine zD ?_ | refine zA ?_ _)); exact BK674.out⟩, ⟨by repeat (first | (with_reducible first | exact HB.out | apply zJ | apply zG | apply zI | refine zE ?_ GE645.out | refine zE ?_ GE659.out | refine zE ?_ GE660.out | refine zE ?_ GE674.out) | exact HB.out)⟩⟩
      rw [if_pos c57] at H; have c57b0 : (((rd_T53 t665 x34_1).f2) == ((rd_T54 t661 x34_1).f2)) = true := beq_iff_eq.mpr c57
      have c57b1 : (((rd_T53 t665 x34_1).f2) != ((rd_T54 t661 x34_1).f2)) = false := bne_eq_false_iff_eq.mpr c57
      clear c57; have H' := zC.mk H
      clear H; try go_wp2
      have n0_ := zC.mk (Kd.R_drew HO_7.out); have n1_ := zC.mk (Kd.R_drew HO_11.out); have n2_ := zC.mk (Kd.R_drew HO_32.out); have n3_ := zC.mk (Kd.R_drew HO_660000.out); have n4_ := zC.mk (Kd.R_drew HO_660001.out); have n5_ := zC.mk (zD BK645.out); have n6_ := zC.mk (zD BK659.out); have n7_ := zC.mk (zD BK660.out); have n8_ := zC.mk (zD BK674.out); have n9_ := zC.mk (zI HB.out); clear HO_7; clear HO_11; clear HO_32; clear HO_660000; clear HO_660001; clear BK645; clear BK659; clear BK660; clear BK674; clear HB; have HO_7 := n0_; have HO_11 := n1_; have HO_32 := n2_; have HO_660000 := n3_; have HO_660001 := n4_; have BK645 := n5_; have BK659 := n6_; have BK660 := n7_; have BK674 := n8_; have HB := n9_; clear n0_ n1_ n2_ n3_ n4_ n5_ n6_ n7_ n8_ n9_; have p675 : 0 ≤ (x34_1 : Int) := of_decide_eq_true (by first | (with_reducible assumption) | assumption)
      have q675 : x34_1 < (t661.length : Int) := of_decide_eq_true (by first | (with_reducible assumption) | assumption)
      obtain ⟨ad675, e675, hx675_0, hx675_1, hx675_2, hx675_3⟩ := at_T54 (Kd.R_reads' HO_7.out).2.2 x34_1 p675 q675; cases e675
      replace p675 := eq_true p675; replace q675 := eq_true q675; have p676 : 0 ≤ (x34_1 : Int) := of_decide_eq_true (by first | (with_reducible assumption) | assumption)
      have q676 : x34_1 < (t661.length : Int) := of_decide_eq_true (by first | (with_reducible assumption) | assumption)
      obtain ⟨ad676, e676, hx676_0, hx676_1, hx676_2, hx676_3⟩ := at_T54 (Kd.R_reads' HO_7.out).2.2 x34_1 p676 q676; obtain rfl : ad675 = ad676 := (by injection e676)
      replace p676 := eq_true p676; replace q676 := eq_true q676; refine start_ (n := 41) (S := fun w' => w'.cell? ⟨gb674, 0, none⟩ = some (.int .i64 ((rd_T53 t665 x34_1).f0)) ∧ w'.cell? ⟨gb674, 1, none⟩ = some (.int .i64 ((rd_T53 t665 x34_1).f1)) ∧ w'.cell? ⟨gb674, 2, none⟩ = some (.int .i64 ((rd_T53 t665 x34_1).f2)) ∧ w'.cell? ⟨gb674, 3, none⟩ = some (.int .u8 ((rd_T53 t665 x34_1).f3)) ∧ w'.cell? (ad675.add ((x34_1).toNat * 4)) = some (.int .i64 ((rd_T54 t661 x34_1).f0)) ∧ w'.cell? ⟨(ad675.add ((x34_1).toNat * 4)).block, (ad675.add ((x34_1).toNat * 4)).off + 1, none⟩ = some (.int .i64 ((rd_T54 t661 x34_1).f1)) ∧ w'.cell? ⟨(ad675.add ((x34_1).toNat * 4)).block, (ad675.add ((x34_1).toNat * 4)).off + 2, none⟩ = some (.int .i64 ((rd_T54 t661 x34_1).f2)) ∧ w'.cell? ⟨(ad675.add ((x34_1).toNat * 4)).block, (ad675.add ((x34_1).toNat * 4)).off + 3, none⟩ = some (.int .u8 ((rd_T54 t661 x34_1).f3)) ∧ w'.cell? (ad675.add ((x34_1).toNat * 4)) = some (.int .i64 ((rd_T54 t661 x34_1).f0)) ∧ w'.cell? ⟨(ad675.add ((x34_1).toNat * 4)).block, (ad675.add ((x34_1).toNat * 4)).off + 1, none⟩ = some (.int .i64 ((rd_T54 t661 x34_1).f1)) ∧ w'.cell? ⟨(ad675.add ((x34_1).toNat * 4)).block, (ad675.add ((x34_1).toNat * 4)).off + 2, none⟩ = some (.int .i64 ((rd_T54 t661 x34_1).f2)) ∧ w'.cell? ⟨(ad675.add ((x34_1).toNat * 4)).block, (ad675.add ((x34_1).toNat * 4)).off + 3, none⟩ = some (.int .u8 ((rd_T54 t661 x34_1).f3))) (ds := []) #[false, false, false, false, false, false, false, false, false, false, false, false, false, false, false, false, false, false, false, false, false, false, false, false, false, false, false, false, false, false, false, false, false, false, false, false, false, false, false, false, false] (by kernel_rfl) rfl rfl ⟨(zF BK674.out 0).trans rfl, (zF BK674.out 1).trans rfl, (zF BK674.out 2).trans rfl, (zF BK674.out 3).trans rfl, hx675_0, hx675_1, hx675_2, hx675_3, hx676_0, hx676_1, hx676_2, hx676_3⟩ (fun hHeld => ?_); refine with_tabW stanzalaw16_LinesRows.tab12 stanzalaw16_LinesRows.bits12 (fun HT_ HW_ => ?_)
      generalize w49.drew = w58 at HO_7 HO_11 HO_32 HO_660000 HO_660001 BK645 BK659 BK660 BK674 HB hx675_0 hx675_1 hx675_2 hx675_3 hx676_0 hx676_1 hx676_2 hx676_3 hHeld ⊢
      refine pure_ (i := 0) (N := some 39) (v := ?_) (a' := ?_) (tf_ 1 41) rfl rfl (zN HT_.out (by kernel_rfl)) (fun _ _ _ h => h) (Or.inl ⟨by rfl, ?_⟩) ?_ ?_
      rotate_left
      · intro w'
        go_simp
        with_reducible rfl
      rotate_left
      · simp only [Act.put, sA_, sB_, sC_, zL, zM]
        rfl
      refine pure_ (i := 2) (N := some 41) (v := ?_) (a' := ?_) #[true, false, true, false, false, false, false, false, false, false, false, false, false, false, false, false, false, false, false, false, false, false, false, false, false, false, false, false, false, false, false, false, false, false, false, false, false, false, false, false, false] rfl rfl (zN HT_.out (by kernel_rfl)) (fun _ _ _ h => h) (Or.inl ⟨by rfl, ?_⟩) ?_ ?_
      rotate_left
      · intro w'
        go_simp
        with_reducible rfl
      rotate_left
      · simp only [Act.put, sA_, sB_, sC_, zL, zM]
        rfl
      refine take_ (i := 1) (N := some 40) (v := ?_) (a' := ?_) (tf_ 3 41) rfl rfl (take_ofW HT_.out HW_.out (by kernel_rfl)) (fun _ _ _ h => h) (Or.inl ⟨by rfl, ?_⟩) hHeld ?_ ?_
      rotate_left
      · rintro w' ⟨s0, s1, s2, s3, s4, s5, s6, s7, s8, s9, s10, s11⟩
        go_simp
        with_reducible rfl
      rotate_left
      · simp only [Act.put, sA_, sB_, sC_, zL, zM]
        rfl
      refine pure_ (i := 3) (N := some 42) (v := ?_) (a' := ?_) (tf_ 4 41) rfl rfl (zN HT_.out (by kernel_rfl)) (fun _ _ _ h => h) (Or.inl ⟨by rfl, ?_⟩) ?_ ?_
      rotate_left
      · intro w'
        go_simp
        with_reducible rfl
      rotate_left
      · simp only [Act.put, sA_, sB_, sC_, zL, zM]
        rfl
      refine pure_ (i := 4) (N := some 43) (v := ?_) (a' := ?_) (tf_ 5 41) rfl rfl (zN HT_.out (by kernel_rfl)) (fun _ _ _ h => h) (Or.inl ⟨by rfl, ?_⟩) ?_ ?_
      rotate_left
      · intro w'
        go_simp
        with_reducible rfl
      rotate_left
      · simp only [Act.put, sA_, sB_, sC_, zL, zM]
        rfl
      refine pure_ (i := 5) (N := some 44) (v := ?_) (a' := ?_) (tf_ 6 41) rfl rfl (zN HT_.out (by kernel_rfl)) (fun _ _ _ h => h) (Or.inl ⟨by rfl, ?_⟩) ?_ ?_
      rotate_left
      · intro w'
        go_simp
        with_reducible rfl
      rotate_left
      · simp only [Act.put, sA_, sB_, sC_, zL, zM]
        rfl
      refine pure_ (i := 7) (N := some 46) (v := ?_) (a' := ?_) #[true, true, true, true, true, true, false, true, false, false, false, false, false, false, false, false, false, false, false, false, false, false, false, false, false, false, false, false, false, false, false, false, false, false, false, false, false, false, false, false, false] rfl rfl (zN HT_.out (by kernel_rfl)) (fun _ _ _ h => h) (Or.inl ⟨by rfl, ?_⟩) ?_ ?_
      rotate_left
      · intro w'
        go_simp
        with_reducible rfl
      rotate_left
      · simp only [Act.put, sA_, sB_, sC_, zL, zM]
        rfl
      refine take_ (i := 6) (N := some 45) (v := ?_) (a' := ?_) (tf_ 8 41) rfl rfl (take_ofW HT_.out HW_.out (by kernel_rfl)) (fun _ _ _ h => h) (Or.inl ⟨by rfl, ?_⟩) hHeld ?_ ?_
      rotate_left
      · rintro w' ⟨s0, s1, s2, s3, s4, s5, s6, s7, s8, s9, s10, s11⟩
        go_simp
        with_reducible rfl
      rotate_left
      · simp only [Act.put, sA_, sB_, sC_, zL, zM]
        rfl
      refine pure_ (i := 8) (N := some 47) (v := ?_) (a' := ?_) (tf_ 9 41) rfl rfl (zN HT_.out (by kernel_rfl)) (fun _ _ _ h => h) (Or.inl ⟨by rfl, ?_⟩) ?_ ?_
      rotate_left
      · intro w'
        go_simp
        with_reducible rfl
      rotate_left
      · simp only [Act.put, sA_, sB_, sC_, zL, zM]
        rfl
      refine pure_ (i := 9) (N := some 48) (v := ?_) (a' := ?_) (tf_ 10 41) rfl rfl (zN HT_.out (by kernel_rfl)) (fun _ _ _ h => h) (Or.inl ⟨by rfl, ?_⟩) ?_ ?_
      rotate_left
      · intro w'
        go_simp
        with_reducible rfl
      rotate_left
      · simp only [Act.put, sA_, sB_, sC_, zL, zM]
        rfl
      refine pure_ (i := 10) (N := some 49) (v := ?_) (a' := ?_) (tf_ 11 41) rfl rfl (zN HT_.out (by kernel_rfl)) (fun _ _ _ h => h) (Or.inl ⟨by rfl, ?_⟩) ?_ ?_
      rotate_left
      · intro w'
        go_simp
        with_reducible rfl
      rotate_left
      · simp only [Act.put, sA_, sB_, sC_, zL, zM]
        rfl
      refine pure_ (i := 11) (N := some 50) (v := ?_) (a' := ?_) (tf_ 12 41) rfl rfl (zN HT_.out (by kernel_rfl)) (fun _ _ _ h => h) (Or.inl ⟨by rfl, ?_⟩) ?_ ?_
      rotate_left
      · intro w'
        go_simp
        with_reducible rfl
      rotate_left
      · simp only [Act.put, sA_, sB_, sC_, zL, zM]
        rfl
      refine pure_ (i := 12) (N := some 51) (v := ?_) (a' := ?_) (tf_ 13 41) rfl rfl (zN HT_.out (by kernel_rfl)) (fun _ _ _ h => h) (Or.inl ⟨by rfl, ?_⟩) ?_ ?_
      rotate_left
      · intro w'
        go_simp
        with_reducible rfl
      rotate_left
      · simp only [Act.put, sA_, sB_, sC_, zL, zM]
        rfl
      refine pure_ (i := 13) (N := some 52) (v := ?_) (a' := ?_) (tf_ 14 41) rfl rfl (zN HT_.out (by kernel_rfl)) (fun _ _ _ h => h) (Or.inl ⟨by rfl, ?_⟩) ?_ ?_
      rotate_left
      · intro w'
        go_simp
        with_reducible rfl
      rotate_left
      · simp only [Act.put, sA_, sB_, sC_, zL, zM]
        rfl
      refine pure_ (i := 14) (N := some 53) (v := ?_) (a' := ?_) (tf_ 15 41) rfl rfl (zN HT_.out (by kernel_rfl)) (fun _ _ _ h => h) (Or.inl ⟨by rfl, ?_⟩) ?_ ?_
      rotate_left
      · intro w'
        go_simp
        with_reducible rfl
      rotate_left
      · simp only [Act.put, sA_, sB_, sC_, zL, zM]
        rfl
      refine pure_ (i := 15) (N := some 54) (v := ?_) (a' := ?_) (tf_ 16 41) rfl rfl (zN HT_.out (by kernel_rfl)) (fun _ _ _ h => h) (Or.inl ⟨by rfl, ?_⟩) ?_ ?_
      rotate_left
      · intro w'
        go_simp
        with_reducible rfl
      rotate_left
      · simp only [Act.put, sA_, sB_, sC_, zL, zM]
        rfl
      refine pure_ (i := 17) (N := some 56) (v := ?_) (a' := ?_) #[true, true, true, true, true, true, true, true, true, true, true, true, true, true, true, true, false, true, false, false, false, false, false, false, false, false, false, false, false, false, false, false, false, false, false, false, false, false, false, false, false] rfl rfl (zN HT_.out (by kernel_rfl)) (fun _ _ _ h => h) (Or.inl ⟨by rfl, ?_⟩) ?_ ?_
      rotate_left
      · intro w'
        go_simp
        with_reducible rfl
      rotate_left
      · simp only [Act.put, sA_, sB_, sC_, zL, zM]
        rfl
      refine take_ (i := 16) (N := some 55) (v := ?_) (a' := ?_) (tf_ 18 41) rfl rfl (take_ofW HT_.out HW_.out (by kernel_rfl)) (fun _ _ _ h => h) (Or.inl ⟨by rfl, ?_⟩) hHeld ?_ ?_
      rotate_left
      · rintro w' ⟨s0, s1, s2, s3, s4, s5, s6, s7, s8, s9, s10, s11⟩
        go_simp
        with_reducible rfl
      rotate_left
      · simp only [Act.put, sA_, sB_, sC_, zL, zM]
        rfl
      refine pure_ (i := 18) (N := some 57) (v := ?_) (a' := ?_) (tf_ 19 41) rfl rfl (zN HT_.out (by kernel_rfl)) (fun _ _ _ h => h) (Or.inl ⟨by rfl, ?_⟩) ?_ ?_
      rotate_left
      · intro w'
        go_simp
        with_reducible rfl
      rotate_left
      · simp only [Act.put, sA_, sB_, sC_, zL, zM]
        rfl
      refine pure_ (i := 19) (N := some 58) (v := ?_) (a' := ?_) (tf_ 20 41) rfl rfl (zN HT_.out (by kernel_rfl)) (fun _ _ _ h => h) (Or.inl ⟨by rfl, ?_⟩) ?_ ?_
      rotate_left
      · intro w'
        go_simp
        with_reducible rfl
      rotate_left
      · simp only [Act.put, sA_, sB_, sC_, zL, zM]
        rfl
      refine pure_ (i := 20) (N := some 59) (v := ?_) (a' := ?_) (tf_ 21 41) rfl rfl (zN HT_.out (by kernel_rfl)) (fun _ _ _ h => h) (Or.inl ⟨by rfl, ?_⟩) ?_ ?_
      rotate_left
      · intro w'
        go_simp
        with_reducible rfl
      rotate_left
      · simp only [Act.put, sA_, sB_, sC_, zL, zM]
        rfl
      refine pure_ (i := 22) (N := some 61) (v := ?_) (a' := ?_) #[true, true, true, true, true, true, true, true, true, true, true, true, true, true, true, true, true, true, true, true, true, false, true, false, false, false, false, false, false, false, false, false, false, false, false, false, false, false, false, false, false] rfl rfl (zN HT_.out (by kernel_rfl)) (fun _ _ _ h => h) (Or.inl ⟨by rfl, ?_⟩) ?_ ?_
      rotate_left
      · intro w'
        go_simp
        with_reducible rfl
      rotate_left
      · simp only [Act.put, sA_, sB_, sC_, zL, zM]
        rfl
      refine pure_ (i := 23) (N := some 62) (v := ?_) (a' := ?_) #[true, true, true, true, true, true, true, true, true, true, true, true, true, true, true, true, true, true, true, true, true, false, true, true, false, false, false, false, false, false, false, false, false, false, false, false, false, false, false, false, false] rfl rfl (zN HT_.out (by kernel_rfl)) (fun _ _ _ h => h) (Or.inl ⟨by rfl, ?_⟩) ?_ ?_
      rotate_left
      · intro w'
        go_simp
        with_reducible rfl
      rotate_left
      · simp only [Act.put, sA_, sB_, sC_, zL, zM]
        rfl
      refine pure_ (i := 24) (N := some 63) (v := ?_) (a' := ?_) #[true, true, true, true, true, true, true, true, true, true, true, true, true, true, true, true, true, true, true, true, true, false, true, true, true, false, false, false, false, false, false, false, false, false, false, false, false, false, false, false, false] rfl rfl (zN HT_.out (by kernel_rfl)) (fun _ _ _ h => h) (Or.inl ⟨by rfl, ?_⟩) ?_ ?_
      rotate_left
      · intro w'
        go_simp
        with_reducible rfl
      rotate_left
      · simp only [Act.put, sA_, sB_, sC_, zL, zM]
        rfl
      refine pure_ (i := 25) (N := some 64) (v := ?_) (a' := ?_) #[true, true, true, true, true, true, true, true, true, true, true, true, true, true, true, true, true, true, true, true, true, false, true, true, true, true, false, false, false, false, false, false, false, false, false, false, false, false, false, false, false] rfl rfl (zN HT_.out (by kernel_rfl)) (fun _ _ _ h => h) (Or.inl ⟨by rfl, ?_⟩) ?_ ?_
      rotate_left
      · intro w'
        go_simp
        with_reducible rfl
      rotate_left
      · simp only [Act.put, sA_, sB_, sC_, zL, zM]
        rfl
      refine take_ (i := 21) (N := some 60) (v := ?_) (a' := ?_) (tf_ 26 41) rfl rfl (take_ofW HT_.out HW_.out (by kernel_rfl)) (fun _ _ _ h => h) (Or.inl ⟨by rfl, ?_⟩) hHeld ?_ ?_
      rotate_left
      · rintro w' ⟨s0, s1, s2, s3, s4, s5, s6, s7, s8, s9, s10, s11⟩
        go_simp
        with_reducible rfl
      rotate_left
      · simp only [Act.put, sA_, sB_, sC_, zL, zM]
        rfl
      refine take_ (i := 26) (N := some 65) (v := ?_) (a' := ?_) (tf_ 27 41) rfl rfl (take_ofW HT_.out HW_.out (by kernel_rfl)) (fun _ _ _ h => h) (Or.inl ⟨by rfl, ?_⟩) hHeld ?_ ?_
      rotate_left
      · rintro w' ⟨s0, s1, s2, s3, s4, s5, s6, s7, s8, s9, s10, s11⟩
        go_simp
        with_reducible rfl
      rotate_left
      · simp only [Act.put, sA_, sB_, sC_, zL, zM]
        rfl
      refine pure_ (i := 27) (N := some 66) (v := ?_) (a' := ?_) (tf_ 28 41) rfl rfl (zN HT_.out (by kernel_rfl)) (fun _ _ _ h => h) (Or.inl ⟨by rfl, ?_⟩) ?_ ?_
      rotate_left
      · intro w'
        go_simp
        with_reducible rfl
      rotate_left
      · simp only [Act.put, sA_, sB_, sC_, zL, zM]
        rfl
      refine pure_ (i := 28) (N := some 67) (v := ?_) (a' := ?_) (tf_ 29 41) rfl rfl (zN HT_.out (by kernel_rfl)) (fun _ _ _ h => h) (Or.inl ⟨by rfl, ?_⟩) ?_ ?_
      rotate_left
      · intro w'
        go_simp
        with_reducible rfl
      rotate_left
      · simp only [Act.put, sA_, sB_, sC_, zL, zM]
        rfl
      refine pure_ (i := 29) (N := some 68) (v := ?_) (a' := ?_) (tf_ 30 41) rfl rfl (zN HT_.out (by kernel_rfl)) (fun _ _ _ h => h) (Or.inl ⟨by rfl, ?_⟩) ?_ ?_
      rotate_left
      · intro w'
        go_simp
        with_reducible rfl
      rotate_left
      · simp only [Act.put, sA_, sB_, sC_, zL, zM]
        rfl
      refine pure_ (i := 30) (N := some 69) (v := ?_) (a' := ?_) (tf_ 31 41) rfl rfl (zN HT_.out (by kernel_rfl)) (fun _ _ _ h => h) (Or.inl ⟨by rfl, ?_⟩) ?_ ?_
      rotate_left
      · intro w'
        go_simp
        with_reducible rfl
      rotate_left
      · simp only [Act.put, sA_, sB_, sC_, zL, zM]
        rfl
      refine pure_ (i := 32) (N := some 71) (v := ?_) (a' := ?_) #[true, true, true, true, true, true, true, true, true, true, true, true, true, true, true, true, true, true, true, true, true, true, true, true, true, true, true, true, true, true, true, false, true, false, false, false, false, false, false, false, false] rfl rfl (zN HT_.out (by kernel_rfl)) (fun _ _ _ h => h) (Or.inl ⟨by rfl, ?_⟩) ?_ ?_
      rotate_left
      · intro w'
        go_simp
        with_reducible rfl
      rotate_left
      · simp only [Act.put, sA_, sB_, sC_, zL, zM]
        rfl
      refine pure_ (i := 33) (N := some 72) (v := ?_) (a' := ?_) #[true, true, true, true, true, true, true, true, true, true, true, true, true, true, true, true, true, true, true, true, true, true, true, true, true, true, true, true, true, true, true, false, true, true, false, false, false, false, false, false, false] rfl rfl (zN HT_.out (by kernel_rfl)) (fun _ _ _ h => h) (Or.inl ⟨by rfl, ?_⟩) ?_ ?_
      rotate_left
      · intro w'
        go_simp
        with_reducible rfl
      rotate_left
      · simp only [Act.put, sA_, sB_, sC_, zL, zM]
        rfl
      refine pure_ (i := 34) (N := some 73) (v := ?_) (a' := ?_) #[true, true, true, true, true, true, true, true, true, true, true, true, true, true, true, true, true, true, true, true, true, true, true, true, true, true, true, true, true, true, true, false, true, true, true, false, false, false, false, false, false] rfl rfl (zN HT_.out (by kernel_rfl)) (fun _ _ _ h => h) (Or.inl ⟨by rfl, ?_⟩) ?_ ?_
      rotate_left
      · intro w'
        go_simp
        with_reducible rfl
      rotate_left
      · simp only [Act.put, sA_, sB_, sC_, zL, zM]
        rfl
      refine pure_ (i := 35) (N := some 74) (v := ?_) (a' := ?_) #[true, true, true, true, true, true, true, true, true, true, true, true, true, true, true, true, true, true, true, true, true, true, true, true, true, true, true, true, true, true, true, false, true, true, true, true, false, false, false, false, false] rfl rfl (zN HT_.out (by kernel_rfl)) (fun _ _ _ h => h) (Or.inl ⟨by rfl, ?_⟩) ?_ ?_
      rotate_left
      · intro w'
        go_simp
        with_reducible rfl
      rotate_left
      · simp only [Act.put, sA_, sB_, sC_, zL, zM]
        rfl
      refine take_ (i := 31) (N := some 70) (v := ?_) (a' := ?_) (tf_ 36 41) rfl rfl (take_ofW HT_.out HW_.out (by kernel_rfl)) (fun _ _ _ h => h) (Or.inl ⟨by rfl, ?_⟩) hHeld ?_ ?_
      rotate_left
      · rintro w' ⟨s0, s1, s2, s3, s4, s5, s6, s7, s8, s9, s10, s11⟩
        go_simp
        with_reducible rfl
      rotate_left
      · simp only [Act.put, sA_, sB_, sC_, zL, zM]
        rfl
      refine take_ (i := 36) (N := some 75) (v := ?_) (a' := ?_) (tf_ 37 41) rfl rfl (take_ofW HT_.out HW_.out (by kernel_rfl)) (fun _ _ _ h => h) (Or.inl ⟨by rfl, ?_⟩) hHeld ?_ ?_
      rotate_left
      · rintro w' ⟨s0, s1, s2, s3, s4, s5, s6, s7, s8, s9, s10, s11⟩
        go_simp
        with_reducible rfl
      rotate_left
      · simp only [Act.put, sA_, sB_, sC_, zL, zM]
        rfl
      refine pure_ (i := 37) (N := some 76) (v := ?_) (a' := ?_) (tf_ 38 41) rfl rfl (zN HT_.out (by kernel_rfl)) (fun _ _ _ h => h) (Or.inl ⟨by rfl, ?_⟩) ?_ ?_
      rotate_left
      · intro w'
        go_simp
        with_reducible rfl
      rotate_left
      · simp only [Act.put, sA_, sB_, sC_, zL, zM]
        rfl
      refine pure_ (i := 38) (N := some 77) (v := ?_) (a' := ?_) (tf_ 39 41) rfl rfl (zN HT_.out (by kernel_rfl)) (fun _ _ _ h => h) (Or.inl ⟨by rfl, ?_⟩) ?_ ?_
      rotate_left
      · intro w'
        go_simp
        with_reducible rfl
      rotate_left
      · simp only [Act.put, sA_, sB_, sC_, zL, zM]
        rfl
      refine pure_ (i := 39) (N := some 78) (v := ?_) (a' := ?_) (tf_ 40 41) rfl rfl (zN HT_.out (by kernel_rfl)) (fun _ _ _ h => h) (Or.inl ⟨by rfl, ?_⟩) ?_ ?_
      rotate_left
      · intro w'
        go_simp
        with_reducible rfl
      rotate_left
      · simp only [Act.put, sA_, sB_, sC_, zL, zM]
        rfl
      refine pure_ (i := 40) (N := some 79) (v := ?_) (a' := ?_) #[true, true, true, true, true, true, true, true, true, true, true, true, true, true, true, true, true, true, true, true, true, true, true, true, true, true, true, true, true, true, true, true, true, true, true, true, true, true, true, true, true] rfl rfl (zN HT_.out (by kernel_rfl)) (fun _ _ _ h => h) (Or.inl ⟨by rfl, ?_⟩) ?_ ?_
      rotate_left
      · intro w'
        go_simp
        with_reducible rfl
      rotate_left
      · simp only [Act.put, sA_, sB_, sC_, zL, zM]
        rfl
      refine done_ (done_of HT_.out (by kernel_rfl)) ?_
      try go_wp2
      go_meet
      case rel => exact ⟨_, ((((rd_T53 t665 x34_1).f3) != ((rd_T54 t661 x34_1).f3))), (by first | rfl | (simp; done) | (simp [*]; done)), H', ⟨by have := HK1.out; first | omega | exact Nat.le_refl _⟩, ⟨by (with_reducible repeat (first | apply Kd.R_alloc | apply Kd.R_drewN | apply Kd.R_drew)); exact HO_7.out⟩, ⟨by (with_reducible repeat (first | apply Kd.R_alloc | apply Kd.R_drewN | apply Kd.R_drew)); exact HO_11.out⟩, ⟨by (with_reducible repeat (first | apply Kd.R_alloc | apply Kd.R_drewN | apply Kd.R_drew)); exact HO_32.out⟩, ⟨by (with_reducible repeat (first | apply Kd.R_alloc | apply Kd.R_drewN | apply Kd.R_drew)); exact HO_660000.out⟩, ⟨by (with_reducible repeat (first | apply Kd.R_alloc | apply Kd.R_drewN | apply Kd.R_drew)); exact HO_660001.out⟩, ⟨by (with_reducible repeat (first | refine zB ?_ _ | refine zD ?_ | refine zA ?_ _)); exact BK645.out⟩, ⟨by (with_reducible repeat (first | refine zB ?_ _ | refine zD ?_ | refine zA ?_ _)); exact BK659.out⟩, ⟨by (with_reducible repeat (first | refine zB ?_ _ | refine zD ?_ | refine zA ?_ _)); exact BK660.out⟩, ⟨by (with_reducible repeat (first | refine zB ?_ _ | refine zD ?_ | refine zA ?_ _)); exact BK674.out⟩, ⟨by repeat (first | (with_reducible first | exact HB.out | apply zJ | apply zG | apply zI | refine zE ?_ GE645.out | refine zE ?_ GE659.out | refine zE ?_ GE660.out | refine zE ?_ GE674.out) | exact HB.out)⟩⟩
    clear HC43; try clear p2
    try clear c5
    try clear c50
    try clear c50b0
    try clear c50b1
    try clear c53
    try clear c53b0
    try clear c53b1
    try clear c56
    obtain ⟨kq, x79_42, rfl, HA, HJ42, HO_7, HO_11, HO_32, HO_660000, HO_660001, BK645, BK659, BK660, BK674, HB⟩ := hcut; cases kq with
    | zero => exact absurd HA.out (by simp [stanzalaw16_LinesRows.j1])
    | succ kj42 =>
      have H := HA.out; clear HA; simp only [stanzalaw16_LinesRows.j1] at H; by_cases c62 : x79_42 = true
      · subst c62
        have H1 : (some false) = some r := by rw [if_pos rfl] at H; exact H
        clear H; have H := H1; clear H1; exact absurd ((Option.some.inj H).trans hrt_.out) (by decide)
      replace c62 := Bool.eq_false_iff.mpr c62; subst c62; have H1 : (if ((rd_T53 t665 x34_1).f3) = 2 then (stanzalaw16_LinesRows.l0 kj42 t661 ((rd_T53 t665 x34_1).f1) (wrap64 (x10_1 + 1)) t665 t665 (t665.length : Int) (wrap64 (x34_1 + 1)) t647 t650) else (stanzalaw16_LinesRows.l0 kj42 t661 ((rd_T53 t665 x34_1).f1) x10_1 t665 t665 (t665.length : Int) (wrap64 (x34_1 + 1)) t647 t650)) = some r := by rw [if_neg (show ¬ (false = true) by decide)] at H; exact H
      clear H; have H := H1; clear H1; by_cases c63 : ((rd_T53 t665 x34_1).f3) = 2
      · rw [if_pos c63] at H
        have c63b0 : (((rd_T53 t665 x34_1).f3) == 2) = true := beq_iff_eq.mpr c63
        have c63b1 : (((rd_T53 t665 x34_1).f3) != 2) = false := bne_eq_false_iff_eq.mpr c63
        clear c63; have H' := zC.mk H
        clear H; have hnb64 := NB674_645.out; have hnc64 := NB645_674.out; have hnb65 := NB674_659.out; have hnc65 := NB659_674.out; have hnb66 := NB674_660.out; have hnc66 := NB660_674.out; have hcz67_0 : wc.cell? ⟨gb674, 0, none⟩ = some (.int .i64 ((rd_T53 t665 x34_1).f0)) := (zF BK674.out 0).trans rfl
        have hcz67_1 : wc.cell? ⟨gb674, 1, none⟩ = some (.int .i64 ((rd_T53 t665 x34_1).f1)) := (zF BK674.out 1).trans rfl
        have hcz67_2 : wc.cell? ⟨gb674, 2, none⟩ = some (.int .i64 ((rd_T53 t665 x34_1).f2)) := (zF BK674.out 2).trans rfl
        have hcz67_3 : wc.cell? ⟨gb674, 3, none⟩ = some (.int .u8 ((rd_T53 t665 x34_1).f3)) := (zF BK674.out 3).trans rfl
        have hfz67_0 := zH BK674.out 0; have hfz67_1 := zH BK674.out 1; have hfz67_2 := zH BK674.out 2; have hfz67_3 := zH BK674.out 3; go_wp2
        go_roundg kj42
        case measure => have := HK1.out; have := HJ42.out; omega
        case rel => exact ⟨(((rd_T53 t665 x34_1).f1)), (wrap64 (x10_1 + 1)), (wrap64 (x34_1 + 1)), (by first | rfl | (simp; done) | (simp [*]; done)), (by first | rfl | (simp; done) | (simp [*]; done)), (by first | rfl | (simp; done) | (simp [*]; done)), H', ⟨by have := HK1.out; have := HJ42.out; omega⟩, ⟨by (with_reducible repeat (first | apply Kd.R_alloc | apply Kd.R_drewN | apply Kd.R_drew)); exact HO_7.out⟩, ⟨by (with_reducible repeat (first | apply Kd.R_alloc | apply Kd.R_drewN | apply Kd.R_drew)); exact Kd.R_mono HO_11.out (fun _ hk => trivial)⟩, ⟨by (with_reducible repeat (first | apply Kd.R_alloc | apply Kd.R_drewN | apply Kd.R_drew)); exact Kd.R_mono HO_32.out (fun _ hk => trivial)⟩, ⟨by (with_reducible repeat (first | apply Kd.R_alloc | apply Kd.R_drewN | apply Kd.R_drew)); exact HO_660000.out⟩, ⟨by (with_reducible repeat (first | apply Kd.R_alloc | apply Kd.R_drewN | apply Kd.R_drew)); exact HO_660001.out⟩, ⟨by (with_reducible repeat (first | refine zB ?_ _ | refine zD ?_ | refine zA ?_ _)); exact BK645.out⟩, ⟨by (with_reducible repeat (first | refine zB ?_ _ | refine zD ?_ | refine zA ?_ _)); exact BK659.out⟩, ⟨by (with_reducible repeat (first | refine zB ?_ _ | refine zD ?_ | refine zA ?_ _)); exact BK660.out⟩, ⟨by repeat (first | (with_reducible first | exact HB.out | apply zJ | apply zG | apply zI | refine zE ?_ GE645.out | refine zE ?_ GE659.out | refine zE ?_ GE660.out | refine zE ?_ GE674.out) | exact HB.out)⟩⟩
      rw [if_neg c63] at H; have c63b0 : (((rd_T53 t665 x34_1).f3) == 2) = false := beq_eq_false_iff_ne.mpr c63
      have c63b1 : (((rd_T53 t665 x34_1).f3) != 2) = true := bne_iff_ne.mpr c63
      have H' := zC.mk H
      clear H; have hnb68 := NB674_645.out; have hnc68 := NB645_674.out; have hnb69 := NB674_659.out; have hnc69 := NB659_674.out; have hnb70 := NB674_660.out; have hnc70 := NB660_674.out; have hcz71_0 : wc.cell? ⟨gb674, 0, none⟩ = some (.int .i64 ((rd_T53 t665 x34_1).f0)) := (zF BK674.out 0).trans rfl
      have hcz71_1 : wc.cell? ⟨gb674, 1, none⟩ = some (.int .i64 ((rd_T53 t665 x34_1).f1)) := (zF BK674.out 1).trans rfl
      have hcz71_2 : wc.cell? ⟨gb674, 2, none⟩ = some (.int .i64 ((rd_T53 t665 x34_1).f2)) := (zF BK674.out 2).trans rfl
      have hcz71_3 : wc.cell? ⟨gb674, 3, none⟩ = some (.int .u8 ((rd_T53 t665 x34_1).f3)) := (zF BK674.out 3).trans rfl
      have hfz71_0 := zH BK674.out 0; have hfz71_1 := zH BK674.out 1; have hfz71_2 := zH BK674.out 2; have hfz71_3 := zH BK674.out 3; go_wp2
      go_roundg kj42
      case measure => have := HK1.out; have := HJ42.out; omega
      case rel => exact ⟨(((rd_T53 t665 x34_1).f1)), (x10_1), (wrap64 (x34_1 + 1)), (by first | rfl | (simp; done) | (simp [*]; done)), (by first | rfl | (simp; done) | (simp [*]; done)), (by first | rfl | (simp; done) | (simp [*]; done)), H', ⟨by have := HK1.out; have := HJ42.out; omega⟩, ⟨by (with_reducible repeat (first | apply Kd.R_alloc | apply Kd.R_drewN | apply Kd.R_drew)); exact HO_7.out⟩, ⟨by (with_reducible repeat (first | apply Kd.R_alloc | apply Kd.R_drewN | apply Kd.R_drew)); exact Kd.R_mono HO_11.out (fun _ hk => trivial)⟩, ⟨by (with_reducible repeat (first | apply Kd.R_alloc | apply Kd.R_drewN | apply Kd.R_drew)); exact Kd.R_mono HO_32.out (fun _ hk => trivial)⟩, ⟨by (with_reducible repeat (first | apply Kd.R_alloc | apply Kd.R_drewN | apply Kd.R_drew)); exact HO_660000.out⟩, ⟨by (with_reducible repeat (first | apply Kd.R_alloc | apply Kd.R_drewN | apply Kd.R_drew)); exact HO_660001.out⟩, ⟨by (with_reducible repeat (first | refine zB ?_ _ | refine zD ?_ | refine zA ?_ _)); exact BK645.out⟩, ⟨by (with_reducible repeat (first | refine zB ?_ _ | refine zD ?_ | refine zA ?_ _)); exact BK659.out⟩, ⟨by (with_reducible repeat (first | refine zB ?_ _ | refine zD ?_ | refine zA ?_ _)); exact BK660.out⟩, ⟨by repeat (first | (with_reducible first | exact HB.out | apply zJ | apply zG | apply zI | refine zE ?_ GE645.out | refine zE ?_ GE659.out | refine zE ?_ GE660.out | refine zE ?_ GE674.out) | exact HB.out)⟩⟩
def stanzalaw16_LinesRows.Pure : Prop := ∀ (l0 : List (S63)) (a1_0 : Int) (a1_1 : Int) (a1_2 : Int) (a1_3 : Int) (a1_4 : Int) (a1_5 : Nat), (l0.length * 4 ≤ 140737488351232 ∧ ∀ y0 ∈ l0, ((Lit.int .u8 y0.f0).wf = true ∧ ((Lit.int .u8 y0.f1).wf = true ∧ ((Lit.int .u8 y0.f2).wf = true ∧ (Lit.int .u8 y0.f3).wf = true)))) → ((Lit.int .u8 a1_0).wf = true ∧ ((Lit.int .u8 a1_1).wf = true ∧ ((Lit.int .u8 a1_2).wf = true ∧ ((Lit.int .u16 a1_3).wf = true ∧ ((Lit.int .u16 a1_4).wf = true ∧ (Lit.float .f64 a1_5).wf = true))))) → ∃ k, stanzalaw16_LinesRows.f k l0 a1_0 a1_1 a1_2 a1_3 a1_4 a1_5 = some true
end Go.Proofs.Ytcnblneghbgjgaa.F
end
