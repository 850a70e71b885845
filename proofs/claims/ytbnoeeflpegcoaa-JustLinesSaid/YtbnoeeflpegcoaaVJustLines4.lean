/- Printed by a program: Lean functions that answer as the Go functions do, and the proofs of it. -/
import Derived.Test.YtbnoeeflpegcoaaVJustLines0
import Derived.Test.YtbnoeeflpegcoaaVJustLines3
import Derived.Test.YtbnoeeflpegcoaaVJustLines2
section
namespace Go.Proofs.Ytbnoeeflpegcoaa.F
open Go.RowKit Go.Proofs.YtbnoeeflpegcoaaW.PrintWords Go.Proofs.YtbnoeeflpegcoaaW.PrintLast Go.Proofs.YtbnoeeflpegcoaaW.PrintMore
attribute [local go_sem] max2_int min2_int max_two min_two max_three min_three max_four min_four   -- for this text's walks alone
set_option linter.unusedVariables false
set_option linter.unusedSimpArgs false
mutual
def stanzaref13_Wide.j0 : Nat → Int → List Int → List Int → Bool → List (S41) → List Int → Int → Int → Int → Int → Int → Int → Int → Int → Int → Nat → Option (List Int)
  | 0, _, _, _, _, _, _, _, _, _, _, _, _, _, _, _, _ => none
  | k + 1, x7, x8, x9, x34, x522000, x522001, x523000, x523001, x523002, x523003, x524000, x524001, x524002, x524003, x524004, x524005 => if x34 = true then ((stanzaref13_Cells.f k x522000 x522001 x523000 x523001 x523003 x524001).bind fun t528 => ((stanzaref13_Gaps.f k x522000 x522001 x523000 x523001).bind fun t529 => ((stanzaref13_Spread.f k (wrap64 (x524000 - t528)) t529).bind fun t530 => (stanzaref13_Wide.j1 k x7 x8 t530 x522000 x522001 x523000 x523001 x523002 x523003)))) else (stanzaref13_Wide.j1 k x7 x8 x9 x522000 x522001 x523000 x523001 x523002 x523003)
def stanzaref13_Wide.j1 : Nat → Int → List Int → List Int → List (S41) → List Int → Int → Int → Int → Int → Option (List Int)
  | 0, _, _, _, _, _, _, _, _, _ => none
  | k + 1, x7, x8, x9, x522000, x522001, x523000, x523001, x523002, x523003 => stanzaref13_Wide.l0 k x7 x8 x9 ([] : List Int) 0 0 x522000 x522001 x523000 x523001 x523002 x523003
def stanzaref13_Wide.l0 : Nat → Int → List Int → List Int → List Int → Int → Int → List (S41) → List Int → Int → Int → Int → Int → Option (List Int)
  | 0, _, _, _, _, _, _, _, _, _, _, _, _ => none
  | k + 1, x7, x8, x9, x10, x11, x12, x522000, x522001, x523000, x523001, x523002, x523003 => if x12 < (wrap64 (x7 - x523000)) then (if 0 ≤ (wrap64 (x12 + 1)) then (if (wrap64 (x12 + 1)) < (x8.length : Int) then (if 0 ≤ x12 then (if x12 < (x8.length : Int) then (if 0 ≤ (wrap64 (x523000 + x12)) then (if (wrap64 (x523000 + x12)) < (x522000.length : Int) then (if ((rd_T41 x522000 (wrap64 (x523000 + x12))).f3) = 1 then (if x11 < (x9.length : Int) then (if 0 ≤ x11 then (if x10.length < 17592186044416 then (stanzaref13_Wide.l0 k x7 x8 x9 (x10 ++ [wrap64 ((wrap64 ((rd x8 (wrap64 (x12 + 1))) - (rd x8 x12))) + (rd x9 x11))]) (wrap64 (x11 + 1)) (wrap64 (x12 + 1)) x522000 x522001 x523000 x523001 x523002 x523003) else (none)) else (none)) else (if x10.length < 17592186044416 then (stanzaref13_Wide.l0 k x7 x8 x9 (x10 ++ [wrap64 ((rd x8 (wrap64 (x12 + 1))) - (rd x8 x12))]) (wrap64 (x11 + 1)) (wrap64 (x12 + 1)) x522000 x522001 x523000 x523001 x523002 x523003) else (none))) else (if x10.length < 17592186044416 then (stanzaref13_Wide.l0 k x7 x8 x9 (x10 ++ [wrap64 ((rd x8 (wrap64 (x12 + 1))) - (rd x8 x12))]) x11 (wrap64 (x12 + 1)) x522000 x522001 x523000 x523001 x523002 x523003) else (none))) else (none)) else (none)) else (none)) else (none)) else (none)) else (none)) else (some x10)
end
def stanzaref13_Wide.f (k : Nat) (l0_0 : List (S41)) (l0_1 : List Int) (a1_0 : Int) (a1_1 : Int) (a1_2 : Int) (a1_3 : Int) (a2_0 : Int) (a2_1 : Int) (a2_2 : Int) (a2_3 : Int) (a2_4 : Int) (a2_5 : Nat) : Option (List Int) := (stanzaref13_Trim.f k l0_0 l0_1 a1_0 a1_1).bind fun t524 => ((stanzaref13_Columns.f k l0_0 l0_1 a1_0 t524 a2_1).bind fun t525 => (if a1_3 = 2 then (stanzaref13_Wide.j0 k t524 t525 ([] : List Int) false l0_0 l0_1 a1_0 a1_1 a1_2 a1_3 a2_0 a2_1 a2_2 a2_3 a2_4 a2_5) else (stanzaref13_Wide.j0 k t524 t525 ([] : List Int) (a1_3 != 4) l0_0 l0_1 a1_0 a1_1 a1_2 a1_3 a2_0 a2_1 a2_2 a2_3 a2_4 a2_5)))
theorem stanzaref13_Wide.mono_l : ∀ k, (∀ y0 y1 y2 y3 y4 y5 y6 y7 y8 y9 y10 y11 y12 y13 y14 y15, LeO (stanzaref13_Wide.j0 k y0 y1 y2 y3 y4 y5 y6 y7 y8 y9 y10 y11 y12 y13 y14 y15) (stanzaref13_Wide.j0 (k + 1) y0 y1 y2 y3 y4 y5 y6 y7 y8 y9 y10 y11 y12 y13 y14 y15)) ∧ (∀ y0 y1 y2 y3 y4 y5 y6 y7 y8, LeO (stanzaref13_Wide.j1 k y0 y1 y2 y3 y4 y5 y6 y7 y8) (stanzaref13_Wide.j1 (k + 1) y0 y1 y2 y3 y4 y5 y6 y7 y8)) ∧ (∀ y0 y1 y2 y3 y4 y5 y6 y7 y8 y9 y10 y11, LeO (stanzaref13_Wide.l0 k y0 y1 y2 y3 y4 y5 y6 y7 y8 y9 y10 y11) (stanzaref13_Wide.l0 (k + 1) y0 y1 y2 y3 y4 y5 y6 y7 y8 y9 y10 y11))
  | 0 => ⟨fun _ _ _ _ _ _ _ _ _ _ _ _ _ _ _ _ r h => by simp [stanzaref13_Wide.j0] at h, fun _ _ _ _ _ _ _ _ _ r h => by simp [stanzaref13_Wide.j1] at h, fun _ _ _ _ _ _ _ _ _ _ _ _ r h => by simp [stanzaref13_Wide.l0] at h⟩
  | k + 1 => by
    obtain ⟨ih0, ih1, ih2⟩ := stanzaref13_Wide.mono_l k; refine ⟨?_, ?_, ?_⟩
    · intro y0 y1 y2 y3 y4 y5 y6 y7 y8 y9 y10 y11 y12 y13 y14 y15
      unfold stanzaref13_Wide.j0
      repeat' first
      | (with_reducible exact ih0 _ _ _ _ _ _ _ _ _ _ _ _ _ _ _ _)
      | (with_reducible exact ih1 _ _ _ _ _ _ _ _ _)
      | (with_reducible exact ih2 _ _ _ _ _ _ _ _ _ _ _ _)
      | (with_reducible exact stanzaref13_Cells.mono _ _ _ _ _ _ _)
      | (with_reducible exact stanzaref13_Columns.mono _ _ _ _ _ _)
      | (with_reducible exact stanzaref13_Gaps.mono _ _ _ _ _)
      | (with_reducible exact stanzaref13_Spread.mono _ _ _)
      | (with_reducible exact stanzaref13_Trim.mono _ _ _ _ _)
      | (with_reducible exact LeO.refl _)
      | (with_reducible exact LeO.none _)
      | (with_reducible refine LeO.ite ?_ ?_)
      | (with_reducible refine LeO.bind ?_ (fun _ => ?_))
      | exact ih0 _ _ _ _ _ _ _ _ _ _ _ _ _ _ _ _
      | exact ih1 _ _ _ _ _ _ _ _ _
      | exact ih2 _ _ _ _ _ _ _ _ _ _ _ _
      | exact stanzaref13_Cells.mono _ _ _ _ _ _ _
      | exact stanzaref13_Columns.mono _ _ _ _ _ _
      | exact stanzaref13_Gaps.mono _ _ _ _ _
      | exact stanzaref13_Spread.mono _ _ _
      | exact stanzaref13_Trim.mono _ _ _ _ _
      | exact LeO.none _
      | refine LeO.ite ?_ ?_
      | refine LeO.bind ?_ (fun _ => ?_)
    · intro y0 y1 y2 y3 y4 y5 y6 y7 y8
      unfold stanzaref13_Wide.j1
      repeat' first
      | (with_reducible exact ih0 _ _ _ _ _ _ _ _ _ _ _ _ _ _ _ _)
      | (with_reducible exact ih1 _ _ _ _ _ _ _ _ _)
      | (with_reducible exact ih2 _ _ _ _ _ _ _ _ _ _ _ _)
      | (with_reducible exact stanzaref13_Cells.mono _ _ _ _ _ _ _)
      | (with_reducible exact stanzaref13_Columns.mono _ _ _ _ _ _)
      | (with_reducible exact stanzaref13_Gaps.mono _ _ _ _ _)
      | (with_reducible exact stanzaref13_Spread.mono _ _ _)
      | (with_reducible exact stanzaref13_Trim.mono _ _ _ _ _)
      | (with_reducible exact LeO.refl _)
      | (with_reducible exact LeO.none _)
      | (with_reducible refine LeO.ite ?_ ?_)
      | (with_reducible refine LeO.bind ?_ (fun _ => ?_))
      | exact ih0 _ _ _ _ _ _ _ _ _ _ _ _ _ _ _ _
      | exact ih1 _ _ _ _ _ _ _ _ _
      | exact ih2 _ _ _ _ _ _ _ _ _ _ _ _
      | exact stanzaref13_Cells.mono _ _ _ _ _ _ _
      | exact stanzaref13_Columns.mono _ _ _ _ _ _
      | exact stanzaref13_Gaps.mono _ _ _ _ _
      | exact stanzaref13_Spread.mono _ _ _
      | exact stanzaref13_Trim.mono _ _ _ _ _
      | exact LeO.none _
      | refine LeO.ite ?_ ?_
      | refine LeO.bind ?_ (fun _ => ?_)
    · intro y0 y1 y2 y3 y4 y5 y6 y7 y8 y9 y10 y11
      unfold stanzaref13_Wide.l0
      repeat' first
      | (with_reducible exact ih0 _ _ _ _ _ _ _ _ _ _ _ _ _ _ _ _)
      | (with_reducible exact ih1 _ _ _ _ _ _ _ _ _)
      | (with_reducible exact ih2 _ _ _ _ _ _ _ _ _ _ _ _)
      | (with_reducible exact stanzaref13_Cells.mono _ _ _ _ _ _ _)
      | (with_reducible exact stanzaref13_Columns.mono _ _ _ _ _ _)
      | (with_reducible exact stanzaref13_Gaps.mono _ _ _ _ _)
      | (with_reducible exact stanzaref13_Spread.mono _ _ _)
      | (with_reducible exact stanzaref13_Trim.mono _ _ _ _ _)
      | (with_reducible exact LeO.refl _)
      | (with_reducible exact LeO.none _)
      | (with_reducible refine LeO.ite ?_ ?_)
      | (with_reducible refine LeO.bind ?_ (fun _ => ?_))
      | exact ih0 _ _ _ _ _ _ _ _ _ _ _ _ _ _ _ _
      | exact ih1 _ _ _ _ _ _ _ _ _
      | exact ih2 _ _ _ _ _ _ _ _ _ _ _ _
      | exact stanzaref13_Cells.mono _ _ _ _ _ _ _
      | exact stanzaref13_Columns.mono _ _ _ _ _ _
      | exact stanzaref13_Gaps.mono _ _ _ _ _
      | exact stanzaref13_Spread.mono _ _ _
      | exact stanzaref13_Trim.mono _ _ _ _ _
      | exact LeO.none _
      | refine LeO.ite ?_ ?_
      | refine LeO.bind ?_ (fun _ => ?_)
theorem stanzaref13_Wide.mono : ∀ a0 a1 a2 a3 a4 a5 a6 a7 a8 a9 a10 a11 k, LeO (stanzaref13_Wide.f k a0 a1 a2 a3 a4 a5 a6 a7 a8 a9 a10 a11) (stanzaref13_Wide.f (k + 1) a0 a1 a2 a3 a4 a5 a6 a7 a8 a9 a10 a11) := by
  intro a0 a1 a2 a3 a4 a5 a6 a7 a8 a9 a10 a11 k
  obtain ⟨ih0, ih1, ih2⟩ := stanzaref13_Wide.mono_l k; unfold stanzaref13_Wide.f
  repeat' first
      | (with_reducible exact ih0 _ _ _ _ _ _ _ _ _ _ _ _ _ _ _ _)
      | (with_reducible exact ih1 _ _ _ _ _ _ _ _ _)
      | (with_reducible exact ih2 _ _ _ _ _ _ _ _ _ _ _ _)
      | (with_reducible exact stanzaref13_Cells.mono _ _ _ _ _ _ _)
      | (with_reducible exact stanzaref13_Columns.mono _ _ _ _ _ _)
      | (with_reducible exact stanzaref13_Gaps.mono _ _ _ _ _)
      | (with_reducible exact stanzaref13_Spread.mono _ _ _)
      | (with_reducible exact stanzaref13_Trim.mono _ _ _ _ _)
      | (with_reducible exact LeO.refl _)
      | (with_reducible exact LeO.none _)
      | (with_reducible refine LeO.ite ?_ ?_)
      | (with_reducible refine LeO.bind ?_ (fun _ => ?_))
      | exact ih0 _ _ _ _ _ _ _ _ _ _ _ _ _ _ _ _
      | exact ih1 _ _ _ _ _ _ _ _ _
      | exact ih2 _ _ _ _ _ _ _ _ _ _ _ _
      | exact stanzaref13_Cells.mono _ _ _ _ _ _ _
      | exact stanzaref13_Columns.mono _ _ _ _ _ _
      | exact stanzaref13_Gaps.mono _ _ _ _ _
      | exact stanzaref13_Spread.mono _ _ _
      | exact stanzaref13_Trim.mono _ _ _ _ _
      | exact LeO.none _
      | refine LeO.ite ?_ ?_
      | refine LeO.bind ?_ (fun _ => ?_)
def stanzaref13_Wide.T5 : Bool × List (List Nat × List Nat) := (true, [([], []), ([0], [0]), ([], []), ([], []), ([3], [3]), ([], []), ([5], [5]), ([], []), ([7], [7]), ([], []), ([9], [9]), ([2, 4, 6, 8, 10], [2, 4, 6, 8, 10]), ([1, 11], [1, 11]), ([], []), ([], []), ([14], [14]), ([], []), ([16], [16]), ([13, 15, 17, 11], [13, 15, 17]), ([12, 18, 18], [12, 18]), ([19, 19, 0, 1, 2, 3, 4, 5, 6, 7, 8, 9, 10, 11, 12, 13, 14, 15, 16, 17, 18, 19], [19])])
def stanzaref13_Wide.B5 : List Nat := [0, 1, 0, 0, 8, 0, 32, 0, 128, 0, 512, 2044, 4095, 0, 0, 16384, 0, 65536, 258044, 524287, 1048575]
theorem stanzaref13_Wide.tab5 : rtab .any (opsOf Try.f38 5) = stanzaref13_Wide.T5 := by kernel_rfl
theorem stanzaref13_Wide.bits5 : waitsOk stanzaref13_Wide.T5.2 stanzaref13_Wide.B5 = true := by kernel_rfl
def stanzaref13_Wide.T11 : Bool × List (List Nat × List Nat) := (true, [([], []), ([], []), ([1], [1]), ([0, 2], [0, 2]), ([3], [3]), ([], []), ([], []), ([5, 6], [5, 6]), ([7], [7]), ([4, 8], [4, 8]), ([9, 0, 1, 2, 3, 4, 5, 6, 7, 8, 9], [9])])
def stanzaref13_Wide.B11 : List Nat := [0, 0, 2, 7, 15, 0, 0, 96, 224, 511, 1023]
theorem stanzaref13_Wide.tab11 : rtab .any (opsOf Try.f38 11) = stanzaref13_Wide.T11 := by kernel_rfl
theorem stanzaref13_Wide.bits11 : waitsOk stanzaref13_Wide.T11.2 stanzaref13_Wide.B11 = true := by kernel_rfl
set_option maxHeartbeats 8000000 in
set_option maxRecDepth 100000 in
theorem stanzaref13_Wide.calls (k : Nat) (A0_0 : Option Addr) (c0_0 : Nat) (l0_0 : List (S41)) (A0_1 : Option Addr) (c0_1 : Nat) (l0_1 : List Int) (a1_0 : Int) (a1_1 : Int) (a1_2 : Int) (a1_3 : Int) (a2_0 : Int) (a2_1 : Int) (a2_2 : Int) (a2_3 : Int) (a2_4 : Int) (a2_5 : Nat) (r : List Int) (w : World) (hr0_0 : Kd.C k41 w A0_0 l0_0.length l0_0) (hc0_0 : l0_0.length ≤ c0_0) (hr0_1 : Kd.C (Kd.int .u8) w A0_1 l0_1.length l0_1) (hc0_1 : l0_1.length ≤ c0_1) (h : stanzaref13_Wide.f k l0_0 l0_1 a1_0 a1_1 a1_2 a1_3 a2_0 a2_1 a2_2 a2_3 a2_4 a2_5 = some r) :
    Calls Try.prog 38 #[.agg #[.slice A0_0 l0_0.length c0_0, .slice A0_1 l0_1.length c0_1], .agg #[.int .i64 a1_0, .int .i64 a1_1, .int .i64 a1_2, .int .u8 a1_3], .agg #[.int .i64 a2_0, .int .i64 a2_1, .int .u8 a2_2, .int .i64 a2_3, .int .i64 a2_4, .float .f64 a2_5]] w fun e w' => ∃ v0_ : Value, e = .returned (v0_) ∧ Kd.R (Kd.int .i64) 3 w' w.heap.size (fun _ => True) v0_ r ∧ Below w.heap.size w w' := by
  have hu35 := Try.underlying35; have hu63 := Try.underlying63; have hu58 := Try.underlying58; have HR0_0 := zA.mk hr0_0; have HC0_0 := zA.mk hc0_0; clear hr0_0 hc0_0; have HR0_1 := zA.mk hr0_1; have HC0_1 := zA.mk hc0_1; clear hr0_1 hc0_1; have HB := zA.mk (Below.refl w.heap.size w); have H : ((stanzaref13_Trim.f k l0_0 l0_1 a1_0 a1_1).bind fun t524 => ((stanzaref13_Columns.f k l0_0 l0_1 a1_0 t524 a2_1).bind fun t525 => (if a1_3 = 2 then (stanzaref13_Wide.j0 k t524 t525 ([] : List Int) false l0_0 l0_1 a1_0 a1_1 a1_2 a1_3 a2_0 a2_1 a2_2 a2_3 a2_4 a2_5) else (stanzaref13_Wide.j0 k t524 t525 ([] : List Int) (a1_3 != 4) l0_0 l0_1 a1_0 a1_1 a1_2 a1_3 a2_0 a2_1 a2_2 a2_3 a2_4 a2_5)))) = some r := h
  clear h; replace H := Option.bind_eq_some_iff.mp H; obtain ⟨t524, A40, H⟩ := H; replace H : ((stanzaref13_Columns.f k l0_0 l0_1 a1_0 t524 a2_1).bind fun t525 => (if a1_3 = 2 then (stanzaref13_Wide.j0 k t524 t525 ([] : List Int) false l0_0 l0_1 a1_0 a1_1 a1_2 a1_3 a2_0 a2_1 a2_2 a2_3 a2_4 a2_5) else (stanzaref13_Wide.j0 k t524 t525 ([] : List Int) (a1_3 != 4) l0_0 l0_1 a1_0 a1_1 a1_2 a1_3 a2_0 a2_1 a2_2 a2_3 a2_4 a2_5))) = some r := H
  have A4 := zA.mk A40; clear A40; replace H := Option.bind_eq_some_iff.mp H; obtain ⟨t525, A50, H⟩ := H; replace H : (if a1_3 = 2 then (stanzaref13_Wide.j0 k t524 t525 ([] : List Int) false l0_0 l0_1 a1_0 a1_1 a1_2 a1_3 a2_0 a2_1 a2_2 a2_3 a2_4 a2_5) else (stanzaref13_Wide.j0 k t524 t525 ([] : List Int) (a1_3 != 4) l0_0 l0_1 a1_0 a1_1 a1_2 a1_3 a2_0 a2_1 a2_2 a2_3 a2_4 a2_5)) = some r := H; have A5 := zA.mk A50; clear A50; have HC6 := zA.mk H; clear H; go_enter Try.func38, Try.ntmps38
  go_upto_region 4 with (first | ((with_reducible refine gate_dst (N := 3) rfl ?_); refine box_event ?hg (N := 3) ?hd (cs := #[.slice A0_0 l0_0.length c0_0, .slice A0_1 l0_1.length c0_1]) (t := 35) ?hr ?_; (case hd => rfl); (case hg => rfl); (case hr => first | (go_simp; done) | (go_simp; rfl)); intro gb521 hg w7 hbox hb; have n0_ := zA.mk (zO (by repeat (first | (with_reducible first | exact HB.out | apply zI | apply zF | apply zH) | exact HB.out)) hb); have n1_ := zA.mk (hbox); have n2_ := zA.mk ((by rw [hg]; exact (zL (by repeat (first | (with_reducible first | exact HB.out | apply zI | apply zF | apply zH) | exact HB.out))) : w.heap.size ≤ gb521)); have n3_ := zA.mk ((by rw [hg]; exact (zL (by repeat (first | (with_reducible first | exact HB.out | apply zI | apply zF | apply zH) | exact HB.out))) : w.heap.size ≤ gb521)); clear HB; have HB := n0_; have BK521 := n1_; have GW521 := n2_; have GE521 := n3_; clear n0_ n1_ n2_ n3_; clear hb hbox hg) | ((with_reducible refine gate_dst (N := 4) rfl ?_); refine box_event ?hg (N := 4) ?hd (cs := #[.int .i64 a1_0, .int .i64 a1_1, .int .i64 a1_2, .int .u8 a1_3]) (t := 63) ?hr ?_; (case hd => rfl); (case hg => rfl); (case hr => first | (go_simp; done) | (go_simp; rfl)); intro gb522 hg w8 hbox hb; have n0_ := zA.mk (zK (g := gb521) (o := .cells #[.slice A0_0 l0_0.length c0_0, .slice A0_1 l0_1.length c0_1] 35 (0, 0)) (by (with_reducible repeat (first | refine zB ?_ _ | refine zE ?_ | refine zC ?_ _)); exact BK521.out) hb); have n1_ := zA.mk (zO (by repeat (first | (with_reducible first | exact HB.out | apply zI | apply zF | apply zH | refine zD ?_ GE521.out) | exact HB.out)) hb); have n2_ := zA.mk (hbox); have n3_ := zA.mk ((by rw [hg]; exact (zL (by repeat (first | (with_reducible first | exact HB.out | apply zI | apply zF | apply zH | refine zD ?_ GE521.out) | exact HB.out))) : w.heap.size ≤ gb522)); have n4_ := zA.mk ((by rw [hg]; exact (zL (by repeat (first | (with_reducible first | exact HB.out | apply zI | apply zF | apply zH | refine zD ?_ GE521.out) | exact HB.out))) : w.heap.size ≤ gb522)); have n5_ := zA.mk ((by rw [hg]; exact Nat.ne_of_lt (blk_lt (g := gb521) (o := .cells #[.slice A0_0 l0_0.length c0_0, .slice A0_1 l0_1.length c0_1] 35 (0, 0)) (by (with_reducible repeat (first | refine zB ?_ _ | refine zE ?_ | refine zC ?_ _)); exact BK521.out)) : gb521 ≠ gb522)); have n6_ := zA.mk ((by rw [hg]; exact Nat.ne_of_gt (blk_lt (g := gb521) (o := .cells #[.slice A0_0 l0_0.length c0_0, .slice A0_1 l0_1.length c0_1] 35 (0, 0)) (by (with_reducible repeat (first | refine zB ?_ _ | refine zE ?_ | refine zC ?_ _)); exact BK521.out)) : gb522 ≠ gb521)); clear BK521; clear HB; have BK521 := n0_; have HB := n1_; have BK522 := n2_; have GW522 := n3_; have GE522 := n4_; have NB521_522 := n5_; have NB522_521 := n6_; clear n0_ n1_ n2_ n3_ n4_ n5_ n6_; clear hb hbox hg) | ((with_reducible refine gate_dst (N := 5) rfl ?_); refine box_event ?hg (N := 5) ?hd (cs := #[.int .i64 a2_0, .int .i64 a2_1, .int .u8 a2_2, .int .i64 a2_3, .int .i64 a2_4, .float .f64 a2_5]) (t := 58) ?hr ?_; (case hd => rfl); (case hg => rfl); (case hr => first | (go_simp; done) | (go_simp; rfl)); intro gb523 hg w9 hbox hb; have n0_ := zA.mk (zK (g := gb521) (o := .cells #[.slice A0_0 l0_0.length c0_0, .slice A0_1 l0_1.length c0_1] 35 (0, 0)) (by (with_reducible repeat (first | refine zB ?_ _ | refine zE ?_ | refine zC ?_ _)); exact BK521.out) hb); have n1_ := zA.mk (zK (g := gb522) (o := .cells #[.int .i64 a1_0, .int .i64 a1_1, .int .i64 a1_2, .int .u8 a1_3] 63 (0, 0)) (by (with_reducible repeat (first | refine zB ?_ _ | refine zE ?_ | refine zC ?_ _)); exact BK522.out) hb); have n2_ := zA.mk (zO (by repeat (first | (with_reducible first | exact HB.out | apply zI | apply zF | apply zH | refine zD ?_ GE521.out | refine zD ?_ GE522.out) | exact HB.out)) hb); have n3_ := zA.mk (hbox); have n4_ := zA.mk ((by rw [hg]; exact (zL (by repeat (first | (with_reducible first | exact HB.out | apply zI | apply zF | apply zH | refine zD ?_ GE521.out | refine zD ?_ GE522.out) | exact HB.out))) : w.heap.size ≤ gb523)); have n5_ := zA.mk ((by rw [hg]; exact (zL (by repeat (first | (with_reducible first | exact HB.out | apply zI | apply zF | apply zH | refine zD ?_ GE521.out | refine zD ?_ GE522.out) | exact HB.out))) : w.heap.size ≤ gb523)); have n6_ := zA.mk ((by rw [hg]; exact Nat.ne_of_lt (blk_lt (g := gb521) (o := .cells #[.slice A0_0 l0_0.length c0_0, .slice A0_1 l0_1.length c0_1] 35 (0, 0)) (by (with_reducible repeat (first | refine zB ?_ _ | refine zE ?_ | refine zC ?_ _)); exact BK521.out)) : gb521 ≠ gb523)); have n7_ := zA.mk ((by rw [hg]; exact Nat.ne_of_gt (blk_lt (g := gb521) (o := .cells #[.slice A0_0 l0_0.length c0_0, .slice A0_1 l0_1.length c0_1] 35 (0, 0)) (by (with_reducible repeat (first | refine zB ?_ _ | refine zE ?_ | refine zC ?_ _)); exact BK521.out)) : gb523 ≠ gb521)); have n8_ := zA.mk ((by rw [hg]; exact Nat.ne_of_lt (blk_lt (g := gb522) (o := .cells #[.int .i64 a1_0, .int .i64 a1_1, .int .i64 a1_2, .int .u8 a1_3] 63 (0, 0)) (by (with_reducible repeat (first | refine zB ?_ _ | refine zE ?_ | refine zC ?_ _)); exact BK522.out)) : gb522 ≠ gb523)); have n9_ := zA.mk ((by rw [hg]; exact Nat.ne_of_gt (blk_lt (g := gb522) (o := .cells #[.int .i64 a1_0, .int .i64 a1_1, .int .i64 a1_2, .int .u8 a1_3] 63 (0, 0)) (by (with_reducible repeat (first | refine zB ?_ _ | refine zE ?_ | refine zC ?_ _)); exact BK522.out)) : gb523 ≠ gb522)); clear BK521; clear BK522; clear HB; have BK521 := n0_; have BK522 := n1_; have HB := n2_; have BK523 := n3_; have GW523 := n4_; have GE523 := n5_; have NB521_523 := n6_; have NB523_521 := n7_; have NB522_523 := n8_; have NB523_522 := n9_; clear n0_ n1_ n2_ n3_ n4_ n5_ n6_ n7_ n8_ n9_; clear hb hbox hg; have hnb10 := NB521_522.out; have hnc10 := NB522_521.out; have hnb11 := NB521_523.out; have hnc11 := NB523_521.out; have hcz12_0 : w9.cell? ⟨gb521, 0, none⟩ = some (.slice A0_0 l0_0.length c0_0) := (zG BK521.out 0).trans rfl; have hcz12_1 : w9.cell? ⟨gb521, 1, none⟩ = some (.slice A0_1 l0_1.length c0_1) := (zG BK521.out 1).trans rfl; have hfz12_0 := zJ BK521.out 0; have hfz12_1 := zJ BK521.out 1; have hnb13 := NB522_523.out; have hnc13 := NB523_522.out; have hcz14_0 : w9.cell? ⟨gb522, 0, none⟩ = some (.int .i64 a1_0) := (zG BK522.out 0).trans rfl; have hcz14_1 : w9.cell? ⟨gb522, 1, none⟩ = some (.int .i64 a1_1) := (zG BK522.out 1).trans rfl; have hcz14_2 : w9.cell? ⟨gb522, 2, none⟩ = some (.int .i64 a1_2) := (zG BK522.out 2).trans rfl; have hcz14_3 : w9.cell? ⟨gb522, 3, none⟩ = some (.int .u8 a1_3) := (zG BK522.out 3).trans rfl; have hfz14_0 := zJ BK522.out 0; have hfz14_1 := zJ BK522.out 1; have hfz14_2 := zJ BK522.out 2; have hfz14_3 := zJ BK522.out 3) | ((with_reducible refine gate_callee (f := 31) rfl ?_); refine goesL_ (some 19) rfl rfl Try.func31 (by kernel_rfl) rfl #[.agg #[.slice A0_0 l0_0.length c0_0, .slice A0_1 l0_1.length c0_1], .int .i64 a1_0, .int .i64 a1_1] rfl (by (try simp only [List.map_toArray, List.map_cons, List.map_nil]); first | done | rfl | (simp only [List.length_drop, List.length_take]; rfl)) ?_; (with_reducible refine (stanzaref13_Trim.calls k _ _ l0_0 _ _ l0_1 a1_0 a1_1 t524 _ ?side1 ?side2 ?side3 ?side4 A4.out).mono ?_); (case side1 => repeat (first | exact (Kd.C_below HR0_0.out HB.out) | (with_reducible refine Kd.C_alloc ?_ _) | (with_reducible refine Kd.C_drewN ?_ _) | (with_reducible refine Kd.C_drew ?_))); (case side2 => exact HC0_0.out); (case side3 => repeat (first | exact (Kd.C_below HR0_1.out HB.out) | (with_reducible refine Kd.C_alloc ?_ _) | (with_reducible refine Kd.C_drewN ?_ _) | (with_reducible refine Kd.C_drew ?_))); (case side4 => exact HC0_1.out); rintro e w15 ⟨rfl, hb⟩; refine ⟨_, rfl, ?_⟩; have n0_ := zA.mk (zK (g := gb521) (o := .cells #[.slice A0_0 l0_0.length c0_0, .slice A0_1 l0_1.length c0_1] 35 (0, 0)) (by (with_reducible repeat (first | refine zB ?_ _ | refine zE ?_ | refine zC ?_ _)); exact BK521.out) hb); have n1_ := zA.mk (zK (g := gb522) (o := .cells #[.int .i64 a1_0, .int .i64 a1_1, .int .i64 a1_2, .int .u8 a1_3] 63 (0, 0)) (by (with_reducible repeat (first | refine zB ?_ _ | refine zE ?_ | refine zC ?_ _)); exact BK522.out) hb); have n2_ := zA.mk (zK (g := gb523) (o := .cells #[.int .i64 a2_0, .int .i64 a2_1, .int .u8 a2_2, .int .i64 a2_3, .int .i64 a2_4, .float .f64 a2_5] 58 (0, 0)) (by (with_reducible repeat (first | refine zB ?_ _ | refine zE ?_ | refine zC ?_ _)); exact BK523.out) hb); have n3_ := zA.mk (zO (by repeat (first | (with_reducible first | exact HB.out | apply zI | apply zF | apply zH | refine zD ?_ GE521.out | refine zD ?_ GE522.out | refine zD ?_ GE523.out) | exact HB.out)) hb); clear BK521; clear BK522; clear BK523; clear HB; have BK521 := n0_; have BK522 := n1_; have BK523 := n2_; have HB := n3_; clear n0_ n1_ n2_ n3_; (try clear hb); (try clear hb2); (try clear hk); (try clear hi); have hcz16_0 : w15.cell? ⟨gb521, 0, none⟩ = some (.slice A0_0 l0_0.length c0_0) := (zG BK521.out 0).trans rfl; have hcz16_1 : w15.cell? ⟨gb521, 1, none⟩ = some (.slice A0_1 l0_1.length c0_1) := (zG BK521.out 1).trans rfl; have hfz16_0 := zJ BK521.out 0; have hfz16_1 := zJ BK521.out 1; have hcz17_0 : w15.cell? ⟨gb522, 0, none⟩ = some (.int .i64 a1_0) := (zG BK522.out 0).trans rfl; have hcz17_1 : w15.cell? ⟨gb522, 1, none⟩ = some (.int .i64 a1_1) := (zG BK522.out 1).trans rfl; have hcz17_2 : w15.cell? ⟨gb522, 2, none⟩ = some (.int .i64 a1_2) := (zG BK522.out 2).trans rfl; have hcz17_3 : w15.cell? ⟨gb522, 3, none⟩ = some (.int .u8 a1_3) := (zG BK522.out 3).trans rfl; have hfz17_0 := zJ BK522.out 0; have hfz17_1 := zJ BK522.out 1; have hfz17_2 := zJ BK522.out 2; have hfz17_3 := zJ BK522.out 3; have hcz18_0 : w15.cell? ⟨gb523, 0, none⟩ = some (.int .i64 a2_0) := (zG BK523.out 0).trans rfl; have hcz18_1 : w15.cell? ⟨gb523, 1, none⟩ = some (.int .i64 a2_1) := (zG BK523.out 1).trans rfl; have hcz18_2 : w15.cell? ⟨gb523, 2, none⟩ = some (.int .u8 a2_2) := (zG BK523.out 2).trans rfl; have hcz18_3 : w15.cell? ⟨gb523, 3, none⟩ = some (.int .i64 a2_3) := (zG BK523.out 3).trans rfl; have hcz18_4 : w15.cell? ⟨gb523, 4, none⟩ = some (.int .i64 a2_4) := (zG BK523.out 4).trans rfl; have hcz18_5 : w15.cell? ⟨gb523, 5, none⟩ = some (.float .f64 a2_5) := (zG BK523.out 5).trans rfl; have hfz18_0 := zJ BK523.out 0; have hfz18_1 := zJ BK523.out 1; have hfz18_2 := zJ BK523.out 2; have hfz18_3 := zJ BK523.out 3; have hfz18_4 := zJ BK523.out 4; have hfz18_5 := zJ BK523.out 5) | ((with_reducible refine gate_callee (f := 24) rfl ?_); refine goesL_ (some 26) rfl rfl Try.func24 (by kernel_rfl) rfl #[.agg #[.slice A0_0 l0_0.length c0_0, .slice A0_1 l0_1.length c0_1], .int .i64 a1_0, .int .i64 t524, .int .i64 a2_1] rfl (by (try simp only [List.map_toArray, List.map_cons, List.map_nil]); first | done | rfl | (simp only [List.length_drop, List.length_take]; rfl)) ?_; (with_reducible refine (stanzaref13_Columns.calls k _ _ l0_0 _ _ l0_1 a1_0 t524 a2_1 t525 _ ?side1 ?side2 ?side3 ?side4 A5.out).mono ?_); (case side1 => repeat (first | exact (Kd.C_below HR0_0.out HB.out) | (with_reducible refine Kd.C_alloc ?_ _) | (with_reducible refine Kd.C_drewN ?_ _) | (with_reducible refine Kd.C_drew ?_))); (case side2 => exact HC0_0.out); (case side3 => repeat (first | exact (Kd.C_below HR0_1.out HB.out) | (with_reducible refine Kd.C_alloc ?_ _) | (with_reducible refine Kd.C_drewN ?_ _) | (with_reducible refine Kd.C_drew ?_))); (case side4 => exact HC0_1.out); rintro e w19 ⟨v526, rfl, ho0, hb⟩; refine ⟨_, rfl, ?_⟩; have n0_ := zA.mk (Kd.R_lower ho0 (zL (by repeat (first | (with_reducible first | exact HB.out | apply zI | apply zF | apply zH | refine zD ?_ GE521.out | refine zD ?_ GE522.out | refine zD ?_ GE523.out) | exact HB.out)))); have n1_ := zA.mk (zK (g := gb521) (o := .cells #[.slice A0_0 l0_0.length c0_0, .slice A0_1 l0_1.length c0_1] 35 (0, 0)) (by (with_reducible repeat (first | refine zB ?_ _ | refine zE ?_ | refine zC ?_ _)); exact BK521.out) hb); have n2_ := zA.mk (zK (g := gb522) (o := .cells #[.int .i64 a1_0, .int .i64 a1_1, .int .i64 a1_2, .int .u8 a1_3] 63 (0, 0)) (by (with_reducible repeat (first | refine zB ?_ _ | refine zE ?_ | refine zC ?_ _)); exact BK522.out) hb); have n3_ := zA.mk (zK (g := gb523) (o := .cells #[.int .i64 a2_0, .int .i64 a2_1, .int .u8 a2_2, .int .i64 a2_3, .int .i64 a2_4, .float .f64 a2_5] 58 (0, 0)) (by (with_reducible repeat (first | refine zB ?_ _ | refine zE ?_ | refine zC ?_ _)); exact BK523.out) hb); have n4_ := zA.mk (zO (by repeat (first | (with_reducible first | exact HB.out | apply zI | apply zF | apply zH | refine zD ?_ GE521.out | refine zD ?_ GE522.out | refine zD ?_ GE523.out) | exact HB.out)) hb); clear BK521; clear BK522; clear BK523; clear HB; have HO527 := n0_; have BK521 := n1_; have BK522 := n2_; have BK523 := n3_; have HB := n4_; clear n0_ n1_ n2_ n3_ n4_; (try clear hb); (try clear hb2); (try clear hk); (try clear hi); (try clear ho0)))
  (try simp only [Act.put, List.setIfInBounds_toArray, List.set_cons_zero, List.set_cons_succ])
  go_cut [34] (fun v34 wc => ∃ (kq : Nat) (x34_5 : Bool), v34 = .bool x34_5 ∧ zA (stanzaref13_Wide.j0 kq t524 t525 ([] : List Int) x34_5 l0_0 l0_1 a1_0 a1_1 a1_2 a1_3 a2_0 a2_1 a2_2 a2_3 a2_4 a2_5 = some r) ∧ zA (kq ≤ k) ∧ zA (Kd.R (Kd.int .i64) 3 wc w.heap.size (fun k_ => some k_ ≠ ((.slice none 0 0) : Value).ownBlock) v526 t525) ∧ zA (Kd.R (Kd.int .i64) 3 wc w.heap.size (fun k_ => some k_ ≠ (v526 : Value).ownBlock) (.slice none 0 0) ([] : List Int)) ∧ zA (wc.heap[gb521]? = some (.cells #[(.slice A0_0 l0_0.length c0_0), (.slice A0_1 l0_1.length c0_1)] 35 (0, 0))) ∧ zA (wc.heap[gb522]? = some (.cells #[.int .i64 a1_0, .int .i64 a1_1, .int .i64 a1_2, .int .u8 a1_3] 63 (0, 0))) ∧ zA (wc.heap[gb523]? = some (.cells #[.int .i64 a2_0, .int .i64 a2_1, .int .u8 a2_2, .int .i64 a2_3, .int .i64 a2_4, .float .f64 a2_5] 58 (0, 0))) ∧ zA (Below w.heap.size w wc))
  case first =>
    have H := HC6.out; clear HC6; by_cases c20 : a1_3 = 2
    · rw [if_pos c20] at H
      have c20b0 : (a1_3 == 2) = true := beq_iff_eq.mpr c20
      have c20b1 : (a1_3 != 2) = false := bne_eq_false_iff_eq.mpr c20
      clear c20; (first | rw [c20b0] | (simp only [zM, zN]; rw [c20b0]) | skip)
      have H' := zA.mk H
      clear H; have hnb21 := NB522_521.out; have hnc21 := NB521_522.out; have hnb22 := NB522_523.out; have hnc22 := NB523_522.out; have hcz23_0 : w19.cell? ⟨gb522, 0, none⟩ = some (.int .i64 a1_0) := (zG BK522.out 0).trans rfl
      have hcz23_1 : w19.cell? ⟨gb522, 1, none⟩ = some (.int .i64 a1_1) := (zG BK522.out 1).trans rfl
      have hcz23_2 : w19.cell? ⟨gb522, 2, none⟩ = some (.int .i64 a1_2) := (zG BK522.out 2).trans rfl
      have hcz23_3 : w19.cell? ⟨gb522, 3, none⟩ = some (.int .u8 a1_3) := (zG BK522.out 3).trans rfl
      have hfz23_0 := zJ BK522.out 0; have hfz23_1 := zJ BK522.out 1; have hfz23_2 := zJ BK522.out 2; have hfz23_3 := zJ BK522.out 3; go_wp2
      go_meet
      case rel => exact ⟨_, (false), (by first | rfl | (simp; done) | (simp [*]; done)), H', ⟨by first | omega | exact Nat.le_refl _⟩, ⟨by (with_reducible repeat (first | apply Kd.R_alloc | apply Kd.R_drewN | apply Kd.R_drew)); exact Kd.R_mono HO527.out (fun _ hk => (by simp [Value.ownBlock]))⟩, ⟨by first | exact Kd.R_nil _ _ _ _ _ | exact Kd.N_nil _ _ _ _ _ | exact Kd.V_nil _ _ _ _ _ | exact Kd.Q_nil _ _ _ _ _ | exact Kd.S_nil _ _ _ _ _⟩, ⟨by (with_reducible repeat (first | refine zB ?_ _ | refine zE ?_ | refine zC ?_ _)); exact BK521.out⟩, ⟨by (with_reducible repeat (first | refine zB ?_ _ | refine zE ?_ | refine zC ?_ _)); exact BK522.out⟩, ⟨by (with_reducible repeat (first | refine zB ?_ _ | refine zE ?_ | refine zC ?_ _)); exact BK523.out⟩, ⟨by repeat (first | (with_reducible first | exact HB.out | apply zI | apply zF | apply zH | refine zD ?_ GE521.out | refine zD ?_ GE522.out | refine zD ?_ GE523.out) | exact HB.out)⟩⟩
    · rw [if_neg c20] at H
      have c20b0 : (a1_3 == 2) = false := beq_eq_false_iff_ne.mpr c20
      have c20b1 : (a1_3 != 2) = true := bne_iff_ne.mpr c20
      (first | rw [c20b0] | (simp only [zM, zN]; rw [c20b0]) | skip)
      have H' := zA.mk H
      clear H; have hnb24 := NB522_521.out; have hnc24 := NB521_522.out; have hnb25 := NB522_523.out; have hnc25 := NB523_522.out; have hcz26_0 : w19.cell? ⟨gb522, 0, none⟩ = some (.int .i64 a1_0) := (zG BK522.out 0).trans rfl
      have hcz26_1 : w19.cell? ⟨gb522, 1, none⟩ = some (.int .i64 a1_1) := (zG BK522.out 1).trans rfl
      have hcz26_2 : w19.cell? ⟨gb522, 2, none⟩ = some (.int .i64 a1_2) := (zG BK522.out 2).trans rfl
      have hcz26_3 : w19.cell? ⟨gb522, 3, none⟩ = some (.int .u8 a1_3) := (zG BK522.out 3).trans rfl
      have hfz26_0 := zJ BK522.out 0; have hfz26_1 := zJ BK522.out 1; have hfz26_2 := zJ BK522.out 2; have hfz26_3 := zJ BK522.out 3; go_wp2
      go_meet
      case rel => exact ⟨_, ((a1_3 != 4)), (by first | rfl | (simp; done) | (simp [*]; done)), H', ⟨by first | omega | exact Nat.le_refl _⟩, ⟨by (with_reducible repeat (first | apply Kd.R_alloc | apply Kd.R_drewN | apply Kd.R_drew)); exact Kd.R_mono HO527.out (fun _ hk => (by simp [Value.ownBlock]))⟩, ⟨by first | exact Kd.R_nil _ _ _ _ _ | exact Kd.N_nil _ _ _ _ _ | exact Kd.V_nil _ _ _ _ _ | exact Kd.Q_nil _ _ _ _ _ | exact Kd.S_nil _ _ _ _ _⟩, ⟨by (with_reducible repeat (first | refine zB ?_ _ | refine zE ?_ | refine zC ?_ _)); exact BK521.out⟩, ⟨by (with_reducible repeat (first | refine zB ?_ _ | refine zE ?_ | refine zC ?_ _)); exact BK522.out⟩, ⟨by (with_reducible repeat (first | refine zB ?_ _ | refine zE ?_ | refine zC ?_ _)); exact BK523.out⟩, ⟨by repeat (first | (with_reducible first | exact HB.out | apply zI | apply zF | apply zH | refine zD ?_ GE521.out | refine zD ?_ GE522.out | refine zD ?_ GE523.out) | exact HB.out)⟩⟩
  case rest =>
    clear HC6; try clear c1
    try clear c2
    try clear p2
    try clear c3
    try clear c10
    try clear c11
    try clear c13
    try clear c20
    try clear c20b0
    try clear c20b1
    try clear c21
    try clear c22
    try clear c24
    try clear c25
    try clear hcz12_0
    try clear hcz12_1
    try clear hcz14_0
    try clear hcz14_1
    try clear hcz14_2
    try clear hcz14_3
    try clear hcz16_0
    try clear hcz16_1
    try clear hcz17_0
    try clear hcz17_1
    try clear hcz17_2
    try clear hcz17_3
    try clear hcz18_0
    try clear hcz18_1
    try clear hcz18_2
    try clear hcz18_3
    try clear hcz18_4
    try clear hcz18_5
    try clear hcz23_0
    try clear hcz23_1
    try clear hcz23_2
    try clear hcz23_3
    try clear hcz26_0
    try clear hcz26_1
    try clear hcz26_2
    try clear hcz26_3
    try clear hfz12_0
    try clear hfz12_1
    try clear hfz14_0
    try clear hfz14_1
    try clear hfz14_2
    try clear hfz14_3
    try clear hfz16_0
    try clear hfz16_1
    try clear hfz17_0
    try clear hfz17_1
    try clear hfz17_2
    try clear hfz17_3
    try clear hfz18_0
    try clear hfz18_1
    try clear hfz18_2
    try clear hfz18_3
    try clear hfz18_4
    try clear hfz18_5
    try clear hfz23_0
    try clear hfz23_1
    try clear hfz23_2
    try clear hfz23_3
    try clear hfz26_0
    try clear hfz26_1
    try clear hfz26_2
    try clear hfz26_3
    obtain ⟨kq, x34_5, rfl, HA, HJ5, HO_8, HO_9, BK521, BK522, BK523, HB⟩ := hcut; cases kq with
    | zero => exact absurd HA.out (by simp [stanzaref13_Wide.j0])
    | succ kj5 =>
      have H := HA.out; clear HA; simp only [stanzaref13_Wide.j0] at H; have HC27 := zA.mk H; clear H; go_upto_if 34 with (fail)
      go_cut [9] (fun v9 wc => ∃ (kq : Nat) (x9_26 : List Int), zA (stanzaref13_Wide.j1 kq t524 t525 x9_26 l0_0 l0_1 a1_0 a1_1 a1_2 a1_3 = some r) ∧ zA (kq ≤ kj5) ∧ zA (Kd.R (Kd.int .i64) 3 wc w.heap.size (fun k_ => some k_ ≠ (v9 : Value).ownBlock) v526 t525) ∧ zA (Kd.R (Kd.int .i64) 3 wc w.heap.size (fun k_ => some k_ ≠ (v526 : Value).ownBlock) v9 x9_26) ∧ zA (wc.heap[gb521]? = some (.cells #[(.slice A0_0 l0_0.length c0_0), (.slice A0_1 l0_1.length c0_1)] 35 (0, 0))) ∧ zA (wc.heap[gb522]? = some (.cells #[.int .i64 a1_0, .int .i64 a1_1, .int .i64 a1_2, .int .u8 a1_3] 63 (0, 0))) ∧ zA (wc.heap[gb523]? = some (.cells #[.int .i64 a2_0, .int .i64 a2_1, .int .u8 a2_2, .int .i64 a2_3, .int .i64 a2_4, .float .f64 a2_5] 58 (0, 0))) ∧ zA (Below w.heap.size w wc))
      case first =>
        have H := HC27.out; clear HC27; by_cases c28 : x34_5 = true
        · subst c28
          have H1 : ((stanzaref13_Cells.f kj5 l0_0 l0_1 a1_0 a1_1 a1_3 a2_1).bind fun t528 => ((stanzaref13_Gaps.f kj5 l0_0 l0_1 a1_0 a1_1).bind fun t529 => ((stanzaref13_Spread.f kj5 (wrap64 (a2_0 - t528)) t529).bind fun t530 => (stanzaref13_Wide.j1 kj5 t524 t525 t530 l0_0 l0_1 a1_0 a1_1 a1_2 a1_3)))) = some r := by rw [if_pos rfl] at H; exact H
          clear H; have H := H1; clear H1; replace H := Option.bind_eq_some_iff.mp H; obtain ⟨t528, A290, H⟩ := H; replace H : ((stanzaref13_Gaps.f kj5 l0_0 l0_1 a1_0 a1_1).bind fun t529 => ((stanzaref13_Spread.f kj5 (wrap64 (a2_0 - t528)) t529).bind fun t530 => (stanzaref13_Wide.j1 kj5 t524 t525 t530 l0_0 l0_1 a1_0 a1_1 a1_2 a1_3))) = some r := H
          have A29 := zA.mk A290; clear A290; replace H := Option.bind_eq_some_iff.mp H; obtain ⟨t529, A300, H⟩ := H; replace H : ((stanzaref13_Spread.f kj5 (wrap64 (a2_0 - t528)) t529).bind fun t530 => (stanzaref13_Wide.j1 kj5 t524 t525 t530 l0_0 l0_1 a1_0 a1_1 a1_2 a1_3)) = some r := H
          have A30 := zA.mk A300; clear A300; replace H := Option.bind_eq_some_iff.mp H; obtain ⟨t530, A310, H⟩ := H; replace H : (stanzaref13_Wide.j1 kj5 t524 t525 t530 l0_0 l0_1 a1_0 a1_1 a1_2 a1_3) = some r := H; have A31 := zA.mk A310; clear A310; have H' := zA.mk H
          clear H; try go_wp2
          have n0_ := zA.mk (Kd.R_drew HO_8.out); have n1_ := zA.mk (Kd.R_drew HO_9.out); have n2_ := zA.mk (zE BK521.out); have n3_ := zA.mk (zE BK522.out); have n4_ := zA.mk (zE BK523.out); have n5_ := zA.mk (zH HB.out); clear HO_8; clear HO_9; clear BK521; clear BK522; clear BK523; clear HB; have HO_8 := n0_; have HO_9 := n1_; have BK521 := n2_; have BK522 := n3_; have BK523 := n4_; have HB := n5_; clear n0_ n1_ n2_ n3_ n4_ n5_; refine start_ (n := 21) (S := fun w' => w'.cell? ⟨gb523, 0, none⟩ = some (.int .i64 a2_0) ∧ w'.cell? ⟨gb523, 1, none⟩ = some (.int .i64 a2_1) ∧ w'.cell? ⟨gb523, 2, none⟩ = some (.int .u8 a2_2) ∧ w'.cell? ⟨gb523, 3, none⟩ = some (.int .i64 a2_3) ∧ w'.cell? ⟨gb523, 4, none⟩ = some (.int .i64 a2_4) ∧ w'.cell? ⟨gb523, 5, none⟩ = some (.float .f64 a2_5) ∧ w'.cell? ⟨gb521, 0, none⟩ = some (.slice A0_0 l0_0.length c0_0) ∧ w'.cell? ⟨gb521, 1, none⟩ = some (.slice A0_1 l0_1.length c0_1) ∧ w'.cell? ⟨gb522, 0, none⟩ = some (.int .i64 a1_0) ∧ w'.cell? ⟨gb522, 1, none⟩ = some (.int .i64 a1_1) ∧ w'.cell? ⟨gb522, 2, none⟩ = some (.int .i64 a1_2) ∧ w'.cell? ⟨gb522, 3, none⟩ = some (.int .u8 a1_3)) (ds := []) #[false, false, false, false, false, false, false, false, false, false, false, false, false, false, false, false, false, false, false, false, false] (by kernel_rfl) rfl rfl ⟨(zG BK523.out 0).trans rfl, (zG BK523.out 1).trans rfl, (zG BK523.out 2).trans rfl, (zG BK523.out 3).trans rfl, (zG BK523.out 4).trans rfl, (zG BK523.out 5).trans rfl, (zG BK521.out 0).trans rfl, (zG BK521.out 1).trans rfl, (zG BK522.out 0).trans rfl, (zG BK522.out 1).trans rfl, (zG BK522.out 2).trans rfl, (zG BK522.out 3).trans rfl⟩ (fun hHeld => ?_); refine with_tabW stanzaref13_Wide.tab5 stanzaref13_Wide.bits5 (fun HT_ HW_ => ?_)
          generalize wc.drew = w32 at HO_8 HO_9 BK521 BK522 BK523 HB hHeld ⊢
          refine pure_ (i := 0) (N := some 35) (v := ?_) (a' := ?_) #[true, false, false, false, false, false, false, false, false, false, false, false, false, false, false, false, false, false, false, false, false] rfl rfl (any_of HT_.out (by kernel_rfl)) (fun _ _ _ h => h) (Or.inl ⟨by rfl, ?_⟩) ?_ ?_
          rotate_left
          · intro w'
            go_simp
            with_reducible rfl
          rotate_left
          · simp only [Act.put, List.setIfInBounds_toArray, List.set_cons_zero, List.set_cons_succ, zM, zN]
            rfl
          refine pure_ (i := 3) (N := some 38) (v := ?_) (a' := ?_) #[true, false, false, true, false, false, false, false, false, false, false, false, false, false, false, false, false, false, false, false, false] rfl rfl (any_of HT_.out (by kernel_rfl)) (fun _ _ _ h => h) (Or.inl ⟨by rfl, ?_⟩) ?_ ?_
          rotate_left
          · intro w'
            go_simp
            with_reducible rfl
          rotate_left
          · simp only [Act.put, List.setIfInBounds_toArray, List.set_cons_zero, List.set_cons_succ, zM, zN]
            rfl
          refine pure_ (i := 5) (N := some 40) (v := ?_) (a' := ?_) #[true, false, false, true, false, true, false, false, false, false, false, false, false, false, false, false, false, false, false, false, false] rfl rfl (any_of HT_.out (by kernel_rfl)) (fun _ _ _ h => h) (Or.inl ⟨by rfl, ?_⟩) ?_ ?_
          rotate_left
          · intro w'
            go_simp
            with_reducible rfl
          rotate_left
          · simp only [Act.put, List.setIfInBounds_toArray, List.set_cons_zero, List.set_cons_succ, zM, zN]
            rfl
          refine pure_ (i := 7) (N := some 42) (v := ?_) (a' := ?_) #[true, false, false, true, false, true, false, true, false, false, false, false, false, false, false, false, false, false, false, false, false] rfl rfl (any_of HT_.out (by kernel_rfl)) (fun _ _ _ h => h) (Or.inl ⟨by rfl, ?_⟩) ?_ ?_
          rotate_left
          · intro w'
            go_simp
            with_reducible rfl
          rotate_left
          · simp only [Act.put, List.setIfInBounds_toArray, List.set_cons_zero, List.set_cons_succ, zM, zN]
            rfl
          refine pure_ (i := 9) (N := some 44) (v := ?_) (a' := ?_) #[true, false, false, true, false, true, false, true, false, true, false, false, false, false, false, false, false, false, false, false, false] rfl rfl (any_of HT_.out (by kernel_rfl)) (fun _ _ _ h => h) (Or.inl ⟨by rfl, ?_⟩) ?_ ?_
          rotate_left
          · intro w'
            go_simp
            with_reducible rfl
          rotate_left
          · simp only [Act.put, List.setIfInBounds_toArray, List.set_cons_zero, List.set_cons_succ, zM, zN]
            rfl
          refine pure_ (i := 14) (N := some 49) (v := ?_) (a' := ?_) #[true, false, false, true, false, true, false, true, false, true, false, false, false, false, true, false, false, false, false, false, false] rfl rfl (any_of HT_.out (by kernel_rfl)) (fun _ _ _ h => h) (Or.inl ⟨by rfl, ?_⟩) ?_ ?_
          rotate_left
          · intro w'
            go_simp
            with_reducible rfl
          rotate_left
          · simp only [Act.put, List.setIfInBounds_toArray, List.set_cons_zero, List.set_cons_succ, zM, zN]
            rfl
          refine pure_ (i := 16) (N := some 51) (v := ?_) (a' := ?_) #[true, false, false, true, false, true, false, true, false, true, false, false, false, false, true, false, true, false, false, false, false] rfl rfl (any_of HT_.out (by kernel_rfl)) (fun _ _ _ h => h) (Or.inl ⟨by rfl, ?_⟩) ?_ ?_
          rotate_left
          · intro w'
            go_simp
            with_reducible rfl
          rotate_left
          · simp only [Act.put, List.setIfInBounds_toArray, List.set_cons_zero, List.set_cons_succ, zM, zN]
            rfl
          refine take_ (i := 1) (N := some 36) (v := ?_) (a' := ?_) #[true, true, false, true, false, true, false, true, false, true, false, false, false, false, true, false, true, false, false, false, false] rfl rfl (take_ofW HT_.out HW_.out (by kernel_rfl)) (fun _ _ _ h => h) (Or.inl ⟨by rfl, ?_⟩) hHeld ?_ ?_
          rotate_left
          · rintro w' ⟨s0, s1, s2, s3, s4, s5, s6, s7, s8, s9, s10, s11⟩
            go_simp
            with_reducible rfl
          rotate_left
          · simp only [Act.put, List.setIfInBounds_toArray, List.set_cons_zero, List.set_cons_succ, zM, zN]
            rfl
          refine take_ (i := 2) (N := some 37) (v := ?_) (a' := ?_) #[true, true, true, true, false, true, false, true, false, true, false, false, false, false, true, false, true, false, false, false, false] rfl rfl (take_ofW HT_.out HW_.out (by kernel_rfl)) (fun _ _ _ h => h) (Or.inl ⟨by rfl, ?_⟩) hHeld ?_ ?_
          rotate_left
          · rintro w' ⟨s0, s1, s2, s3, s4, s5, s6, s7, s8, s9, s10, s11⟩
            go_simp
            with_reducible rfl
          rotate_left
          · simp only [Act.put, List.setIfInBounds_toArray, List.set_cons_zero, List.set_cons_succ, zM, zN]
            rfl
          refine take_ (i := 4) (N := some 39) (v := ?_) (a' := ?_) #[true, true, true, true, true, true, false, true, false, true, false, false, false, false, true, false, true, false, false, false, false] rfl rfl (take_ofW HT_.out HW_.out (by kernel_rfl)) (fun _ _ _ h => h) (Or.inl ⟨by rfl, ?_⟩) hHeld ?_ ?_
          rotate_left
          · rintro w' ⟨s0, s1, s2, s3, s4, s5, s6, s7, s8, s9, s10, s11⟩
            go_simp
            with_reducible rfl
          rotate_left
          · simp only [Act.put, List.setIfInBounds_toArray, List.set_cons_zero, List.set_cons_succ, zM, zN]
            rfl
          refine take_ (i := 6) (N := some 41) (v := ?_) (a' := ?_) #[true, true, true, true, true, true, true, true, false, true, false, false, false, false, true, false, true, false, false, false, false] rfl rfl (take_ofW HT_.out HW_.out (by kernel_rfl)) (fun _ _ _ h => h) (Or.inl ⟨by rfl, ?_⟩) hHeld ?_ ?_
          rotate_left
          · rintro w' ⟨s0, s1, s2, s3, s4, s5, s6, s7, s8, s9, s10, s11⟩
            go_simp
            with_reducible rfl
          rotate_left
          · simp only [Act.put, List.setIfInBounds_toArray, List.set_cons_zero, List.set_cons_succ, zM, zN]
            rfl
          refine take_ (i := 8) (N := some 43) (v := ?_) (a' := ?_) #[true, true, true, true, true, true, true, true, true, true, false, false, false, false, true, false, true, false, false, false, false] rfl rfl (take_ofW HT_.out HW_.out (by kernel_rfl)) (fun _ _ _ h => h) (Or.inl ⟨by rfl, ?_⟩) hHeld ?_ ?_
          rotate_left
          · rintro w' ⟨s0, s1, s2, s3, s4, s5, s6, s7, s8, s9, s10, s11⟩
            go_simp
            with_reducible rfl
          rotate_left
          · simp only [Act.put, List.setIfInBounds_toArray, List.set_cons_zero, List.set_cons_succ, zM, zN]
            rfl
          refine take_ (i := 10) (N := some 45) (v := ?_) (a' := ?_) #[true, true, true, true, true, true, true, true, true, true, true, false, false, false, true, false, true, false, false, false, false] rfl rfl (take_ofW HT_.out HW_.out (by kernel_rfl)) (fun _ _ _ h => h) (Or.inl ⟨by rfl, ?_⟩) hHeld ?_ ?_
          rotate_left
          · rintro w' ⟨s0, s1, s2, s3, s4, s5, s6, s7, s8, s9, s10, s11⟩
            go_simp
            with_reducible rfl
          rotate_left
          · simp only [Act.put, List.setIfInBounds_toArray, List.set_cons_zero, List.set_cons_succ, zM, zN]
            rfl
          refine take_ (i := 13) (N := some 48) (v := ?_) (a' := ?_) #[true, true, true, true, true, true, true, true, true, true, true, false, false, true, true, false, true, false, false, false, false] rfl rfl (take_ofW HT_.out HW_.out (by kernel_rfl)) (fun _ _ _ h => h) (Or.inl ⟨by rfl, ?_⟩) hHeld ?_ ?_
          rotate_left
          · rintro w' ⟨s0, s1, s2, s3, s4, s5, s6, s7, s8, s9, s10, s11⟩
            go_simp
            with_reducible rfl
          rotate_left
          · simp only [Act.put, List.setIfInBounds_toArray, List.set_cons_zero, List.set_cons_succ, zM, zN]
            rfl
          refine take_ (i := 15) (N := some 50) (v := ?_) (a' := ?_) #[true, true, true, true, true, true, true, true, true, true, true, false, false, true, true, true, true, false, false, false, false] rfl rfl (take_ofW HT_.out HW_.out (by kernel_rfl)) (fun _ _ _ h => h) (Or.inl ⟨by rfl, ?_⟩) hHeld ?_ ?_
          rotate_left
          · rintro w' ⟨s0, s1, s2, s3, s4, s5, s6, s7, s8, s9, s10, s11⟩
            go_simp
            with_reducible rfl
          rotate_left
          · simp only [Act.put, List.setIfInBounds_toArray, List.set_cons_zero, List.set_cons_succ, zM, zN]
            rfl
          refine take_ (i := 17) (N := some 52) (v := ?_) (a' := ?_) #[true, true, true, true, true, true, true, true, true, true, true, false, false, true, true, true, true, true, false, false, false] rfl rfl (take_ofW HT_.out HW_.out (by kernel_rfl)) (fun _ _ _ h => h) (Or.inl ⟨by rfl, ?_⟩) hHeld ?_ ?_
          rotate_left
          · rintro w' ⟨s0, s1, s2, s3, s4, s5, s6, s7, s8, s9, s10, s11⟩
            go_simp
            with_reducible rfl
          rotate_left
          · simp only [Act.put, List.setIfInBounds_toArray, List.set_cons_zero, List.set_cons_succ, zM, zN]
            rfl
          refine one_ (i := 11) (N := some 46) #[true, true, true, true, true, true, true, true, true, true, true, true, false, true, true, true, true, true, false, false, false] rfl rfl (one_of HT_.out (by kernel_rfl)) (by decide) (fun K hK => ?_)
          refine goes_ Try.func32 (by kernel_rfl) rfl #[.agg #[.slice A0_0 l0_0.length c0_0, .slice A0_1 l0_1.length c0_1], .int .i64 a1_0, .int .i64 a1_1, .int .u8 a1_3, .int .i64 a2_1] (by rfl) rfl rfl (by (try simp only [List.map_toArray, List.map_cons, List.map_nil]); first | done | rfl | (simp only [List.length_drop, List.length_take]; rfl)) ?_
          with_reducible refine (stanzaref13_Cells.calls kj5 _ _ l0_0 _ _ l0_1 a1_0 a1_1 a1_3 a2_1 t528 _ ?side1 ?side2 ?side3 ?side4 A29.out).mono ?_
          (case side1 => repeat (first | exact (Kd.C_below HR0_0.out HB.out) | (with_reducible refine Kd.C_alloc ?_ _) | (with_reducible refine Kd.C_drewN ?_ _) | (with_reducible refine Kd.C_drew ?_)))
          (case side2 => exact HC0_0.out)
          (case side3 => repeat (first | exact (Kd.C_below HR0_1.out HB.out) | (with_reducible refine Kd.C_alloc ?_ _) | (with_reducible refine Kd.C_drewN ?_ _) | (with_reducible refine Kd.C_drew ?_)))
          (case side4 => exact HC0_1.out)
          rintro e w33 ⟨rfl, hb⟩
          refine ⟨_, rfl, ?_⟩
          have n0_ := zA.mk (Kd.R_below (by (with_reducible repeat (first | apply Kd.R_alloc | apply Kd.R_drewN | apply Kd.R_drew)); exact HO_8.out) hb)
          have n1_ := zA.mk (Kd.R_below (by (with_reducible repeat (first | apply Kd.R_alloc | apply Kd.R_drewN | apply Kd.R_drew)); exact HO_9.out) hb)
          have n2_ := zA.mk (zK (g := gb521) (o := .cells #[.slice A0_0 l0_0.length c0_0, .slice A0_1 l0_1.length c0_1] 35 (0, 0)) (by (with_reducible repeat (first | refine zB ?_ _ | refine zE ?_ | refine zC ?_ _)); exact BK521.out) hb)
          have n3_ := zA.mk (zK (g := gb522) (o := .cells #[.int .i64 a1_0, .int .i64 a1_1, .int .i64 a1_2, .int .u8 a1_3] 63 (0, 0)) (by (with_reducible repeat (first | refine zB ?_ _ | refine zE ?_ | refine zC ?_ _)); exact BK522.out) hb)
          have n4_ := zA.mk (zK (g := gb523) (o := .cells #[.int .i64 a2_0, .int .i64 a2_1, .int .u8 a2_2, .int .i64 a2_3, .int .i64 a2_4, .float .f64 a2_5] 58 (0, 0)) (by (with_reducible repeat (first | refine zB ?_ _ | refine zE ?_ | refine zC ?_ _)); exact BK523.out) hb)
          have n5_ := zA.mk (zO (by repeat (first | (with_reducible first | exact HB.out | apply zI | apply zF | apply zH | refine zD ?_ GE521.out | refine zD ?_ GE522.out | refine zD ?_ GE523.out) | exact HB.out)) hb)
          clear HO_8 HO_9 BK521 BK522 BK523 HB; have HO_8 := n0_; have HO_9 := n1_; have BK521 := n2_; have BK522 := n3_; have BK523 := n4_; have HB := n5_; clear n0_ n1_ n2_ n3_ n4_ n5_; (try clear hb)
          (try clear hb2)
          (try clear hk)
          (try clear hi)
          refine hK.out _ _ ⟨(zG BK523.out 0).trans rfl, (zG BK523.out 1).trans rfl, (zG BK523.out 2).trans rfl, (zG BK523.out 3).trans rfl, (zG BK523.out 4).trans rfl, (zG BK523.out 5).trans rfl, (zG BK521.out 0).trans rfl, (zG BK521.out 1).trans rfl, (zG BK522.out 0).trans rfl, (zG BK522.out 1).trans rfl, (zG BK522.out 2).trans rfl, (zG BK522.out 3).trans rfl⟩ (fun hHeld => ?_)
          clear hK K; refine norm_ (a' := ?_) ?_ ?_
          rotate_left
          · show Act.put _ (some 46) _ = _
            simp only [Act.put, List.setIfInBounds_toArray, List.set_cons_zero, List.set_cons_succ, zM, zN]; rfl
          refine pure_ (i := 12) (N := some 47) (v := ?_) (a' := ?_) #[true, true, true, true, true, true, true, true, true, true, true, true, true, true, true, true, true, true, false, false, false] rfl rfl (any_of HT_.out (by kernel_rfl)) (fun _ _ _ h => h) (Or.inl ⟨by rfl, ?_⟩) ?_ ?_
          rotate_left
          · intro w'
            go_simp
            with_reducible rfl
          rotate_left
          · simp only [Act.put, List.setIfInBounds_toArray, List.set_cons_zero, List.set_cons_succ, zM, zN]
            rfl
          refine one_ (i := 18) (N := some 53) #[true, true, true, true, true, true, true, true, true, true, true, true, true, true, true, true, true, true, true, false, false] rfl rfl (one_of HT_.out (by kernel_rfl)) (by decide) (fun K hK => ?_)
          refine goes_ Try.func33 (by kernel_rfl) rfl #[.agg #[.slice A0_0 l0_0.length c0_0, .slice A0_1 l0_1.length c0_1], .int .i64 a1_0, .int .i64 a1_1] (by rfl) rfl rfl (by (try simp only [List.map_toArray, List.map_cons, List.map_nil]); first | done | rfl | (simp only [List.length_drop, List.length_take]; rfl)) ?_
          with_reducible refine (stanzaref13_Gaps.calls kj5 _ _ l0_0 _ _ l0_1 a1_0 a1_1 t529 _ ?side1 ?side2 ?side3 ?side4 A30.out).mono ?_
          (case side1 => repeat (first | exact (Kd.C_below HR0_0.out HB.out) | (with_reducible refine Kd.C_alloc ?_ _) | (with_reducible refine Kd.C_drewN ?_ _) | (with_reducible refine Kd.C_drew ?_)))
          (case side2 => exact HC0_0.out)
          (case side3 => repeat (first | exact (Kd.C_below HR0_1.out HB.out) | (with_reducible refine Kd.C_alloc ?_ _) | (with_reducible refine Kd.C_drewN ?_ _) | (with_reducible refine Kd.C_drew ?_)))
          (case side4 => exact HC0_1.out)
          rintro e w34 ⟨rfl, hb⟩
          refine ⟨_, rfl, ?_⟩
          have n0_ := zA.mk (Kd.R_below (by (with_reducible repeat (first | apply Kd.R_alloc | apply Kd.R_drewN | apply Kd.R_drew)); exact HO_8.out) hb)
          have n1_ := zA.mk (Kd.R_below (by (with_reducible repeat (first | apply Kd.R_alloc | apply Kd.R_drewN | apply Kd.R_drew)); exact HO_9.out) hb)
          have n2_ := zA.mk (zK (g := gb521) (o := .cells #[.slice A0_0 l0_0.length c0_0, .slice A0_1 l0_1.length c0_1] 35 (0, 0)) (by (with_reducible repeat (first | refine zB ?_ _ | refine zE ?_ | refine zC ?_ _)); exact BK521.out) hb)
          have n3_ := zA.mk (zK (g := gb522) (o := .cells #[.int .i64 a1_0, .int .i64 a1_1, .int .i64 a1_2, .int .u8 a1_3] 63 (0, 0)) (by (with_reducible repeat (first | refine zB ?_ _ | refine zE ?_ | refine zC ?_ _)); exact BK522.out) hb)
          have n4_ := zA.mk (zK (g := gb523) (o := .cells #[.int .i64 a2_0, .int .i64 a2_1, .int .u8 a2_2, .int .i64 a2_3, .int .i64 a2_4, .float .f64 a2_5] 58 (0, 0)) (by (with_reducible repeat (first | refine zB ?_ _ | refine zE ?_ | refine zC ?_ _)); exact BK523.out) hb)
          have n5_ := zA.mk (zO (by repeat (first | (with_reducible first | exact HB.out | apply zI | apply zF | apply zH | refine zD ?_ GE521.out | refine zD ?_ GE522.out | refine zD ?_ GE523.out) | exact HB.out)) hb)
          clear HO_8 HO_9 BK521 BK522 BK523 HB; have HO_8 := n0_; have HO_9 := n1_; have BK521 := n2_; have BK522 := n3_; have BK523 := n4_; have HB := n5_; clear n0_ n1_ n2_ n3_ n4_ n5_; (try clear hb)
          (try clear hb2)
          (try clear hk)
          (try clear hi)
          refine hK.out _ _ ⟨(zG BK523.out 0).trans rfl, (zG BK523.out 1).trans rfl, (zG BK523.out 2).trans rfl, (zG BK523.out 3).trans rfl, (zG BK523.out 4).trans rfl, (zG BK523.out 5).trans rfl, (zG BK521.out 0).trans rfl, (zG BK521.out 1).trans rfl, (zG BK522.out 0).trans rfl, (zG BK522.out 1).trans rfl, (zG BK522.out 2).trans rfl, (zG BK522.out 3).trans rfl⟩ (fun hHeld => ?_)
          clear hK K; refine norm_ (a' := ?_) ?_ ?_
          rotate_left
          · show Act.put _ (some 53) _ = _
            simp only [Act.put, List.setIfInBounds_toArray, List.set_cons_zero, List.set_cons_succ, zM, zN]; rfl
          refine one_ (i := 19) (N := some 54) #[true, true, true, true, true, true, true, true, true, true, true, true, true, true, true, true, true, true, true, true, false] rfl rfl (one_of HT_.out (by kernel_rfl)) (by decide) (fun K hK => ?_)
          refine goes_ Try.func17 (by kernel_rfl) rfl #[.int .i64 (wrap64 (a2_0 - t528)), .int .i64 t529] (by rfl) rfl rfl (by (try simp only [List.map_toArray, List.map_cons, List.map_nil]); first | done | rfl | (simp only [List.length_drop, List.length_take]; rfl)) ?_
          with_reducible refine (stanzaref13_Spread.calls kj5 (wrap64 (a2_0 - t528)) t529 t530 _ A31.out).mono ?_
          rintro e w35 ⟨v531, rfl, ho0, hb⟩
          refine ⟨_, rfl, ?_⟩
          have n0_ := zA.mk (Kd.R_elder' (by (with_reducible repeat (first | apply Kd.R_alloc | apply Kd.R_drewN | apply Kd.R_drew)); exact HO_8.out) (Kd.R_base ho0) hb)
          have n1_ := zA.mk (Kd.R_elder' (by (with_reducible repeat (first | apply Kd.R_alloc | apply Kd.R_drewN | apply Kd.R_drew)); exact HO_9.out) (Kd.R_base ho0) hb)
          have n2_ := zA.mk (Kd.R_lower (Kd.R_new' (Kd.R_new' ho0 (Kd.R_lt (by (with_reducible repeat (first | apply Kd.R_alloc | apply Kd.R_drewN | apply Kd.R_drew)); exact HO_8.out))) (Kd.R_lt (by (with_reducible repeat (first | apply Kd.R_alloc | apply Kd.R_drewN | apply Kd.R_drew)); exact HO_9.out))) (zL (by repeat (first | (with_reducible first | exact HB.out | apply zI | apply zF | apply zH | refine zD ?_ GE521.out | refine zD ?_ GE522.out | refine zD ?_ GE523.out) | exact HB.out))))
          have n3_ := zA.mk (zK (g := gb521) (o := .cells #[.slice A0_0 l0_0.length c0_0, .slice A0_1 l0_1.length c0_1] 35 (0, 0)) (by (with_reducible repeat (first | refine zB ?_ _ | refine zE ?_ | refine zC ?_ _)); exact BK521.out) hb)
          have n4_ := zA.mk (zK (g := gb522) (o := .cells #[.int .i64 a1_0, .int .i64 a1_1, .int .i64 a1_2, .int .u8 a1_3] 63 (0, 0)) (by (with_reducible repeat (first | refine zB ?_ _ | refine zE ?_ | refine zC ?_ _)); exact BK522.out) hb)
          have n5_ := zA.mk (zK (g := gb523) (o := .cells #[.int .i64 a2_0, .int .i64 a2_1, .int .u8 a2_2, .int .i64 a2_3, .int .i64 a2_4, .float .f64 a2_5] 58 (0, 0)) (by (with_reducible repeat (first | refine zB ?_ _ | refine zE ?_ | refine zC ?_ _)); exact BK523.out) hb)
          have n6_ := zA.mk (zO (by repeat (first | (with_reducible first | exact HB.out | apply zI | apply zF | apply zH | refine zD ?_ GE521.out | refine zD ?_ GE522.out | refine zD ?_ GE523.out) | exact HB.out)) hb)
          clear HO_8 HO_9 BK521 BK522 BK523 HB; have HO_8 := n0_; have HO_9 := n1_; have HO532 := n2_; have BK521 := n3_; have BK522 := n4_; have BK523 := n5_; have HB := n6_; clear n0_ n1_ n2_ n3_ n4_ n5_ n6_; (try clear hb)
          (try clear hb2)
          (try clear hk)
          (try clear hi)
          (try clear ho0)
          refine hK.out _ _ ⟨(zG BK523.out 0).trans rfl, (zG BK523.out 1).trans rfl, (zG BK523.out 2).trans rfl, (zG BK523.out 3).trans rfl, (zG BK523.out 4).trans rfl, (zG BK523.out 5).trans rfl, (zG BK521.out 0).trans rfl, (zG BK521.out 1).trans rfl, (zG BK522.out 0).trans rfl, (zG BK522.out 1).trans rfl, (zG BK522.out 2).trans rfl, (zG BK522.out 3).trans rfl⟩ (fun hHeld => ?_)
          clear hK K; refine norm_ (a' := ?_) ?_ ?_
          rotate_left
          · show Act.put _ (some 54) _ = _
            simp only [Act.put, List.setIfInBounds_toArray, List.set_cons_zero, List.set_cons_succ, zM, zN]; rfl
          refine pure_ (i := 20) (N := some 9) (v := ?_) (a' := ?_) #[true, true, true, true, true, true, true, true, true, true, true, true, true, true, true, true, true, true, true, true, true] rfl rfl (any_of HT_.out (by kernel_rfl)) (fun _ _ _ h => h) (Or.inl ⟨by rfl, ?_⟩) ?_ ?_
          rotate_left
          · intro w'
            go_simp
            with_reducible rfl
          rotate_left
          · simp only [Act.put, List.setIfInBounds_toArray, List.set_cons_zero, List.set_cons_succ, zM, zN]
            rfl
          refine done_ (done_of HT_.out (by kernel_rfl)) ?_
          try go_wp2
          go_meet
          case rel => exact ⟨_, (t530), H', ⟨by have := HJ5.out; first | omega | exact Nat.le_refl _⟩, ⟨by (with_reducible repeat (first | apply Kd.R_alloc | apply Kd.R_drewN | apply Kd.R_drew)); exact Kd.R_mono HO_8.out (fun _ hk => hk.2)⟩, ⟨by (with_reducible repeat (first | apply Kd.R_alloc | apply Kd.R_drewN | apply Kd.R_drew)); exact Kd.R_mono HO532.out (fun _ hk => hk.1.2)⟩, ⟨by (with_reducible repeat (first | refine zB ?_ _ | refine zE ?_ | refine zC ?_ _)); exact BK521.out⟩, ⟨by (with_reducible repeat (first | refine zB ?_ _ | refine zE ?_ | refine zC ?_ _)); exact BK522.out⟩, ⟨by (with_reducible repeat (first | refine zB ?_ _ | refine zE ?_ | refine zC ?_ _)); exact BK523.out⟩, ⟨by repeat (first | (with_reducible first | exact HB.out | apply zI | apply zF | apply zH | refine zD ?_ GE521.out | refine zD ?_ GE522.out | refine zD ?_ GE523.out) | exact HB.out)⟩⟩
        · replace c28 := Bool.eq_false_iff.mpr c28
          subst c28; have H1 : (stanzaref13_Wide.j1 kj5 t524 t525 ([] : List Int) l0_0 l0_1 a1_0 a1_1 a1_2 a1_3) = some r := by rw [if_neg (show ¬ (false = true) by decide)] at H; exact H
          clear H; have H := H1; clear H1; have H' := zA.mk H
          clear H; go_wp2
          go_meet
          case rel => exact ⟨_, (([] : List Int)), H', ⟨by have := HJ5.out; first | omega | exact Nat.le_refl _⟩, ⟨by (with_reducible repeat (first | apply Kd.R_alloc | apply Kd.R_drewN | apply Kd.R_drew)); exact HO_8.out⟩, ⟨by (with_reducible repeat (first | apply Kd.R_alloc | apply Kd.R_drewN | apply Kd.R_drew)); exact HO_9.out⟩, ⟨by (with_reducible repeat (first | refine zB ?_ _ | refine zE ?_ | refine zC ?_ _)); exact BK521.out⟩, ⟨by (with_reducible repeat (first | refine zB ?_ _ | refine zE ?_ | refine zC ?_ _)); exact BK522.out⟩, ⟨by (with_reducible repeat (first | refine zB ?_ _ | refine zE ?_ | refine zC ?_ _)); exact BK523.out⟩, ⟨by repeat (first | (with_reducible first | exact HB.out | apply zI | apply zF | apply zH | refine zD ?_ GE521.out | refine zD ?_ GE522.out | refine zD ?_ GE523.out) | exact HB.out)⟩⟩
      case rest =>
        clear HC27; try clear c1
        try clear c2
        try clear p2
        try clear c3
        try clear p6
        try clear c10
        try clear c11
        try clear c13
        try clear c17
        try clear c20
        try clear c20b0
        try clear c20b1
        try clear c21
        try clear c22
        try clear c24
        try clear c25
        try clear c28
        try clear c31
        try clear c32
        try clear c33
        try clear hcz12_0
        try clear hcz12_1
        try clear hcz14_0
        try clear hcz14_1
        try clear hcz14_2
        try clear hcz14_3
        try clear hcz16_0
        try clear hcz16_1
        try clear hcz17_0
        try clear hcz17_1
        try clear hcz17_2
        try clear hcz17_3
        try clear hcz18_0
        try clear hcz18_1
        try clear hcz18_2
        try clear hcz18_3
        try clear hcz18_4
        try clear hcz18_5
        try clear hcz23_0
        try clear hcz23_1
        try clear hcz23_2
        try clear hcz23_3
        try clear hcz26_0
        try clear hcz26_1
        try clear hcz26_2
        try clear hcz26_3
        try clear hfz12_0
        try clear hfz12_1
        try clear hfz14_0
        try clear hfz14_1
        try clear hfz14_2
        try clear hfz14_3
        try clear hfz16_0
        try clear hfz16_1
        try clear hfz17_0
        try clear hfz17_1
        try clear hfz17_2
        try clear hfz17_3
        try clear hfz18_0
        try clear hfz18_1
        try clear hfz18_2
        try clear hfz18_3
        try clear hfz18_4
        try clear hfz18_5
        try clear hfz23_0
        try clear hfz23_1
        try clear hfz23_2
        try clear hfz23_3
        try clear hfz26_0
        try clear hfz26_1
        try clear hfz26_2
        try clear hfz26_3
        try clear p2
        obtain ⟨kq, x9_26, HA, HJ26, HO_8, HO_9, BK521, BK522, BK523, HB⟩ := hcut; cases kq with
        | zero => exact absurd HA.out (by simp [stanzaref13_Wide.j1])
        | succ kj26 =>
          have H := HA.out; clear HA; simp only [stanzaref13_Wide.j1] at H; have H' := zA.mk H
          clear H; go_wp2
          go_loopg [10, 11, 12] kj26 (fun kq v10 v11 v12 w' => ∃ (x10_3 : List Int) (x11_3 : Int) (x12_3 : Int), v11 = .int .i64 x11_3 ∧ v12 = .int .i64 x12_3 ∧ zA (stanzaref13_Wide.l0 kq t524 t525 x9_26 x10_3 x11_3 x12_3 l0_0 l0_1 a1_0 a1_1 a1_2 a1_3 = some r) ∧ zA (kq ≤ kj26) ∧ zA (Kd.R (Kd.int .i64) 3 w' w.heap.size (fun k_ => some k_ ≠ (u9 : Value).ownBlock ∧ some k_ ≠ (v10 : Value).ownBlock) v526 t525) ∧ zA (Kd.R (Kd.int .i64) 3 w' w.heap.size (fun k_ => some k_ ≠ (v526 : Value).ownBlock ∧ some k_ ≠ (v10 : Value).ownBlock) u9 x9_26) ∧ zA (Kd.R (Kd.int .i64) 3 w' w.heap.size (fun k_ => some k_ ≠ (v526 : Value).ownBlock ∧ some k_ ≠ (u9 : Value).ownBlock) v10 x10_3) ∧ zA (w'.heap[gb521]? = some (.cells #[(.slice A0_0 l0_0.length c0_0), (.slice A0_1 l0_1.length c0_1)] 35 (0, 0))) ∧ zA (w'.heap[gb522]? = some (.cells #[.int .i64 a1_0, .int .i64 a1_1, .int .i64 a1_2, .int .u8 a1_3] 63 (0, 0))) ∧ zA (w'.heap[gb523]? = some (.cells #[.int .i64 a2_0, .int .i64 a2_1, .int .u8 a2_2, .int .i64 a2_3, .int .i64 a2_4, .float .f64 a2_5] 58 (0, 0))) ∧ zA (Below w.heap.size w w'))
          case atStart => exact ⟨(([] : List Int)), (0), (0), (by first | rfl | (simp; done) | (simp [*]; done)), (by first | rfl | (simp; done) | (simp [*]; done)), H', ⟨Nat.le_refl _⟩, ⟨by (with_reducible repeat (first | apply Kd.R_alloc | apply Kd.R_drewN | apply Kd.R_drew)); exact Kd.R_mono HO_8.out (fun _ hk => ⟨hk, (by simp [Value.ownBlock])⟩)⟩, ⟨by (with_reducible repeat (first | apply Kd.R_alloc | apply Kd.R_drewN | apply Kd.R_drew)); exact Kd.R_mono HO_9.out (fun _ hk => ⟨hk, (by simp [Value.ownBlock])⟩)⟩, ⟨by first | exact Kd.R_nil _ _ _ _ _ | exact Kd.N_nil _ _ _ _ _ | exact Kd.V_nil _ _ _ _ _ | exact Kd.Q_nil _ _ _ _ _ | exact Kd.S_nil _ _ _ _ _⟩, ⟨by (with_reducible repeat (first | refine zB ?_ _ | refine zE ?_ | refine zC ?_ _)); exact BK521.out⟩, ⟨by (with_reducible repeat (first | refine zB ?_ _ | refine zE ?_ | refine zC ?_ _)); exact BK522.out⟩, ⟨by (with_reducible repeat (first | refine zB ?_ _ | refine zE ?_ | refine zC ?_ _)); exact BK523.out⟩, ⟨by repeat (first | (with_reducible first | exact HB.out | apply zI | apply zF | apply zH | refine zD ?_ GE521.out | refine zD ?_ GE522.out | refine zD ?_ GE523.out) | exact HB.out)⟩⟩
          case round =>
            clear H'; try clear c1
            try clear c2
            try clear p2
            try clear c3
            try clear p6
            try clear c10
            try clear c11
            try clear c13
            try clear c17
            try clear c20
            try clear c20b0
            try clear c20b1
            try clear c21
            try clear c22
            try clear c24
            try clear c25
            try clear c28
            try clear c31
            try clear c32
            try clear c33
            try clear hcz12_0
            try clear hcz12_1
            try clear hcz14_0
            try clear hcz14_1
            try clear hcz14_2
            try clear hcz14_3
            try clear hcz16_0
            try clear hcz16_1
            try clear hcz17_0
            try clear hcz17_1
            try clear hcz17_2
            try clear hcz17_3
            try clear hcz18_0
            try clear hcz18_1
            try clear hcz18_2
            try clear hcz18_3
            try clear hcz18_4
            try clear hcz18_5
            try clear hcz23_0
            try clear hcz23_1
            try clear hcz23_2
            try clear hcz23_3
            try clear hcz26_0
            try clear hcz26_1
            try clear hcz26_2
            try clear hcz26_3
            try clear hfz12_0
            try clear hfz12_1
            try clear hfz14_0
            try clear hfz14_1
            try clear hfz14_2
            try clear hfz14_3
            try clear hfz16_0
            try clear hfz16_1
            try clear hfz17_0
            try clear hfz17_1
            try clear hfz17_2
            try clear hfz17_3
            try clear hfz18_0
            try clear hfz18_1
            try clear hfz18_2
            try clear hfz18_3
            try clear hfz18_4
            try clear hfz18_5
            try clear hfz23_0
            try clear hfz23_1
            try clear hfz23_2
            try clear hfz23_3
            try clear hfz26_0
            try clear hfz26_1
            try clear hfz26_2
            try clear hfz26_3
            try clear p2
            try clear p6
            obtain ⟨x10_3, x11_3, x12_3, rfl, rfl, HA, HK3, HO_8, HO_9, HO_10, BK521, BK522, BK523, HB⟩ := hrel; cases gk with
            | zero => exact absurd HA.out (by simp [stanzaref13_Wide.l0])
            | succ k3 =>
              have H := HA.out; clear HA; simp only [stanzaref13_Wide.l0] at H; by_cases c36 : x12_3 < (wrap64 (t524 - a1_0))
              · rw [if_pos c36] at H
                have c36b0 : decide (x12_3 < (wrap64 (t524 - a1_0))) = true := decide_eq_true c36
                clear c36; obtain ⟨ji37, hji37⟩ : ∃ j_ : Int, (wrap64 (x12_3 + 1)) = j_ := ⟨_, rfl⟩; replace H : (if 0 ≤ (ji37) then (if (ji37) < (t525.length : Int) then (if 0 ≤ x12_3 then (if x12_3 < (t525.length : Int) then (if 0 ≤ (wrap64 (a1_0 + x12_3)) then (if (wrap64 (a1_0 + x12_3)) < (l0_0.length : Int) then (if ((rd_T41 l0_0 (wrap64 (a1_0 + x12_3))).f3) = 1 then (if x11_3 < (x9_26.length : Int) then (if 0 ≤ x11_3 then (if x10_3.length < 17592186044416 then (stanzaref13_Wide.l0 k3 t524 t525 x9_26 (x10_3 ++ [wrap64 ((wrap64 ((rd t525 (ji37)) - (rd t525 x12_3))) + (rd x9_26 x11_3))]) (wrap64 (x11_3 + 1)) ji37 l0_0 l0_1 a1_0 a1_1 a1_2 a1_3) else (none)) else (none)) else (if x10_3.length < 17592186044416 then (stanzaref13_Wide.l0 k3 t524 t525 x9_26 (x10_3 ++ [wrap64 ((rd t525 (ji37)) - (rd t525 x12_3))]) (wrap64 (x11_3 + 1)) ji37 l0_0 l0_1 a1_0 a1_1 a1_2 a1_3) else (none))) else (if x10_3.length < 17592186044416 then (stanzaref13_Wide.l0 k3 t524 t525 x9_26 (x10_3 ++ [wrap64 ((rd t525 (ji37)) - (rd t525 x12_3))]) x11_3 ji37 l0_0 l0_1 a1_0 a1_1 a1_2 a1_3) else (none))) else (none)) else (none)) else (none)) else (none)) else (none)) else (none)) = some r := by first | (rw [hji37] at H; exact H) | (simp only [hji37] at H ⊢; exact H)
                have hji37w : (IntKind.i64.wrap (x12_3 + 1)) = ji37 := (zM _).trans hji37
                by_cases c38 : 0 ≤ (ji37)
                · rw [if_pos c38] at H
                  have c38b0 : decide (0 ≤ (ji37)) = true := decide_eq_true c38
                  clear c38; by_cases c39 : (ji37) < (t525.length : Int)
                  · rw [if_pos c39] at H
                    have c39b0 : decide ((ji37) < (t525.length : Int)) = true := decide_eq_true c39
                    clear c39; by_cases c40 : 0 ≤ x12_3
                    · rw [if_pos c40] at H
                      have c40b0 : decide (0 ≤ x12_3) = true := decide_eq_true c40
                      clear c40; by_cases c41 : x12_3 < (t525.length : Int)
                      · rw [if_pos c41] at H
                        have c41b0 : decide (x12_3 < (t525.length : Int)) = true := decide_eq_true c41
                        clear c41; obtain ⟨ji42, hji42⟩ : ∃ j_ : Int, (wrap64 (a1_0 + x12_3)) = j_ := ⟨_, rfl⟩; replace H : (if 0 ≤ (ji42) then (if (ji42) < (l0_0.length : Int) then (if ((rd_T41 l0_0 (ji42)).f3) = 1 then (if x11_3 < (x9_26.length : Int) then (if 0 ≤ x11_3 then (if x10_3.length < 17592186044416 then (stanzaref13_Wide.l0 k3 t524 t525 x9_26 (x10_3 ++ [wrap64 ((wrap64 ((rd t525 (ji37)) - (rd t525 x12_3))) + (rd x9_26 x11_3))]) (wrap64 (x11_3 + 1)) ji37 l0_0 l0_1 a1_0 a1_1 a1_2 a1_3) else (none)) else (none)) else (if x10_3.length < 17592186044416 then (stanzaref13_Wide.l0 k3 t524 t525 x9_26 (x10_3 ++ [wrap64 ((rd t525 (ji37)) - (rd t525 x12_3))]) (wrap64 (x11_3 + 1)) ji37 l0_0 l0_1 a1_0 a1_1 a1_2 a1_3) else (none))) else (if x10_3.length < 17592186044416 then (stanzaref13_Wide.l0 k3 t524 t525 x9_26 (x10_3 ++ [wrap64 ((rd t525 (ji37)) - (rd t525 x12_3))]) x11_3 ji37 l0_0 l0_1 a1_0 a1_1 a1_2 a1_3) else (none))) else (none)) else (none)) = some r := by first | (rw [hji42] at H; exact H) | (simp only [hji42] at H ⊢; exact H)
                        have hji42w : (IntKind.i64.wrap (a1_0 + x12_3)) = ji42 := (zM _).trans hji42
                        by_cases c43 : 0 ≤ (ji42)
                        · rw [if_pos c43] at H
                          have c43b0 : decide (0 ≤ (ji42)) = true := decide_eq_true c43
                          clear c43; by_cases c44 : (ji42) < (l0_0.length : Int)
                          · rw [if_pos c44] at H
                            have c44b0 : decide ((ji42) < (l0_0.length : Int)) = true := decide_eq_true c44
                            clear c44; by_cases c45 : ((rd_T41 l0_0 (ji42)).f3) = 1
                            · rw [if_pos c45] at H
                              have c45b0 : (((rd_T41 l0_0 (ji42)).f3) == 1) = true := beq_iff_eq.mpr c45
                              have c45b1 : (((rd_T41 l0_0 (ji42)).f3) != 1) = false := bne_eq_false_iff_eq.mpr c45
                              clear c45; by_cases c46 : x11_3 < (x9_26.length : Int)
                              · rw [if_pos c46] at H
                                have c46b0 : decide (x11_3 < (x9_26.length : Int)) = true := decide_eq_true c46
                                clear c46; by_cases c47 : 0 ≤ x11_3
                                · rw [if_pos c47] at H
                                  have c47b0 : decide (0 ≤ x11_3) = true := decide_eq_true c47
                                  clear c47; by_cases c48 : x10_3.length < 17592186044416
                                  · rw [if_pos c48] at H
                                    have LMc48 := zA.mk c48; clear c48; obtain ⟨y537, hy537⟩ : ∃ y_ : List Int, y_ = (x10_3 ++ [wrap64 ((wrap64 ((rd t525 (ji37)) - (rd t525 x12_3))) + (rd x9_26 x11_3))]) := ⟨_, rfl⟩; replace H : (stanzaref13_Wide.l0 k3 t524 t525 x9_26 y537 (wrap64 (x11_3 + 1)) ji37 l0_0 l0_1 a1_0 a1_1 a1_2 a1_3) = some r := by first | (rw [hy537]; with_reducible exact H) | (have H2_ := (Option.bind_some _ _).symm.trans H; rw [hy537]; with_reducible exact H2_) | (have H2_ := (Option.bind_some _ _).symm.trans H; with_reducible exact H2_) | with_reducible exact H | (rw [hy537]; exact H) | exact H
                                    have Ny537 := zA.mk hy537; clear hy537; have H' := zA.mk H
                                    clear H; have hnb49 := NB522_521.out; have hnc49 := NB521_522.out; have hnb50 := NB522_523.out; have hnc50 := NB523_522.out; have hcz51_0 : wr.cell? ⟨gb522, 0, none⟩ = some (.int .i64 a1_0) := (zG BK522.out 0).trans rfl
                                    have hcz51_1 : wr.cell? ⟨gb522, 1, none⟩ = some (.int .i64 a1_1) := (zG BK522.out 1).trans rfl
                                    have hcz51_2 : wr.cell? ⟨gb522, 2, none⟩ = some (.int .i64 a1_2) := (zG BK522.out 2).trans rfl
                                    have hcz51_3 : wr.cell? ⟨gb522, 3, none⟩ = some (.int .u8 a1_3) := (zG BK522.out 3).trans rfl
                                    have hfz51_0 := zJ BK522.out 0; have hfz51_1 := zJ BK522.out 1; have hfz51_2 := zJ BK522.out 2; have hfz51_3 := zJ BK522.out 3; try go_wp2
                                    have n0_ := zA.mk (Kd.R_drew HO_8.out); have n1_ := zA.mk (Kd.R_drew HO_9.out); have n2_ := zA.mk (Kd.R_drew HO_10.out); have n3_ := zA.mk (zE BK521.out); have n4_ := zA.mk (zE BK522.out); have n5_ := zA.mk (zE BK523.out); have n6_ := zA.mk (zH HB.out); clear HO_8; clear HO_9; clear HO_10; clear BK521; clear BK522; clear BK523; clear HB; have HO_8 := n0_; have HO_9 := n1_; have HO_10 := n2_; have BK521 := n3_; have BK522 := n4_; have BK523 := n5_; have HB := n6_; clear n0_ n1_ n2_ n3_ n4_ n5_ n6_; obtain ⟨Ao53, co53, eo53⟩ := Kd.R_slice HO_8.out; (first | subst eo53 | (injection eo53 with f1_ f2_ f3_; have f4_ := f1_.symm; have f5_ := f3_.symm; clear f1_ f2_ f3_; subst f4_; subst f5_))
                                    have p533 : 0 ≤ ((ji37) : Int) := of_decide_eq_true (by first | (with_reducible assumption) | assumption)
                                    have q533 : (ji37) < (t525.length : Int) := of_decide_eq_true (by first | (with_reducible assumption) | assumption)
                                    obtain ⟨ad533, e533, hx533_0⟩ := Kd.at_int (Kd.R_reads' HO_8.out).2.2 (ji37) p533 q533; cases e533
                                    replace p533 := eq_true p533; replace q533 := eq_true q533; have p534 : 0 ≤ (x12_3 : Int) := of_decide_eq_true (by first | (with_reducible assumption) | assumption)
                                    have q534 : x12_3 < (t525.length : Int) := of_decide_eq_true (by first | (with_reducible assumption) | assumption)
                                    obtain ⟨ad534, e534, hx534_0⟩ := Kd.at_int (Kd.R_reads' HO_8.out).2.2 x12_3 p534 q534; obtain rfl : ad533 = ad534 := (by injection e534)
                                    replace p534 := eq_true p534; replace q534 := eq_true q534; refine start_ (n := 11) (S := fun w' => w'.cell? (ad533.add ((ji37)).toNat) = some (.int .i64 (rd t525 (ji37))) ∧ w'.cell? (ad533.add (x12_3).toNat) = some (.int .i64 (rd t525 x12_3))) (ds := []) #[false, false, false, false, false, false, false, false, false, false, false] (by kernel_rfl) rfl rfl ⟨hx533_0, hx534_0⟩ (fun hHeld => ?_); refine with_tabW stanzaref13_Wide.tab11 stanzaref13_Wide.bits11 (fun HT_ HW_ => ?_)
                                    generalize wr.drew = w52 at HO_8 HO_9 HO_10 BK521 BK522 BK523 HB hx533_0 hx534_0 hHeld ⊢
                                    refine pure_ (i := 0) (N := some 63) (v := ?_) (a' := ?_) #[true, false, false, false, false, false, false, false, false, false, false] rfl rfl (any_of HT_.out (by kernel_rfl)) (fun _ _ _ h => h) (Or.inl ⟨by rfl, ?_⟩) ?_ ?_
                                    rotate_left
                                    · intro w'
                                      go_simp
                                      with_reducible rfl
                                    rotate_left
                                    · simp only [Act.put, List.setIfInBounds_toArray, List.set_cons_zero, List.set_cons_succ, zM, zN]
                                      rfl
                                    refine pure_ (i := 1) (N := some 64) (v := ?_) (a' := ?_) #[true, true, false, false, false, false, false, false, false, false, false] rfl rfl (any_of HT_.out (by kernel_rfl)) (fun _ _ _ h => h) (Or.inl ⟨by rfl, ?_⟩) ?_ ?_
                                    rotate_left
                                    · intro w'
                                      go_simp
                                      with_reducible rfl
                                    rotate_left
                                    · simp only [Act.put, List.setIfInBounds_toArray, List.set_cons_zero, List.set_cons_succ, zM, zN]
                                      rfl
                                    refine pure_ (i := 2) (N := some 65) (v := ?_) (a' := ?_) #[true, true, true, false, false, false, false, false, false, false, false] rfl rfl (any_of HT_.out (by kernel_rfl)) (fun _ _ _ h => h) (Or.inl ⟨by rfl, ?_⟩) ?_ ?_
                                    rotate_left
                                    · intro w'
                                      go_simp
                                      with_reducible rfl
                                    rotate_left
                                    · simp only [Act.put, List.setIfInBounds_toArray, List.set_cons_zero, List.set_cons_succ, zM, zN]
                                      rfl
                                    refine pure_ (i := 3) (N := some 66) (v := ?_) (a' := ?_) #[true, true, true, true, false, false, false, false, false, false, false] rfl rfl (any_of HT_.out (by kernel_rfl)) (fun _ _ _ h => h) (Or.inl ⟨by rfl, ?_⟩) ?_ ?_
                                    rotate_left
                                    · intro w'
                                      go_simp
                                      with_reducible rfl
                                    rotate_left
                                    · simp only [Act.put, List.setIfInBounds_toArray, List.set_cons_zero, List.set_cons_succ, zM, zN]
                                      rfl
                                    refine pure_ (i := 5) (N := some 68) (v := ?_) (a' := ?_) #[true, true, true, true, false, true, false, false, false, false, false] rfl rfl (any_of HT_.out (by kernel_rfl)) (fun _ _ _ h => h) (Or.inl ⟨by rfl, ?_⟩) ?_ ?_
                                    rotate_left
                                    · intro w'
                                      go_simp
                                      with_reducible rfl
                                    rotate_left
                                    · simp only [Act.put, List.setIfInBounds_toArray, List.set_cons_zero, List.set_cons_succ, zM, zN]
                                      rfl
                                    refine pure_ (i := 6) (N := some 69) (v := ?_) (a' := ?_) #[true, true, true, true, false, true, true, false, false, false, false] rfl rfl (any_of HT_.out (by kernel_rfl)) (fun _ _ _ h => h) (Or.inl ⟨by rfl, ?_⟩) ?_ ?_
                                    rotate_left
                                    · intro w'
                                      go_simp
                                      with_reducible rfl
                                    rotate_left
                                    · simp only [Act.put, List.setIfInBounds_toArray, List.set_cons_zero, List.set_cons_succ, zM, zN]
                                      rfl
                                    refine pure_ (i := 7) (N := some 70) (v := ?_) (a' := ?_) #[true, true, true, true, false, true, true, true, false, false, false] rfl rfl (any_of HT_.out (by kernel_rfl)) (fun _ _ _ h => h) (Or.inl ⟨by rfl, ?_⟩) ?_ ?_
                                    rotate_left
                                    · intro w'
                                      go_simp
                                      with_reducible rfl
                                    rotate_left
                                    · simp only [Act.put, List.setIfInBounds_toArray, List.set_cons_zero, List.set_cons_succ, zM, zN]
                                      rfl
                                    refine take_ (i := 4) (N := some 67) (v := ?_) (a' := ?_) #[true, true, true, true, true, true, true, true, false, false, false] rfl rfl (take_ofW HT_.out HW_.out (by kernel_rfl)) (fun _ _ _ h => h) (Or.inl ⟨by rfl, ?_⟩) hHeld ?_ ?_
                                    rotate_left
                                    · rintro w' ⟨s0, s1⟩
                                      go_simp
                                      with_reducible rfl
                                    rotate_left
                                    · simp only [Act.put, List.setIfInBounds_toArray, List.set_cons_zero, List.set_cons_succ, zM, zN]
                                      rfl
                                    refine take_ (i := 8) (N := some 71) (v := ?_) (a' := ?_) #[true, true, true, true, true, true, true, true, true, false, false] rfl rfl (take_ofW HT_.out HW_.out (by kernel_rfl)) (fun _ _ _ h => h) (Or.inl ⟨by rfl, ?_⟩) hHeld ?_ ?_
                                    rotate_left
                                    · rintro w' ⟨s0, s1⟩
                                      go_simp
                                      with_reducible rfl
                                    rotate_left
                                    · simp only [Act.put, List.setIfInBounds_toArray, List.set_cons_zero, List.set_cons_succ, zM, zN]
                                      rfl
                                    refine pure_ (i := 9) (N := some 72) (v := ?_) (a' := ?_) #[true, true, true, true, true, true, true, true, true, true, false] rfl rfl (any_of HT_.out (by kernel_rfl)) (fun _ _ _ h => h) (Or.inl ⟨by rfl, ?_⟩) ?_ ?_
                                    rotate_left
                                    · intro w'
                                      go_simp
                                      with_reducible rfl
                                    rotate_left
                                    · simp only [Act.put, List.setIfInBounds_toArray, List.set_cons_zero, List.set_cons_succ, zM, zN]
                                      rfl
                                    refine pure_ (i := 10) (N := some 13) (v := ?_) (a' := ?_) #[true, true, true, true, true, true, true, true, true, true, true] rfl rfl (any_of HT_.out (by kernel_rfl)) (fun _ _ _ h => h) (Or.inl ⟨by rfl, ?_⟩) ?_ ?_
                                    rotate_left
                                    · intro w'
                                      go_simp
                                      with_reducible rfl
                                    rotate_left
                                    · simp only [Act.put, List.setIfInBounds_toArray, List.set_cons_zero, List.set_cons_succ, zM, zN]
                                      rfl
                                    refine done_ (done_of HT_.out (by kernel_rfl)) ?_
                                    have hnb54 := NB521_523.out; have hnc54 := NB523_521.out; have hcz55_0 : w52.cell? ⟨gb521, 0, none⟩ = some (.slice A0_0 l0_0.length c0_0) := (zG BK521.out 0).trans rfl
                                    have hcz55_1 : w52.cell? ⟨gb521, 1, none⟩ = some (.slice A0_1 l0_1.length c0_1) := (zG BK521.out 1).trans rfl
                                    have hfz55_0 := zJ BK521.out 0; have hfz55_1 := zJ BK521.out 1; have hcz56_0 : w52.cell? ⟨gb522, 0, none⟩ = some (.int .i64 a1_0) := (zG BK522.out 0).trans rfl
                                    have hcz56_1 : w52.cell? ⟨gb522, 1, none⟩ = some (.int .i64 a1_1) := (zG BK522.out 1).trans rfl
                                    have hcz56_2 : w52.cell? ⟨gb522, 2, none⟩ = some (.int .i64 a1_2) := (zG BK522.out 2).trans rfl
                                    have hcz56_3 : w52.cell? ⟨gb522, 3, none⟩ = some (.int .u8 a1_3) := (zG BK522.out 3).trans rfl
                                    have hfz56_0 := zJ BK522.out 0; have hfz56_1 := zJ BK522.out 1; have hfz56_2 := zJ BK522.out 2; have hfz56_3 := zJ BK522.out 3; have p535 : 0 ≤ ((ji42) : Int) := of_decide_eq_true (by first | (with_reducible assumption) | assumption)
                                    have q535 : (ji42) < (l0_0.length : Int) := of_decide_eq_true (by first | (with_reducible assumption) | assumption)
                                    obtain ⟨ad535, e535, hx535_0, hx535_1, hx535_2, hx535_3⟩ := at_T41 HR0_0.out (ji42) p535 q535; cases e535
                                    replace hx535_0 := (HB.out.cell (World.block_lt_of_cell? w _ hx535_0)).trans hx535_0; replace hx535_1 := (HB.out.cell (World.block_lt_of_cell? w _ hx535_1)).trans hx535_1; replace hx535_2 := (HB.out.cell (World.block_lt_of_cell? w _ hx535_2)).trans hx535_2; replace hx535_3 := (HB.out.cell (World.block_lt_of_cell? w _ hx535_3)).trans hx535_3; replace p535 := eq_true p535; replace q535 := eq_true q535; obtain ⟨Ao57, co57, eo57⟩ := Kd.R_slice HO_9.out; subst eo57; have p536 : 0 ≤ (x11_3 : Int) := of_decide_eq_true (by first | (with_reducible assumption) | assumption)
                                    have q536 : x11_3 < (x9_26.length : Int) := of_decide_eq_true (by first | (with_reducible assumption) | assumption)
                                    obtain ⟨ad536, e536, hx536_0⟩ := Kd.at_int (Kd.R_reads' HO_9.out).2.2 x11_3 p536 q536; cases e536
                                    replace p536 := eq_true p536; replace q536 := eq_true q536; try go_wp2_with (first | ((with_reducible refine gate_builtin (b := .append) (xs := #[.tmp 95, .tmp 97]) rfl ?_); at_builtin; refine Kd.R_append (Kd.int .i64) (w0 := w) w.heap.size rfl (.tmp 95) (.tmp 97) 24 3 (.int .i64 0) 8 rfl Try.underlying24 info3 rfl (by decide) (by omega) u10 x10_3 (wrap64 ((wrap64 ((rd t525 (ji37)) - (rd t525 x12_3))) + (rd x9_26 x11_3))) [.int .i64 (wrap64 ((wrap64 ((rd t525 (ji37)) - (rd t525 x12_3))) + (rd x9_26 x11_3)))] (fun k_ => some k_ ≠ (.slice (some ad533) t525.length co53 : Value).ownBlock ∧ some k_ ≠ (.slice (some ad536) x9_26.length co57 : Value).ownBlock) (fun _ => False) rfl rfl ?aP (fun _ hk => hk.elim) ?aF ?aO ?aB ?aS ?aL ?_; (case aP => exact rfl); (case aB => exact (by repeat (first | (with_reducible first | exact HB.out | apply zI | apply zF | apply zH | refine zD ?_ GE521.out | refine zD ?_ GE522.out | refine zD ?_ GE523.out) | exact HB.out))); (case aF => exact (fun k_ hk => ⟨Kd.fresh' (Kd.R_lt (by (with_reducible repeat (first | apply Kd.R_alloc | apply Kd.R_drewN | apply Kd.R_drew)); exact HO_8.out)) k_ hk, Kd.fresh' (Kd.R_lt (by (with_reducible repeat (first | apply Kd.R_alloc | apply Kd.R_drewN | apply Kd.R_drew)); exact HO_9.out)) k_ hk⟩)); (case aO => exact (by (with_reducible repeat (first | apply Kd.R_alloc | apply Kd.R_drewN | apply Kd.R_drew)); exact HO_10.out)); (case aS => exact (zL (by repeat (first | (with_reducible first | exact HB.out | apply zI | apply zF | apply zH | refine zD ?_ GE521.out | refine zD ?_ GE522.out | refine zD ?_ GE523.out) | exact HB.out)))); (case aL => have := LMc48.out; omega); intro v538 w58 ho hb hg hat; rw [← Ny537.out] at ho; have n0_ := zA.mk (Kd.R_after (ok := (fun k_ => some k_ ≠ (.slice (some ad536) x9_26.length co57 : Value).ownBlock)) (by (with_reducible repeat (first | apply Kd.R_alloc | apply Kd.R_drewN | apply Kd.R_drew)); exact HO_8.out) hg hat); have n1_ := zA.mk (Kd.R_after (ok := (fun k_ => some k_ ≠ (.slice (some ad533) t525.length co53 : Value).ownBlock)) (by (with_reducible repeat (first | apply Kd.R_alloc | apply Kd.R_drewN | apply Kd.R_drew)); exact HO_9.out) hg hat); have n2_ := zA.mk (blk_grown (g := gb521) (o := .cells #[.slice (some ad535) l0_0.length c0_0, .slice A0_1 l0_1.length c0_1] 35 (0, 0)) (by (with_reducible repeat (first | refine zB ?_ _ | refine zE ?_ | refine zC ?_ _)); exact BK521.out) hg (Kd.R_ne HO_10.out BK521.out (by decide))); have n3_ := zA.mk (blk_grown (g := gb522) (o := .cells #[.int .i64 a1_0, .int .i64 a1_1, .int .i64 a1_2, .int .u8 a1_3] 63 (0, 0)) (by (with_reducible repeat (first | refine zB ?_ _ | refine zE ?_ | refine zC ?_ _)); exact BK522.out) hg (Kd.R_ne HO_10.out BK522.out (by decide))); have n4_ := zA.mk (blk_grown (g := gb523) (o := .cells #[.int .i64 a2_0, .int .i64 a2_1, .int .u8 a2_2, .int .i64 a2_3, .int .i64 a2_4, .float .f64 a2_5] 58 (0, 0)) (by (with_reducible repeat (first | refine zB ?_ _ | refine zE ?_ | refine zC ?_ _)); exact BK523.out) hg (Kd.R_ne HO_10.out BK523.out (by decide))); have n5_ := zA.mk (hb); have n6_ := zA.mk (ho); clear HO_8; clear HO_9; clear BK521; clear BK522; clear BK523; clear HB; clear HO_10; have HO_8 := n0_; have HO_9 := n1_; have BK521 := n2_; have BK522 := n3_; have BK523 := n4_; have HB := n5_; have HO539 := n6_; clear n0_ n1_ n2_ n3_ n4_ n5_ n6_; clear ho hb hg hat))
                                    go_roundg k3
                                    case measure => have := HJ5.out; have := HJ26.out; have := HK3.out; omega
                                    case rel => exact ⟨(y537), (wrap64 (x11_3 + 1)), (ji37), (by first | rfl | (simp; done) | (simp [*]; done)), (by first | rfl | (simp; done) | (simp only [← hji37] <;> (first | rfl | simp)) | (simp [*]; done)), H', ⟨by have := HJ5.out; have := HJ26.out; have := HK3.out; omega⟩, ⟨by (with_reducible repeat (first | apply Kd.R_alloc | apply Kd.R_drewN | apply Kd.R_drew)); exact HO_8.out⟩, ⟨by (with_reducible repeat (first | apply Kd.R_alloc | apply Kd.R_drewN | apply Kd.R_drew)); exact HO_9.out⟩, ⟨by (with_reducible repeat (first | apply Kd.R_alloc | apply Kd.R_drewN | apply Kd.R_drew)); exact HO539.out⟩, ⟨by (with_reducible repeat (first | refine zB ?_ _ | refine zE ?_ | refine zC ?_ _)); exact BK521.out⟩, ⟨by (with_reducible repeat (first | refine zB ?_ _ | refine zE ?_ | refine zC ?_ _)); exact BK522.out⟩, ⟨by (with_reducible repeat (first | refine zB ?_ _ | refine zE ?_ | refine zC ?_ _)); exact BK523.out⟩, ⟨by repeat (first | (with_reducible first | exact HB.out | apply zI | apply zF | apply zH | refine zD ?_ GE521.out | refine zD ?_ GE522.out | refine zD ?_ GE523.out) | exact HB.out)⟩⟩
                                  · rw [if_neg c48] at H
                                    exact absurd H (by simp)
                                · rw [if_neg c47] at H
                                  exact absurd H (by simp)
                              · rw [if_neg c46] at H
                                have c46b0 : decide (x11_3 < (x9_26.length : Int)) = false := decide_eq_false c46
                                clear c46; by_cases c59 : x10_3.length < 17592186044416
                                · rw [if_pos c59] at H
                                  have LMc59 := zA.mk c59; clear c59; obtain ⟨y540, hy540⟩ : ∃ y_ : List Int, y_ = (x10_3 ++ [wrap64 ((rd t525 (ji37)) - (rd t525 x12_3))]) := ⟨_, rfl⟩; replace H : (stanzaref13_Wide.l0 k3 t524 t525 x9_26 y540 (wrap64 (x11_3 + 1)) ji37 l0_0 l0_1 a1_0 a1_1 a1_2 a1_3) = some r := by first | (rw [hy540]; with_reducible exact H) | (have H2_ := (Option.bind_some _ _).symm.trans H; rw [hy540]; with_reducible exact H2_) | (have H2_ := (Option.bind_some _ _).symm.trans H; with_reducible exact H2_) | with_reducible exact H | (rw [hy540]; exact H) | exact H
                                  have Ny540 := zA.mk hy540; clear hy540; have H' := zA.mk H
                                  clear H; have hnb60 := NB522_521.out; have hnc60 := NB521_522.out; have hnb61 := NB522_523.out; have hnc61 := NB523_522.out; have hcz62_0 : wr.cell? ⟨gb522, 0, none⟩ = some (.int .i64 a1_0) := (zG BK522.out 0).trans rfl
                                  have hcz62_1 : wr.cell? ⟨gb522, 1, none⟩ = some (.int .i64 a1_1) := (zG BK522.out 1).trans rfl
                                  have hcz62_2 : wr.cell? ⟨gb522, 2, none⟩ = some (.int .i64 a1_2) := (zG BK522.out 2).trans rfl
                                  have hcz62_3 : wr.cell? ⟨gb522, 3, none⟩ = some (.int .u8 a1_3) := (zG BK522.out 3).trans rfl
                                  have hfz62_0 := zJ BK522.out 0; have hfz62_1 := zJ BK522.out 1; have hfz62_2 := zJ BK522.out 2; have hfz62_3 := zJ BK522.out 3; try go_wp2
                                  have n0_ := zA.mk (Kd.R_drew HO_8.out); have n1_ := zA.mk (Kd.R_drew HO_9.out); have n2_ := zA.mk (Kd.R_drew HO_10.out); have n3_ := zA.mk (zE BK521.out); have n4_ := zA.mk (zE BK522.out); have n5_ := zA.mk (zE BK523.out); have n6_ := zA.mk (zH HB.out); clear HO_8; clear HO_9; clear HO_10; clear BK521; clear BK522; clear BK523; clear HB; have HO_8 := n0_; have HO_9 := n1_; have HO_10 := n2_; have BK521 := n3_; have BK522 := n4_; have BK523 := n5_; have HB := n6_; clear n0_ n1_ n2_ n3_ n4_ n5_ n6_; obtain ⟨Ao64, co64, eo64⟩ := Kd.R_slice HO_8.out; (first | subst eo64 | (injection eo64 with f1_ f2_ f3_; have f4_ := f1_.symm; have f5_ := f3_.symm; clear f1_ f2_ f3_; subst f4_; subst f5_))
                                  have p533 : 0 ≤ ((ji37) : Int) := of_decide_eq_true (by first | (with_reducible assumption) | assumption)
                                  have q533 : (ji37) < (t525.length : Int) := of_decide_eq_true (by first | (with_reducible assumption) | assumption)
                                  obtain ⟨ad533, e533, hx533_0⟩ := Kd.at_int (Kd.R_reads' HO_8.out).2.2 (ji37) p533 q533; cases e533
                                  replace p533 := eq_true p533; replace q533 := eq_true q533; have p534 : 0 ≤ (x12_3 : Int) := of_decide_eq_true (by first | (with_reducible assumption) | assumption)
                                  have q534 : x12_3 < (t525.length : Int) := of_decide_eq_true (by first | (with_reducible assumption) | assumption)
                                  obtain ⟨ad534, e534, hx534_0⟩ := Kd.at_int (Kd.R_reads' HO_8.out).2.2 x12_3 p534 q534; obtain rfl : ad533 = ad534 := (by injection e534)
                                  replace p534 := eq_true p534; replace q534 := eq_true q534; refine start_ (n := 11) (S := fun w' => w'.cell? (ad533.add ((ji37)).toNat) = some (.int .i64 (rd t525 (ji37))) ∧ w'.cell? (ad533.add (x12_3).toNat) = some (.int .i64 (rd t525 x12_3))) (ds := []) #[false, false, false, false, false, false, false, false, false, false, false] (by kernel_rfl) rfl rfl ⟨hx533_0, hx534_0⟩ (fun hHeld => ?_); refine with_tabW stanzaref13_Wide.tab11 stanzaref13_Wide.bits11 (fun HT_ HW_ => ?_)
                                  generalize wr.drew = w63 at HO_8 HO_9 HO_10 BK521 BK522 BK523 HB hx533_0 hx534_0 hHeld ⊢
                                  refine pure_ (i := 0) (N := some 63) (v := ?_) (a' := ?_) #[true, false, false, false, false, false, false, false, false, false, false] rfl rfl (any_of HT_.out (by kernel_rfl)) (fun _ _ _ h => h) (Or.inl ⟨by rfl, ?_⟩) ?_ ?_
                                  rotate_left
                                  · intro w'
                                    go_simp
                                    with_reducible rfl
                                  rotate_left
                                  · simp only [Act.put, List.setIfInBounds_toArray, List.set_cons_zero, List.set_cons_succ, zM, zN]
                                    rfl
                                  refine pure_ (i := 1) (N := some 64) (v := ?_) (a' := ?_) #[true, true, false, false, false, false, false, false, false, false, false] rfl rfl (any_of HT_.out (by kernel_rfl)) (fun _ _ _ h => h) (Or.inl ⟨by rfl, ?_⟩) ?_ ?_
                                  rotate_left
                                  · intro w'
                                    go_simp
                                    with_reducible rfl
                                  rotate_left
                                  · simp only [Act.put, List.setIfInBounds_toArray, List.set_cons_zero, List.set_cons_succ, zM, zN]
                                    rfl
                                  refine pure_ (i := 2) (N := some 65) (v := ?_) (a' := ?_) #[true, true, true, false, false, false, false, false, false, false, false] rfl rfl (any_of HT_.out (by kernel_rfl)) (fun _ _ _ h => h) (Or.inl ⟨by rfl, ?_⟩) ?_ ?_
                                  rotate_left
                                  · intro w'
                                    go_simp
                                    with_reducible rfl
                                  rotate_left
                                  · simp only [Act.put, List.setIfInBounds_toArray, List.set_cons_zero, List.set_cons_succ, zM, zN]
                                    rfl
                                  refine pure_ (i := 3) (N := some 66) (v := ?_) (a' := ?_) #[true, true, true, true, false, false, false, false, false, false, false] rfl rfl (any_of HT_.out (by kernel_rfl)) (fun _ _ _ h => h) (Or.inl ⟨by rfl, ?_⟩) ?_ ?_
                                  rotate_left
                                  · intro w'
                                    go_simp
                                    with_reducible rfl
                                  rotate_left
                                  · simp only [Act.put, List.setIfInBounds_toArray, List.set_cons_zero, List.set_cons_succ, zM, zN]
                                    rfl
                                  refine pure_ (i := 5) (N := some 68) (v := ?_) (a' := ?_) #[true, true, true, true, false, true, false, false, false, false, false] rfl rfl (any_of HT_.out (by kernel_rfl)) (fun _ _ _ h => h) (Or.inl ⟨by rfl, ?_⟩) ?_ ?_
                                  rotate_left
                                  · intro w'
                                    go_simp
                                    with_reducible rfl
                                  rotate_left
                                  · simp only [Act.put, List.setIfInBounds_toArray, List.set_cons_zero, List.set_cons_succ, zM, zN]
                                    rfl
                                  refine pure_ (i := 6) (N := some 69) (v := ?_) (a' := ?_) #[true, true, true, true, false, true, true, false, false, false, false] rfl rfl (any_of HT_.out (by kernel_rfl)) (fun _ _ _ h => h) (Or.inl ⟨by rfl, ?_⟩) ?_ ?_
                                  rotate_left
                                  · intro w'
                                    go_simp
                                    with_reducible rfl
                                  rotate_left
                                  · simp only [Act.put, List.setIfInBounds_toArray, List.set_cons_zero, List.set_cons_succ, zM, zN]
                                    rfl
                                  refine pure_ (i := 7) (N := some 70) (v := ?_) (a' := ?_) #[true, true, true, true, false, true, true, true, false, false, false] rfl rfl (any_of HT_.out (by kernel_rfl)) (fun _ _ _ h => h) (Or.inl ⟨by rfl, ?_⟩) ?_ ?_
                                  rotate_left
                                  · intro w'
                                    go_simp
                                    with_reducible rfl
                                  rotate_left
                                  · simp only [Act.put, List.setIfInBounds_toArray, List.set_cons_zero, List.set_cons_succ, zM, zN]
                                    rfl
                                  refine take_ (i := 4) (N := some 67) (v := ?_) (a' := ?_) #[true, true, true, true, true, true, true, true, false, false, false] rfl rfl (take_ofW HT_.out HW_.out (by kernel_rfl)) (fun _ _ _ h => h) (Or.inl ⟨by rfl, ?_⟩) hHeld ?_ ?_
                                  rotate_left
                                  · rintro w' ⟨s0, s1⟩
                                    go_simp
                                    with_reducible rfl
                                  rotate_left
                                  · simp only [Act.put, List.setIfInBounds_toArray, List.set_cons_zero, List.set_cons_succ, zM, zN]
                                    rfl
                                  refine take_ (i := 8) (N := some 71) (v := ?_) (a' := ?_) #[true, true, true, true, true, true, true, true, true, false, false] rfl rfl (take_ofW HT_.out HW_.out (by kernel_rfl)) (fun _ _ _ h => h) (Or.inl ⟨by rfl, ?_⟩) hHeld ?_ ?_
                                  rotate_left
                                  · rintro w' ⟨s0, s1⟩
                                    go_simp
                                    with_reducible rfl
                                  rotate_left
                                  · simp only [Act.put, List.setIfInBounds_toArray, List.set_cons_zero, List.set_cons_succ, zM, zN]
                                    rfl
                                  refine pure_ (i := 9) (N := some 72) (v := ?_) (a' := ?_) #[true, true, true, true, true, true, true, true, true, true, false] rfl rfl (any_of HT_.out (by kernel_rfl)) (fun _ _ _ h => h) (Or.inl ⟨by rfl, ?_⟩) ?_ ?_
                                  rotate_left
                                  · intro w'
                                    go_simp
                                    with_reducible rfl
                                  rotate_left
                                  · simp only [Act.put, List.setIfInBounds_toArray, List.set_cons_zero, List.set_cons_succ, zM, zN]
                                    rfl
                                  refine pure_ (i := 10) (N := some 13) (v := ?_) (a' := ?_) #[true, true, true, true, true, true, true, true, true, true, true] rfl rfl (any_of HT_.out (by kernel_rfl)) (fun _ _ _ h => h) (Or.inl ⟨by rfl, ?_⟩) ?_ ?_
                                  rotate_left
                                  · intro w'
                                    go_simp
                                    with_reducible rfl
                                  rotate_left
                                  · simp only [Act.put, List.setIfInBounds_toArray, List.set_cons_zero, List.set_cons_succ, zM, zN]
                                    rfl
                                  refine done_ (done_of HT_.out (by kernel_rfl)) ?_
                                  have hnb65 := NB521_523.out; have hnc65 := NB523_521.out; have hcz66_0 : w63.cell? ⟨gb521, 0, none⟩ = some (.slice A0_0 l0_0.length c0_0) := (zG BK521.out 0).trans rfl
                                  have hcz66_1 : w63.cell? ⟨gb521, 1, none⟩ = some (.slice A0_1 l0_1.length c0_1) := (zG BK521.out 1).trans rfl
                                  have hfz66_0 := zJ BK521.out 0; have hfz66_1 := zJ BK521.out 1; have hcz67_0 : w63.cell? ⟨gb522, 0, none⟩ = some (.int .i64 a1_0) := (zG BK522.out 0).trans rfl
                                  have hcz67_1 : w63.cell? ⟨gb522, 1, none⟩ = some (.int .i64 a1_1) := (zG BK522.out 1).trans rfl
                                  have hcz67_2 : w63.cell? ⟨gb522, 2, none⟩ = some (.int .i64 a1_2) := (zG BK522.out 2).trans rfl
                                  have hcz67_3 : w63.cell? ⟨gb522, 3, none⟩ = some (.int .u8 a1_3) := (zG BK522.out 3).trans rfl
                                  have hfz67_0 := zJ BK522.out 0; have hfz67_1 := zJ BK522.out 1; have hfz67_2 := zJ BK522.out 2; have hfz67_3 := zJ BK522.out 3; have p535 : 0 ≤ ((ji42) : Int) := of_decide_eq_true (by first | (with_reducible assumption) | assumption)
                                  have q535 : (ji42) < (l0_0.length : Int) := of_decide_eq_true (by first | (with_reducible assumption) | assumption)
                                  obtain ⟨ad535, e535, hx535_0, hx535_1, hx535_2, hx535_3⟩ := at_T41 HR0_0.out (ji42) p535 q535; cases e535
                                  replace hx535_0 := (HB.out.cell (World.block_lt_of_cell? w _ hx535_0)).trans hx535_0; replace hx535_1 := (HB.out.cell (World.block_lt_of_cell? w _ hx535_1)).trans hx535_1; replace hx535_2 := (HB.out.cell (World.block_lt_of_cell? w _ hx535_2)).trans hx535_2; replace hx535_3 := (HB.out.cell (World.block_lt_of_cell? w _ hx535_3)).trans hx535_3; replace p535 := eq_true p535; replace q535 := eq_true q535; obtain ⟨Ao68, co68, eo68⟩ := Kd.R_slice HO_9.out; subst eo68; try go_wp2_with (first | ((with_reducible refine gate_builtin (b := .append) (xs := #[.tmp 95, .tmp 97]) rfl ?_); at_builtin; refine Kd.R_append (Kd.int .i64) (w0 := w) w.heap.size rfl (.tmp 95) (.tmp 97) 24 3 (.int .i64 0) 8 rfl Try.underlying24 info3 rfl (by decide) (by omega) u10 x10_3 (wrap64 ((rd t525 (ji37)) - (rd t525 x12_3))) [.int .i64 (wrap64 ((rd t525 (ji37)) - (rd t525 x12_3)))] (fun k_ => some k_ ≠ (.slice (some ad533) t525.length co64 : Value).ownBlock ∧ some k_ ≠ (.slice Ao68 x9_26.length co68 : Value).ownBlock) (fun _ => False) rfl rfl ?aP (fun _ hk => hk.elim) ?aF ?aO ?aB ?aS ?aL ?_; (case aP => exact rfl); (case aB => exact (by repeat (first | (with_reducible first | exact HB.out | apply zI | apply zF | apply zH | refine zD ?_ GE521.out | refine zD ?_ GE522.out | refine zD ?_ GE523.out) | exact HB.out))); (case aF => exact (fun k_ hk => ⟨Kd.fresh' (Kd.R_lt (by (with_reducible repeat (first | apply Kd.R_alloc | apply Kd.R_drewN | apply Kd.R_drew)); exact HO_8.out)) k_ hk, Kd.fresh' (Kd.R_lt (by (with_reducible repeat (first | apply Kd.R_alloc | apply Kd.R_drewN | apply Kd.R_drew)); exact HO_9.out)) k_ hk⟩)); (case aO => exact (by (with_reducible repeat (first | apply Kd.R_alloc | apply Kd.R_drewN | apply Kd.R_drew)); exact HO_10.out)); (case aS => exact (zL (by repeat (first | (with_reducible first | exact HB.out | apply zI | apply zF | apply zH | refine zD ?_ GE521.out | refine zD ?_ GE522.out | refine zD ?_ GE523.out) | exact HB.out)))); (case aL => have := LMc59.out; omega); intro v541 w69 ho hb hg hat; rw [← Ny540.out] at ho; have n0_ := zA.mk (Kd.R_after (ok := (fun k_ => some k_ ≠ (.slice Ao68 x9_26.length co68 : Value).ownBlock)) (by (with_reducible repeat (first | apply Kd.R_alloc | apply Kd.R_drewN | apply Kd.R_drew)); exact HO_8.out) hg hat); have n1_ := zA.mk (Kd.R_after (ok := (fun k_ => some k_ ≠ (.slice (some ad533) t525.length co64 : Value).ownBlock)) (by (with_reducible repeat (first | apply Kd.R_alloc | apply Kd.R_drewN | apply Kd.R_drew)); exact HO_9.out) hg hat); have n2_ := zA.mk (blk_grown (g := gb521) (o := .cells #[.slice (some ad535) l0_0.length c0_0, .slice A0_1 l0_1.length c0_1] 35 (0, 0)) (by (with_reducible repeat (first | refine zB ?_ _ | refine zE ?_ | refine zC ?_ _)); exact BK521.out) hg (Kd.R_ne HO_10.out BK521.out (by decide))); have n3_ := zA.mk (blk_grown (g := gb522) (o := .cells #[.int .i64 a1_0, .int .i64 a1_1, .int .i64 a1_2, .int .u8 a1_3] 63 (0, 0)) (by (with_reducible repeat (first | refine zB ?_ _ | refine zE ?_ | refine zC ?_ _)); exact BK522.out) hg (Kd.R_ne HO_10.out BK522.out (by decide))); have n4_ := zA.mk (blk_grown (g := gb523) (o := .cells #[.int .i64 a2_0, .int .i64 a2_1, .int .u8 a2_2, .int .i64 a2_3, .int .i64 a2_4, .float .f64 a2_5] 58 (0, 0)) (by (with_reducible repeat (first | refine zB ?_ _ | refine zE ?_ | refine zC ?_ _)); exact BK523.out) hg (Kd.R_ne HO_10.out BK523.out (by decide))); have n5_ := zA.mk (hb); have n6_ := zA.mk (ho); clear HO_8; clear HO_9; clear BK521; clear BK522; clear BK523; clear HB; clear HO_10; have HO_8 := n0_; have HO_9 := n1_; have BK521 := n2_; have BK522 := n3_; have BK523 := n4_; have HB := n5_; have HO542 := n6_; clear n0_ n1_ n2_ n3_ n4_ n5_ n6_; clear ho hb hg hat))
                                  go_roundg k3
                                  case measure => have := HJ5.out; have := HJ26.out; have := HK3.out; omega
                                  case rel => exact ⟨(y540), (wrap64 (x11_3 + 1)), (ji37), (by first | rfl | (simp; done) | (simp [*]; done)), (by first | rfl | (simp; done) | (simp only [← hji37] <;> (first | rfl | simp)) | (simp [*]; done)), H', ⟨by have := HJ5.out; have := HJ26.out; have := HK3.out; omega⟩, ⟨by (with_reducible repeat (first | apply Kd.R_alloc | apply Kd.R_drewN | apply Kd.R_drew)); exact HO_8.out⟩, ⟨by (with_reducible repeat (first | apply Kd.R_alloc | apply Kd.R_drewN | apply Kd.R_drew)); exact HO_9.out⟩, ⟨by (with_reducible repeat (first | apply Kd.R_alloc | apply Kd.R_drewN | apply Kd.R_drew)); exact HO542.out⟩, ⟨by (with_reducible repeat (first | refine zB ?_ _ | refine zE ?_ | refine zC ?_ _)); exact BK521.out⟩, ⟨by (with_reducible repeat (first | refine zB ?_ _ | refine zE ?_ | refine zC ?_ _)); exact BK522.out⟩, ⟨by (with_reducible repeat (first | refine zB ?_ _ | refine zE ?_ | refine zC ?_ _)); exact BK523.out⟩, ⟨by repeat (first | (with_reducible first | exact HB.out | apply zI | apply zF | apply zH | refine zD ?_ GE521.out | refine zD ?_ GE522.out | refine zD ?_ GE523.out) | exact HB.out)⟩⟩
                                · rw [if_neg c59] at H
                                  exact absurd H (by simp)
                            · rw [if_neg c45] at H
                              have c45b0 : (((rd_T41 l0_0 (ji42)).f3) == 1) = false := beq_eq_false_iff_ne.mpr c45
                              have c45b1 : (((rd_T41 l0_0 (ji42)).f3) != 1) = true := bne_iff_ne.mpr c45
                              by_cases c70 : x10_3.length < 17592186044416
                              · rw [if_pos c70] at H
                                have LMc70 := zA.mk c70; clear c70; obtain ⟨y543, hy543⟩ : ∃ y_ : List Int, y_ = (x10_3 ++ [wrap64 ((rd t525 (ji37)) - (rd t525 x12_3))]) := ⟨_, rfl⟩; replace H : (stanzaref13_Wide.l0 k3 t524 t525 x9_26 y543 x11_3 ji37 l0_0 l0_1 a1_0 a1_1 a1_2 a1_3) = some r := by first | (rw [hy543]; with_reducible exact H) | (have H2_ := (Option.bind_some _ _).symm.trans H; rw [hy543]; with_reducible exact H2_) | (have H2_ := (Option.bind_some _ _).symm.trans H; with_reducible exact H2_) | with_reducible exact H | (rw [hy543]; exact H) | exact H
                                have Ny543 := zA.mk hy543; clear hy543; have H' := zA.mk H
                                clear H; have hnb71 := NB522_521.out; have hnc71 := NB521_522.out; have hnb72 := NB522_523.out; have hnc72 := NB523_522.out; have hcz73_0 : wr.cell? ⟨gb522, 0, none⟩ = some (.int .i64 a1_0) := (zG BK522.out 0).trans rfl
                                have hcz73_1 : wr.cell? ⟨gb522, 1, none⟩ = some (.int .i64 a1_1) := (zG BK522.out 1).trans rfl
                                have hcz73_2 : wr.cell? ⟨gb522, 2, none⟩ = some (.int .i64 a1_2) := (zG BK522.out 2).trans rfl
                                have hcz73_3 : wr.cell? ⟨gb522, 3, none⟩ = some (.int .u8 a1_3) := (zG BK522.out 3).trans rfl
                                have hfz73_0 := zJ BK522.out 0; have hfz73_1 := zJ BK522.out 1; have hfz73_2 := zJ BK522.out 2; have hfz73_3 := zJ BK522.out 3; try go_wp2
                                have n0_ := zA.mk (Kd.R_drew HO_8.out); have n1_ := zA.mk (Kd.R_drew HO_9.out); have n2_ := zA.mk (Kd.R_drew HO_10.out); have n3_ := zA.mk (zE BK521.out); have n4_ := zA.mk (zE BK522.out); have n5_ := zA.mk (zE BK523.out); have n6_ := zA.mk (zH HB.out); clear HO_8; clear HO_9; clear HO_10; clear BK521; clear BK522; clear BK523; clear HB; have HO_8 := n0_; have HO_9 := n1_; have HO_10 := n2_; have BK521 := n3_; have BK522 := n4_; have BK523 := n5_; have HB := n6_; clear n0_ n1_ n2_ n3_ n4_ n5_ n6_; obtain ⟨Ao75, co75, eo75⟩ := Kd.R_slice HO_8.out; (first | subst eo75 | (injection eo75 with f1_ f2_ f3_; have f4_ := f1_.symm; have f5_ := f3_.symm; clear f1_ f2_ f3_; subst f4_; subst f5_))
                                have p533 : 0 ≤ ((ji37) : Int) := of_decide_eq_true (by first | (with_reducible assumption) | assumption)
                                have q533 : (ji37) < (t525.length : Int) := of_decide_eq_true (by first | (with_reducible assumption) | assumption)
                                obtain ⟨ad533, e533, hx533_0⟩ := Kd.at_int (Kd.R_reads' HO_8.out).2.2 (ji37) p533 q533; cases e533
                                replace p533 := eq_true p533; replace q533 := eq_true q533; have p534 : 0 ≤ (x12_3 : Int) := of_decide_eq_true (by first | (with_reducible assumption) | assumption)
                                have q534 : x12_3 < (t525.length : Int) := of_decide_eq_true (by first | (with_reducible assumption) | assumption)
                                obtain ⟨ad534, e534, hx534_0⟩ := Kd.at_int (Kd.R_reads' HO_8.out).2.2 x12_3 p534 q534; obtain rfl : ad533 = ad534 := (by injection e534)
                                replace p534 := eq_true p534; replace q534 := eq_true q534; refine start_ (n := 11) (S := fun w' => w'.cell? (ad533.add ((ji37)).toNat) = some (.int .i64 (rd t525 (ji37))) ∧ w'.cell? (ad533.add (x12_3).toNat) = some (.int .i64 (rd t525 x12_3))) (ds := []) #[false, false, false, false, false, false, false, false, false, false, false] (by kernel_rfl) rfl rfl ⟨hx533_0, hx534_0⟩ (fun hHeld => ?_); refine with_tabW stanzaref13_Wide.tab11 stanzaref13_Wide.bits11 (fun HT_ HW_ => ?_)
                                generalize wr.drew = w74 at HO_8 HO_9 HO_10 BK521 BK522 BK523 HB hx533_0 hx534_0 hHeld ⊢
                                refine pure_ (i := 0) (N := some 63) (v := ?_) (a' := ?_) #[true, false, false, false, false, false, false, false, false, false, false] rfl rfl (any_of HT_.out (by kernel_rfl)) (fun _ _ _ h => h) (Or.inl ⟨by rfl, ?_⟩) ?_ ?_
                                rotate_left
                                · intro w'
                                  go_simp
                                  with_reducible rfl
                                rotate_left
                                · simp only [Act.put, List.setIfInBounds_toArray, List.set_cons_zero, List.set_cons_succ, zM, zN]
                                  rfl
                                refine pure_ (i := 1) (N := some 64) (v := ?_) (a' := ?_) #[true, true, false, false, false, false, false, false, false, false, false] rfl rfl (any_of HT_.out (by kernel_rfl)) (fun _ _ _ h => h) (Or.inl ⟨by rfl, ?_⟩) ?_ ?_
                                rotate_left
                                · intro w'
                                  go_simp
                                  with_reducible rfl
                                rotate_left
                                · simp only [Act.put, List.setIfInBounds_toArray, List.set_cons_zero, List.set_cons_succ, zM, zN]
                                  rfl
                                refine pure_ (i := 2) (N := some 65) (v := ?_) (a' := ?_) #[true, true, true, false, false, false, false, false, false, false, false] rfl rfl (any_of HT_.out (by kernel_rfl)) (fun _ _ _ h => h) (Or.inl ⟨by rfl, ?_⟩) ?_ ?_
                                rotate_left
                                · intro w'
                                  go_simp
                                  with_reducible rfl
                                rotate_left
                                · simp only [Act.put, List.setIfInBounds_toArray, List.set_cons_zero, List.set_cons_succ, zM, zN]
                                  rfl
                                refine pure_ (i := 3) (N := some 66) (v := ?_) (a' := ?_) #[true, true, true, true, false, false, false, false, false, false, false] rfl rfl (any_of HT_.out (by kernel_rfl)) (fun _ _ _ h => h) (Or.inl ⟨by rfl, ?_⟩) ?_ ?_
                                rotate_left
                                · intro w'
                                  go_simp
                                  with_reducible rfl
                                rotate_left
                                · simp only [Act.put, List.setIfInBounds_toArray, List.set_cons_zero, List.set_cons_succ, zM, zN]
                                  rfl
                                refine pure_ (i := 5) (N := some 68) (v := ?_) (a' := ?_) #[true, true, true, true, false, true, false, false, false, false, false] rfl rfl (any_of HT_.out (by kernel_rfl)) (fun _ _ _ h => h) (Or.inl ⟨by rfl, ?_⟩) ?_ ?_
                                rotate_left
                                · intro w'
                                  go_simp
                                  with_reducible rfl
                                rotate_left
                                · simp only [Act.put, List.setIfInBounds_toArray, List.set_cons_zero, List.set_cons_succ, zM, zN]
                                  rfl
                                refine pure_ (i := 6) (N := some 69) (v := ?_) (a' := ?_) #[true, true, true, true, false, true, true, false, false, false, false] rfl rfl (any_of HT_.out (by kernel_rfl)) (fun _ _ _ h => h) (Or.inl ⟨by rfl, ?_⟩) ?_ ?_
                                rotate_left
                                · intro w'
                                  go_simp
                                  with_reducible rfl
                                rotate_left
                                · simp only [Act.put, List.setIfInBounds_toArray, List.set_cons_zero, List.set_cons_succ, zM, zN]
                                  rfl
                                refine pure_ (i := 7) (N := some 70) (v := ?_) (a' := ?_) #[true, true, true, true, false, true, true, true, false, false, false] rfl rfl (any_of HT_.out (by kernel_rfl)) (fun _ _ _ h => h) (Or.inl ⟨by rfl, ?_⟩) ?_ ?_
                                rotate_left
                                · intro w'
                                  go_simp
                                  with_reducible rfl
                                rotate_left
                                · simp only [Act.put, List.setIfInBounds_toArray, List.set_cons_zero, List.set_cons_succ, zM, zN]
                                  rfl
                                refine take_ (i := 4) (N := some 67) (v := ?_) (a' := ?_) #[true, true, true, true, true, true, true, true, false, false, false] rfl rfl (take_ofW HT_.out HW_.out (by kernel_rfl)) (fun _ _ _ h => h) (Or.inl ⟨by rfl, ?_⟩) hHeld ?_ ?_
                                rotate_left
                                · rintro w' ⟨s0, s1⟩
                                  go_simp
                                  with_reducible rfl
                                rotate_left
                                · simp only [Act.put, List.setIfInBounds_toArray, List.set_cons_zero, List.set_cons_succ, zM, zN]
                                  rfl
                                refine take_ (i := 8) (N := some 71) (v := ?_) (a' := ?_) #[true, true, true, true, true, true, true, true, true, false, false] rfl rfl (take_ofW HT_.out HW_.out (by kernel_rfl)) (fun _ _ _ h => h) (Or.inl ⟨by rfl, ?_⟩) hHeld ?_ ?_
                                rotate_left
                                · rintro w' ⟨s0, s1⟩
                                  go_simp
                                  with_reducible rfl
                                rotate_left
                                · simp only [Act.put, List.setIfInBounds_toArray, List.set_cons_zero, List.set_cons_succ, zM, zN]
                                  rfl
                                refine pure_ (i := 9) (N := some 72) (v := ?_) (a' := ?_) #[true, true, true, true, true, true, true, true, true, true, false] rfl rfl (any_of HT_.out (by kernel_rfl)) (fun _ _ _ h => h) (Or.inl ⟨by rfl, ?_⟩) ?_ ?_
                                rotate_left
                                · intro w'
                                  go_simp
                                  with_reducible rfl
                                rotate_left
                                · simp only [Act.put, List.setIfInBounds_toArray, List.set_cons_zero, List.set_cons_succ, zM, zN]
                                  rfl
                                refine pure_ (i := 10) (N := some 13) (v := ?_) (a' := ?_) #[true, true, true, true, true, true, true, true, true, true, true] rfl rfl (any_of HT_.out (by kernel_rfl)) (fun _ _ _ h => h) (Or.inl ⟨by rfl, ?_⟩) ?_ ?_
                                rotate_left
                                · intro w'
                                  go_simp
                                  with_reducible rfl
                                rotate_left
                                · simp only [Act.put, List.setIfInBounds_toArray, List.set_cons_zero, List.set_cons_succ, zM, zN]
                                  rfl
                                refine done_ (done_of HT_.out (by kernel_rfl)) ?_
                                have hnb76 := NB521_523.out; have hnc76 := NB523_521.out; have hcz77_0 : w74.cell? ⟨gb521, 0, none⟩ = some (.slice A0_0 l0_0.length c0_0) := (zG BK521.out 0).trans rfl
                                have hcz77_1 : w74.cell? ⟨gb521, 1, none⟩ = some (.slice A0_1 l0_1.length c0_1) := (zG BK521.out 1).trans rfl
                                have hfz77_0 := zJ BK521.out 0; have hfz77_1 := zJ BK521.out 1; have hcz78_0 : w74.cell? ⟨gb522, 0, none⟩ = some (.int .i64 a1_0) := (zG BK522.out 0).trans rfl
                                have hcz78_1 : w74.cell? ⟨gb522, 1, none⟩ = some (.int .i64 a1_1) := (zG BK522.out 1).trans rfl
                                have hcz78_2 : w74.cell? ⟨gb522, 2, none⟩ = some (.int .i64 a1_2) := (zG BK522.out 2).trans rfl
                                have hcz78_3 : w74.cell? ⟨gb522, 3, none⟩ = some (.int .u8 a1_3) := (zG BK522.out 3).trans rfl
                                have hfz78_0 := zJ BK522.out 0; have hfz78_1 := zJ BK522.out 1; have hfz78_2 := zJ BK522.out 2; have hfz78_3 := zJ BK522.out 3; have p535 : 0 ≤ ((ji42) : Int) := of_decide_eq_true (by first | (with_reducible assumption) | assumption)
                                have q535 : (ji42) < (l0_0.length : Int) := of_decide_eq_true (by first | (with_reducible assumption) | assumption)
                                obtain ⟨ad535, e535, hx535_0, hx535_1, hx535_2, hx535_3⟩ := at_T41 HR0_0.out (ji42) p535 q535; cases e535
                                replace hx535_0 := (HB.out.cell (World.block_lt_of_cell? w _ hx535_0)).trans hx535_0; replace hx535_1 := (HB.out.cell (World.block_lt_of_cell? w _ hx535_1)).trans hx535_1; replace hx535_2 := (HB.out.cell (World.block_lt_of_cell? w _ hx535_2)).trans hx535_2; replace hx535_3 := (HB.out.cell (World.block_lt_of_cell? w _ hx535_3)).trans hx535_3; replace p535 := eq_true p535; replace q535 := eq_true q535; try go_wp2_with (first | ((with_reducible refine gate_builtin (b := .append) (xs := #[.tmp 95, .tmp 97]) rfl ?_); at_builtin; refine Kd.R_append (Kd.int .i64) (w0 := w) w.heap.size rfl (.tmp 95) (.tmp 97) 24 3 (.int .i64 0) 8 rfl Try.underlying24 info3 rfl (by decide) (by omega) u10 x10_3 (wrap64 ((rd t525 (ji37)) - (rd t525 x12_3))) [.int .i64 (wrap64 ((rd t525 (ji37)) - (rd t525 x12_3)))] (fun k_ => some k_ ≠ (.slice (some ad533) t525.length co75 : Value).ownBlock ∧ some k_ ≠ (u9 : Value).ownBlock) (fun _ => False) rfl rfl ?aP (fun _ hk => hk.elim) ?aF ?aO ?aB ?aS ?aL ?_; (case aP => exact rfl); (case aB => exact (by repeat (first | (with_reducible first | exact HB.out | apply zI | apply zF | apply zH | refine zD ?_ GE521.out | refine zD ?_ GE522.out | refine zD ?_ GE523.out) | exact HB.out))); (case aF => exact (fun k_ hk => ⟨Kd.fresh' (Kd.R_lt (by (with_reducible repeat (first | apply Kd.R_alloc | apply Kd.R_drewN | apply Kd.R_drew)); exact HO_8.out)) k_ hk, Kd.fresh' (Kd.R_lt (by (with_reducible repeat (first | apply Kd.R_alloc | apply Kd.R_drewN | apply Kd.R_drew)); exact HO_9.out)) k_ hk⟩)); (case aO => exact (by (with_reducible repeat (first | apply Kd.R_alloc | apply Kd.R_drewN | apply Kd.R_drew)); exact HO_10.out)); (case aS => exact (zL (by repeat (first | (with_reducible first | exact HB.out | apply zI | apply zF | apply zH | refine zD ?_ GE521.out | refine zD ?_ GE522.out | refine zD ?_ GE523.out) | exact HB.out)))); (case aL => have := LMc70.out; omega); intro v544 w79 ho hb hg hat; rw [← Ny543.out] at ho; have n0_ := zA.mk (Kd.R_after (ok := (fun k_ => some k_ ≠ (u9 : Value).ownBlock)) (by (with_reducible repeat (first | apply Kd.R_alloc | apply Kd.R_drewN | apply Kd.R_drew)); exact HO_8.out) hg hat); have n1_ := zA.mk (Kd.R_after (ok := (fun k_ => some k_ ≠ (.slice (some ad533) t525.length co75 : Value).ownBlock)) (by (with_reducible repeat (first | apply Kd.R_alloc | apply Kd.R_drewN | apply Kd.R_drew)); exact HO_9.out) hg hat); have n2_ := zA.mk (blk_grown (g := gb521) (o := .cells #[.slice (some ad535) l0_0.length c0_0, .slice A0_1 l0_1.length c0_1] 35 (0, 0)) (by (with_reducible repeat (first | refine zB ?_ _ | refine zE ?_ | refine zC ?_ _)); exact BK521.out) hg (Kd.R_ne HO_10.out BK521.out (by decide))); have n3_ := zA.mk (blk_grown (g := gb522) (o := .cells #[.int .i64 a1_0, .int .i64 a1_1, .int .i64 a1_2, .int .u8 a1_3] 63 (0, 0)) (by (with_reducible repeat (first | refine zB ?_ _ | refine zE ?_ | refine zC ?_ _)); exact BK522.out) hg (Kd.R_ne HO_10.out BK522.out (by decide))); have n4_ := zA.mk (blk_grown (g := gb523) (o := .cells #[.int .i64 a2_0, .int .i64 a2_1, .int .u8 a2_2, .int .i64 a2_3, .int .i64 a2_4, .float .f64 a2_5] 58 (0, 0)) (by (with_reducible repeat (first | refine zB ?_ _ | refine zE ?_ | refine zC ?_ _)); exact BK523.out) hg (Kd.R_ne HO_10.out BK523.out (by decide))); have n5_ := zA.mk (hb); have n6_ := zA.mk (ho); clear HO_8; clear HO_9; clear BK521; clear BK522; clear BK523; clear HB; clear HO_10; have HO_8 := n0_; have HO_9 := n1_; have BK521 := n2_; have BK522 := n3_; have BK523 := n4_; have HB := n5_; have HO545 := n6_; clear n0_ n1_ n2_ n3_ n4_ n5_ n6_; clear ho hb hg hat))
                                go_roundg k3
                                case measure => have := HJ5.out; have := HJ26.out; have := HK3.out; omega
                                case rel => exact ⟨(y543), (x11_3), (ji37), (by first | rfl | (simp; done) | (simp [*]; done)), (by first | rfl | (simp; done) | (simp only [← hji37] <;> (first | rfl | simp)) | (simp [*]; done)), H', ⟨by have := HJ5.out; have := HJ26.out; have := HK3.out; omega⟩, ⟨by (with_reducible repeat (first | apply Kd.R_alloc | apply Kd.R_drewN | apply Kd.R_drew)); exact HO_8.out⟩, ⟨by (with_reducible repeat (first | apply Kd.R_alloc | apply Kd.R_drewN | apply Kd.R_drew)); exact HO_9.out⟩, ⟨by (with_reducible repeat (first | apply Kd.R_alloc | apply Kd.R_drewN | apply Kd.R_drew)); exact HO545.out⟩, ⟨by (with_reducible repeat (first | refine zB ?_ _ | refine zE ?_ | refine zC ?_ _)); exact BK521.out⟩, ⟨by (with_reducible repeat (first | refine zB ?_ _ | refine zE ?_ | refine zC ?_ _)); exact BK522.out⟩, ⟨by (with_reducible repeat (first | refine zB ?_ _ | refine zE ?_ | refine zC ?_ _)); exact BK523.out⟩, ⟨by repeat (first | (with_reducible first | exact HB.out | apply zI | apply zF | apply zH | refine zD ?_ GE521.out | refine zD ?_ GE522.out | refine zD ?_ GE523.out) | exact HB.out)⟩⟩
                              · rw [if_neg c70] at H
                                exact absurd H (by simp)
                          · rw [if_neg c44] at H
                            exact absurd H (by simp)
                        · rw [if_neg c43] at H
                          exact absurd H (by simp)
                      · rw [if_neg c41] at H
                        exact absurd H (by simp)
                    · rw [if_neg c40] at H
                      exact absurd H (by simp)
                  · rw [if_neg c39] at H
                    exact absurd H (by simp)
                · rw [if_neg c38] at H
                  exact absurd H (by simp)
              · rw [if_neg c36] at H
                have c36b0 : decide (x12_3 < (wrap64 (t524 - a1_0))) = false := decide_eq_false c36
                clear c36; obtain rfl := Option.some.inj H
                have hnb80 := NB522_521.out; have hnc80 := NB521_522.out; have hnb81 := NB522_523.out; have hnc81 := NB523_522.out; have hcz82_0 : wr.cell? ⟨gb522, 0, none⟩ = some (.int .i64 a1_0) := (zG BK522.out 0).trans rfl
                have hcz82_1 : wr.cell? ⟨gb522, 1, none⟩ = some (.int .i64 a1_1) := (zG BK522.out 1).trans rfl
                have hcz82_2 : wr.cell? ⟨gb522, 2, none⟩ = some (.int .i64 a1_2) := (zG BK522.out 2).trans rfl
                have hcz82_3 : wr.cell? ⟨gb522, 3, none⟩ = some (.int .u8 a1_3) := (zG BK522.out 3).trans rfl
                have hfz82_0 := zJ BK522.out 0; have hfz82_1 := zJ BK522.out 1; have hfz82_2 := zJ BK522.out 2; have hfz82_3 := zJ BK522.out 3; go_wp2
                go_ret
                exact ⟨_, by first | rfl | (simp [errW_none, errW_some] <;> rfl) | (simp [*, errW_none, errW_some] <;> rfl), by (with_reducible repeat (first | apply Kd.R_alloc | apply Kd.R_drewN | apply Kd.R_drew)); exact Kd.R_mono HO_10.out (fun _ hk => trivial), by repeat (first | (with_reducible first | exact HB.out | apply zI | apply zF | apply zH | refine zD ?_ GE521.out | refine zD ?_ GE522.out | refine zD ?_ GE523.out) | exact HB.out)⟩
end Go.Proofs.Ytbnoeeflpegcoaa.F
end
section
namespace Go.Proofs.Ytbnoeeflpegcoaa.F
open Go.RowKit Go.Proofs.YtbnoeeflpegcoaaW.PrintWords Go.Proofs.YtbnoeeflpegcoaaW.PrintLast Go.Proofs.YtbnoeeflpegcoaaW.PrintMore
attribute [local go_sem] max2_int min2_int max_two min_two max_three min_three max_four min_four   -- for this text's walks alone
set_option linter.unusedVariables false
set_option linter.unusedSimpArgs false
def stanzalaw18_JustLines.l0 : Nat → List (S63) → Int → Int → List (S41) → List Int → Int → Int → Int → Int → Int → Nat → Option (Bool)
  | 0, _, _, _, _, _, _, _, _, _, _, _ => none
  | k + 1, x19, x20, x21, x564000, x564001, x565000, x565001, x565002, x565003, x565004, x565005 => if x21 < x20 then (if 0 ≤ x21 then (if x21 < (x19.length : Int) then ((just_Line.f k x564000 x564001 ((rd_T63 x19 x21).f0) ((rd_T63 x19 x21).f1) ((rd_T63 x19 x21).f2) ((rd_T63 x19 x21).f3) x565000 x565001 x565002 x565003 x565004 x565005).bind fun t567 => ((stanzaref13_Wide.f k x564000 x564001 ((rd_T63 x19 x21).f0) ((rd_T63 x19 x21).f1) ((rd_T63 x19 x21).f2) ((rd_T63 x19 x21).f3) x565000 x565001 x565002 x565003 x565004 x565005).bind fun t570 => ((stanzaref01_SameInts.f k t567 t570).bind fun t573 => (if t573 = true then (stanzalaw18_JustLines.l0 k x19 x20 (wrap64 (x21 + 1)) x564000 x564001 x565000 x565001 x565002 x565003 x565004 x565005) else (some false))))) else (none)) else (none)) else (some true)
def stanzalaw18_JustLines.f (k : Nat) (l0 : List (S50)) (a1_0 : Int) (a1_1 : Int) (a1_2 : Int) (a1_3 : Int) (a1_4 : Int) (a1_5 : Nat) : Option (Bool) := (stanzalaw18_Awake.f k).bind fun t547 => (if t547 = true then ((stanzalaw18_lined.f k l0 a1_0 a1_1 a1_2 a1_3 a1_4 a1_5).bind fun bt548 => (stanzalaw18_JustLines.l0 k bt548.2.2.1 (bt548.2.2.1.length : Int) 0 bt548.1 bt548.2.1 bt548.2.2.2.1 bt548.2.2.2.2.1 bt548.2.2.2.2.2.1 bt548.2.2.2.2.2.2.1 bt548.2.2.2.2.2.2.2.1 bt548.2.2.2.2.2.2.2.2)) else (some false))
theorem stanzalaw18_JustLines.mono_l : ∀ k, (∀ y0 y1 y2 y3 y4 y5 y6 y7 y8 y9 y10, LeO (stanzalaw18_JustLines.l0 k y0 y1 y2 y3 y4 y5 y6 y7 y8 y9 y10) (stanzalaw18_JustLines.l0 (k + 1) y0 y1 y2 y3 y4 y5 y6 y7 y8 y9 y10))
  | 0 => fun _ _ _ _ _ _ _ _ _ _ _ r h => by simp [stanzalaw18_JustLines.l0] at h
  | k + 1 => by
    have ih0 := stanzalaw18_JustLines.mono_l k
    · intro y0 y1 y2 y3 y4 y5 y6 y7 y8 y9 y10
      unfold stanzalaw18_JustLines.l0
      repeat' first
      | (with_reducible exact ih0 _ _ _ _ _ _ _ _ _ _ _)
      | (with_reducible exact just_Line.mono _ _ _ _ _ _ _ _ _ _ _ _ _)
      | (with_reducible exact stanzalaw18_Awake.mono _)
      | (with_reducible exact stanzalaw18_lined.mono _ _ _ _ _ _ _ _)
      | (with_reducible exact stanzaref01_SameInts.mono _ _ _)
      | (with_reducible exact stanzaref13_Wide.mono _ _ _ _ _ _ _ _ _ _ _ _ _)
      | (with_reducible exact LeO.refl _)
      | (with_reducible exact LeO.none _)
      | (with_reducible refine LeO.ite ?_ ?_)
      | (with_reducible refine LeO.bind ?_ (fun _ => ?_))
      | exact ih0 _ _ _ _ _ _ _ _ _ _ _
      | exact just_Line.mono _ _ _ _ _ _ _ _ _ _ _ _ _
      | exact stanzalaw18_Awake.mono _
      | exact stanzalaw18_lined.mono _ _ _ _ _ _ _ _
      | exact stanzaref01_SameInts.mono _ _ _
      | exact stanzaref13_Wide.mono _ _ _ _ _ _ _ _ _ _ _ _ _
      | exact LeO.none _
      | refine LeO.ite ?_ ?_
      | refine LeO.bind ?_ (fun _ => ?_)
theorem stanzalaw18_JustLines.mono : ∀ a0 a1 a2 a3 a4 a5 a6 k, LeO (stanzalaw18_JustLines.f k a0 a1 a2 a3 a4 a5 a6) (stanzalaw18_JustLines.f (k + 1) a0 a1 a2 a3 a4 a5 a6) := by
  intro a0 a1 a2 a3 a4 a5 a6 k
  have ih0 := stanzalaw18_JustLines.mono_l k; unfold stanzalaw18_JustLines.f
  repeat' first
      | (with_reducible exact ih0 _ _ _ _ _ _ _ _ _ _ _)
      | (with_reducible exact just_Line.mono _ _ _ _ _ _ _ _ _ _ _ _ _)
      | (with_reducible exact stanzalaw18_Awake.mono _)
      | (with_reducible exact stanzalaw18_lined.mono _ _ _ _ _ _ _ _)
      | (with_reducible exact stanzaref01_SameInts.mono _ _ _)
      | (with_reducible exact stanzaref13_Wide.mono _ _ _ _ _ _ _ _ _ _ _ _ _)
      | (with_reducible exact LeO.refl _)
      | (with_reducible exact LeO.none _)
      | (with_reducible refine LeO.ite ?_ ?_)
      | (with_reducible refine LeO.bind ?_ (fun _ => ?_))
      | exact ih0 _ _ _ _ _ _ _ _ _ _ _
      | exact just_Line.mono _ _ _ _ _ _ _ _ _ _ _ _ _
      | exact stanzalaw18_Awake.mono _
      | exact stanzalaw18_lined.mono _ _ _ _ _ _ _ _
      | exact stanzaref01_SameInts.mono _ _ _
      | exact stanzaref13_Wide.mono _ _ _ _ _ _ _ _ _ _ _ _ _
      | exact LeO.none _
      | refine LeO.ite ?_ ?_
      | refine LeO.bind ?_ (fun _ => ?_)
def stanzalaw18_JustLines.T7 : Bool × List (List Nat × List Nat) := (true, [([], []), ([], []), ([], []), ([0, 1, 2], [0, 1, 2]), ([], []), ([], []), ([], []), ([4, 5, 6, 3], [4, 5, 6]), ([3, 7, 7], [3, 7]), ([8], [8])])
def stanzalaw18_JustLines.B7 : List Nat := [0, 0, 0, 7, 0, 0, 0, 127, 255, 511]
theorem stanzalaw18_JustLines.tab7 : rtab .any (opsOf Try.f12 7) = stanzalaw18_JustLines.T7 := by kernel_rfl
theorem stanzalaw18_JustLines.bits7 : waitsOk stanzalaw18_JustLines.T7.2 stanzalaw18_JustLines.B7 = true := by kernel_rfl
set_option maxHeartbeats 8000000 in
set_option maxRecDepth 100000 in
theorem stanzalaw18_JustLines.calls (k : Nat) (A0 : Option Addr) (c0 : Nat) (l0 : List (S50)) (a1_0 : Int) (a1_1 : Int) (a1_2 : Int) (a1_3 : Int) (a1_4 : Int) (a1_5 : Nat) (r : Bool) (w : World) (hr0 : Kd.C k50 w A0 l0.length l0) (hc0 : l0.length ≤ c0) (h : stanzalaw18_JustLines.f k l0 a1_0 a1_1 a1_2 a1_3 a1_4 a1_5 = some r) (hrt_ : zA (r = true)) :
    Calls Try.prog 12 #[.slice A0 l0.length c0, .agg #[.int .u8 a1_0, .int .u8 a1_1, .int .u8 a1_2, .int .u16 a1_3, .int .u16 a1_4, .float .f64 a1_5]] w fun e w' => e = .returned (.bool r) ∧ Below w.heap.size w w' := by
  have hu67 := Try.underlying67; have hu35 := Try.underlying35; have hu58 := Try.underlying58; have hu63 := Try.underlying63; have HR0 := zA.mk hr0; have HC0 := zA.mk hc0; clear hr0 hc0; have HB := zA.mk (Below.refl w.heap.size w); have H : ((stanzalaw18_Awake.f k).bind fun t547 => (if t547 = true then ((stanzalaw18_lined.f k l0 a1_0 a1_1 a1_2 a1_3 a1_4 a1_5).bind fun bt548 => (stanzalaw18_JustLines.l0 k bt548.2.2.1 (bt548.2.2.1.length : Int) 0 bt548.1 bt548.2.1 bt548.2.2.2.1 bt548.2.2.2.2.1 bt548.2.2.2.2.2.1 bt548.2.2.2.2.2.2.1 bt548.2.2.2.2.2.2.2.1 bt548.2.2.2.2.2.2.2.2)) else (some false))) = some r := h
  clear h; replace H := Option.bind_eq_some_iff.mp H; obtain ⟨t547, A30, H⟩ := H; replace H : (if t547 = true then ((stanzalaw18_lined.f k l0 a1_0 a1_1 a1_2 a1_3 a1_4 a1_5).bind fun bt548 => (stanzalaw18_JustLines.l0 k bt548.2.2.1 (bt548.2.2.1.length : Int) 0 bt548.1 bt548.2.1 bt548.2.2.2.1 bt548.2.2.2.2.1 bt548.2.2.2.2.2.1 bt548.2.2.2.2.2.2.1 bt548.2.2.2.2.2.2.2.1 bt548.2.2.2.2.2.2.2.2)) else (some false)) = some r := H
  have A3 := zA.mk A30; clear A30; by_cases c4 : t547 = true
  · subst c4
    have H1 : ((stanzalaw18_lined.f k l0 a1_0 a1_1 a1_2 a1_3 a1_4 a1_5).bind fun bt548 => (stanzalaw18_JustLines.l0 k bt548.2.2.1 (bt548.2.2.1.length : Int) 0 bt548.1 bt548.2.1 bt548.2.2.2.1 bt548.2.2.2.2.1 bt548.2.2.2.2.2.1 bt548.2.2.2.2.2.2.1 bt548.2.2.2.2.2.2.2.1 bt548.2.2.2.2.2.2.2.2)) = some r := by rw [if_pos rfl] at H; exact H
    clear H; have H := H1; clear H1; replace H := Option.bind_eq_some_iff.mp H; obtain ⟨⟨t548, t551, t554, t557, t558, t559, t560, t561, t562⟩, A50, H⟩ := H; replace H : (stanzalaw18_JustLines.l0 k t554 (t554.length : Int) 0 t548 t551 t557 t558 t559 t560 t561 t562) = some r := H; have A5 := zA.mk A50; clear A50; have H' := zA.mk H
    clear H; go_enter Try.func12, Try.ntmps12
    go_wp2_with (first | ((with_reducible refine gate_dst (N := 3) rfl ?_); refine box_event ?hg (N := 3) ?hd (cs := #[.int .u8 a1_0, .int .u8 a1_1, .int .u8 a1_2, .int .u16 a1_3, .int .u16 a1_4, .float .f64 a1_5]) (t := 67) ?hr ?_; (case hd => rfl); (case hg => rfl); (case hr => first | (go_simp; done) | (go_simp; rfl)); intro gb546 hg w6 hbox hb; have n0_ := zA.mk (zO (by repeat (first | (with_reducible first | exact HB.out | apply zI | apply zF | apply zH) | exact HB.out)) hb); have n1_ := zA.mk (hbox); have n2_ := zA.mk ((by rw [hg]; exact (zL (by repeat (first | (with_reducible first | exact HB.out | apply zI | apply zF | apply zH) | exact HB.out))) : w.heap.size ≤ gb546)); have n3_ := zA.mk ((by rw [hg]; exact (zL (by repeat (first | (with_reducible first | exact HB.out | apply zI | apply zF | apply zH) | exact HB.out))) : w.heap.size ≤ gb546)); clear HB; have HB := n0_; have BK546 := n1_; have GW546 := n2_; have GE546 := n3_; clear n0_ n1_ n2_ n3_; clear hb hbox hg) | ((with_reducible refine gate_callee (f := 14) rfl ?_); refine goesL_ (some 10) rfl rfl Try.func14 (by kernel_rfl) rfl #[] rfl (by (try simp only [List.map_toArray, List.map_cons, List.map_nil]); first | done | rfl | (simp only [List.length_drop, List.length_take]; rfl)) ?_; (with_reducible refine (stanzalaw18_Awake.calls k  true _ A3.out (by first | exact ⟨rfl⟩ | exact hrt_)).mono ?_); rintro e w7 ⟨rfl, hb⟩; refine ⟨_, rfl, ?_⟩; have n0_ := zA.mk (zK (g := gb546) (o := .cells #[.int .u8 a1_0, .int .u8 a1_1, .int .u8 a1_2, .int .u16 a1_3, .int .u16 a1_4, .float .f64 a1_5] 67 (0, 0)) (by (with_reducible repeat (first | refine zB ?_ _ | refine zE ?_ | refine zC ?_ _)); exact BK546.out) hb); have n1_ := zA.mk (zO (by repeat (first | (with_reducible first | exact HB.out | apply zI | apply zF | apply zH | refine zD ?_ GE546.out) | exact HB.out)) hb); clear BK546; clear HB; have BK546 := n0_; have HB := n1_; clear n0_ n1_; (try clear hb); (try clear hb2); (try clear hk); (try clear hi); have hcz8_0 : w7.cell? ⟨gb546, 0, none⟩ = some (.int .u8 a1_0) := (zG BK546.out 0).trans rfl; have hcz8_1 : w7.cell? ⟨gb546, 1, none⟩ = some (.int .u8 a1_1) := (zG BK546.out 1).trans rfl; have hcz8_2 : w7.cell? ⟨gb546, 2, none⟩ = some (.int .u8 a1_2) := (zG BK546.out 2).trans rfl; have hcz8_3 : w7.cell? ⟨gb546, 3, none⟩ = some (.int .u16 a1_3) := (zG BK546.out 3).trans rfl; have hcz8_4 : w7.cell? ⟨gb546, 4, none⟩ = some (.int .u16 a1_4) := (zG BK546.out 4).trans rfl; have hcz8_5 : w7.cell? ⟨gb546, 5, none⟩ = some (.float .f64 a1_5) := (zG BK546.out 5).trans rfl; have hfz8_0 := zJ BK546.out 0; have hfz8_1 := zJ BK546.out 1; have hfz8_2 := zJ BK546.out 2; have hfz8_3 := zJ BK546.out 3; have hfz8_4 := zJ BK546.out 4; have hfz8_5 := zJ BK546.out 5) | ((with_reducible refine gate_callee (f := 36) rfl ?_); refine goesL_ (some 15) rfl rfl Try.func36 (by kernel_rfl) rfl #[.slice A0 l0.length c0, .agg #[.int .u8 a1_0, .int .u8 a1_1, .int .u8 a1_2, .int .u16 a1_3, .int .u16 a1_4, .float .f64 a1_5]] rfl (by (try simp only [List.map_toArray, List.map_cons, List.map_nil]); first | done | rfl | (simp only [List.length_drop, List.length_take]; rfl)) ?_; (with_reducible refine (stanzalaw18_lined.calls k _ _ l0 a1_0 a1_1 a1_2 a1_3 a1_4 a1_5 t548 t551 t554 t557 t558 t559 t560 t561 t562 _ ?side1 ?side2 A5.out).mono ?_); (case side1 => repeat (first | exact (Kd.C_below HR0.out HB.out) | (with_reducible refine Kd.C_alloc ?_ _) | (with_reducible refine Kd.C_drewN ?_ _) | (with_reducible refine Kd.C_drew ?_))); (case side2 => exact HC0.out); rintro e w9 ⟨v549, v552, v555, rfl, ho0, ho1, ho2, hb⟩; refine ⟨_, rfl, ?_⟩; have n0_ := zA.mk (Kd.R_lower ho0 (zL (by repeat (first | (with_reducible first | exact HB.out | apply zI | apply zF | apply zH | refine zD ?_ GE546.out) | exact HB.out)))); have n1_ := zA.mk (Kd.R_lower ho1 (zL (by repeat (first | (with_reducible first | exact HB.out | apply zI | apply zF | apply zH | refine zD ?_ GE546.out) | exact HB.out)))); have n2_ := zA.mk (Kd.R_lower ho2 (zL (by repeat (first | (with_reducible first | exact HB.out | apply zI | apply zF | apply zH | refine zD ?_ GE546.out) | exact HB.out)))); have n3_ := zA.mk (zK (g := gb546) (o := .cells #[.int .u8 a1_0, .int .u8 a1_1, .int .u8 a1_2, .int .u16 a1_3, .int .u16 a1_4, .float .f64 a1_5] 67 (0, 0)) (by (with_reducible repeat (first | refine zB ?_ _ | refine zE ?_ | refine zC ?_ _)); exact BK546.out) hb); have n4_ := zA.mk (zO (by repeat (first | (with_reducible first | exact HB.out | apply zI | apply zF | apply zH | refine zD ?_ GE546.out) | exact HB.out)) hb); clear BK546; clear HB; have HO550 := n0_; have HO553 := n1_; have HO556 := n2_; have BK546 := n3_; have HB := n4_; clear n0_ n1_ n2_ n3_ n4_; (try clear hb); (try clear hb2); (try clear hk); (try clear hi); (try clear ho0); (try clear ho1); (try clear ho2)) | ((with_reducible refine gate_dst (N := 5) rfl ?_); refine box_event ?hg (N := 5) ?hd (cs := #[.slice none 0 0, .slice none 0 0]) (t := 35) ?hr ?_; (case hd => rfl); (case hg => rfl); (case hr => first | (go_simp; done) | (go_simp; rfl)); intro gb563 hg w10 hbox hb; have n0_ := zA.mk (Kd.R_below (by (with_reducible repeat (first | apply Kd.R_alloc | apply Kd.R_drewN | apply Kd.R_drew)); exact HO550.out) hb); have n1_ := zA.mk (Kd.R_below (by (with_reducible repeat (first | apply Kd.R_alloc | apply Kd.R_drewN | apply Kd.R_drew)); exact HO553.out) hb); have n2_ := zA.mk (Kd.R_below (by (with_reducible repeat (first | apply Kd.R_alloc | apply Kd.R_drewN | apply Kd.R_drew)); exact HO556.out) hb); have n3_ := zA.mk (zK (g := gb546) (o := .cells #[.int .u8 a1_0, .int .u8 a1_1, .int .u8 a1_2, .int .u16 a1_3, .int .u16 a1_4, .float .f64 a1_5] 67 (0, 0)) (by (with_reducible repeat (first | refine zB ?_ _ | refine zE ?_ | refine zC ?_ _)); exact BK546.out) hb); have n4_ := zA.mk (zO (by repeat (first | (with_reducible first | exact HB.out | apply zI | apply zF | apply zH | refine zD ?_ GE546.out) | exact HB.out)) hb); have n5_ := zA.mk (hbox); have n6_ := zA.mk ((by rw [hg]; exact (zL (by repeat (first | (with_reducible first | exact HB.out | apply zI | apply zF | apply zH | refine zD ?_ GE546.out) | exact HB.out))) : w.heap.size ≤ gb563)); have n7_ := zA.mk ((by rw [hg]; exact (zL (by repeat (first | (with_reducible first | exact HB.out | apply zI | apply zF | apply zH | refine zD ?_ GE546.out) | exact HB.out))) : w.heap.size ≤ gb563)); have n8_ := zA.mk ((by rw [hg]; exact Nat.ne_of_lt (blk_lt (g := gb546) (o := .cells #[.int .u8 a1_0, .int .u8 a1_1, .int .u8 a1_2, .int .u16 a1_3, .int .u16 a1_4, .float .f64 a1_5] 67 (0, 0)) (by (with_reducible repeat (first | refine zB ?_ _ | refine zE ?_ | refine zC ?_ _)); exact BK546.out)) : gb546 ≠ gb563)); have n9_ := zA.mk ((by rw [hg]; exact Nat.ne_of_gt (blk_lt (g := gb546) (o := .cells #[.int .u8 a1_0, .int .u8 a1_1, .int .u8 a1_2, .int .u16 a1_3, .int .u16 a1_4, .float .f64 a1_5] 67 (0, 0)) (by (with_reducible repeat (first | refine zB ?_ _ | refine zE ?_ | refine zC ?_ _)); exact BK546.out)) : gb563 ≠ gb546)); clear HO550; clear HO553; clear HO556; clear BK546; clear HB; have HO550 := n0_; have HO553 := n1_; have HO556 := n2_; have BK546 := n3_; have HB := n4_; have BK563 := n5_; have GW563 := n6_; have GE563 := n7_; have NB546_563 := n8_; have NB563_546 := n9_; clear n0_ n1_ n2_ n3_ n4_ n5_ n6_ n7_ n8_ n9_; clear hb hbox hg) | ((with_reducible refine gate_dst (N := 7) rfl ?_); refine box_event ?hg (N := 7) ?hd (cs := #[.int .i64 0, .int .i64 0, .int .u8 0, .int .i64 0, .int .i64 0, .float .f64 0]) (t := 58) ?hr ?_; (case hd => rfl); (case hg => rfl); (case hr => first | (go_simp; done) | (go_simp; rfl)); intro gb564 hg w11 hbox hb; have n0_ := zA.mk (Kd.R_below (by (with_reducible repeat (first | apply Kd.R_alloc | apply Kd.R_drewN | apply Kd.R_drew)); exact HO550.out) hb); have n1_ := zA.mk (Kd.R_below (by (with_reducible repeat (first | apply Kd.R_alloc | apply Kd.R_drewN | apply Kd.R_drew)); exact HO553.out) hb); have n2_ := zA.mk (Kd.R_below (by (with_reducible repeat (first | apply Kd.R_alloc | apply Kd.R_drewN | apply Kd.R_drew)); exact HO556.out) hb); have n3_ := zA.mk (zK (g := gb546) (o := .cells #[.int .u8 a1_0, .int .u8 a1_1, .int .u8 a1_2, .int .u16 a1_3, .int .u16 a1_4, .float .f64 a1_5] 67 (0, 0)) (by (with_reducible repeat (first | refine zB ?_ _ | refine zE ?_ | refine zC ?_ _)); exact BK546.out) hb); have n4_ := zA.mk (zK (g := gb563) (o := .cells #[.slice none 0 0, .slice none 0 0] 35 (0, 0)) (by (with_reducible repeat (first | refine zB ?_ _ | refine zE ?_ | refine zC ?_ _)); exact BK563.out) hb); have n5_ := zA.mk (zO (by repeat (first | (with_reducible first | exact HB.out | apply zI | apply zF | apply zH | refine zD ?_ GE546.out | refine zD ?_ GE563.out) | exact HB.out)) hb); have n6_ := zA.mk (hbox); have n7_ := zA.mk ((by rw [hg]; exact (zL (by repeat (first | (with_reducible first | exact HB.out | apply zI | apply zF | apply zH | refine zD ?_ GE546.out | refine zD ?_ GE563.out) | exact HB.out))) : w.heap.size ≤ gb564)); have n8_ := zA.mk ((by rw [hg]; exact (zL (by repeat (first | (with_reducible first | exact HB.out | apply zI | apply zF | apply zH | refine zD ?_ GE546.out | refine zD ?_ GE563.out) | exact HB.out))) : w.heap.size ≤ gb564)); have n9_ := zA.mk ((by rw [hg]; exact Nat.ne_of_lt (blk_lt (g := gb546) (o := .cells #[.int .u8 a1_0, .int .u8 a1_1, .int .u8 a1_2, .int .u16 a1_3, .int .u16 a1_4, .float .f64 a1_5] 67 (0, 0)) (by (with_reducible repeat (first | refine zB ?_ _ | refine zE ?_ | refine zC ?_ _)); exact BK546.out)) : gb546 ≠ gb564)); have n10_ := zA.mk ((by rw [hg]; exact Nat.ne_of_gt (blk_lt (g := gb546) (o := .cells #[.int .u8 a1_0, .int .u8 a1_1, .int .u8 a1_2, .int .u16 a1_3, .int .u16 a1_4, .float .f64 a1_5] 67 (0, 0)) (by (with_reducible repeat (first | refine zB ?_ _ | refine zE ?_ | refine zC ?_ _)); exact BK546.out)) : gb564 ≠ gb546)); have n11_ := zA.mk ((by rw [hg]; exact Nat.ne_of_lt (blk_lt (g := gb563) (o := .cells #[.slice none 0 0, .slice none 0 0] 35 (0, 0)) (by (with_reducible repeat (first | refine zB ?_ _ | refine zE ?_ | refine zC ?_ _)); exact BK563.out)) : gb563 ≠ gb564)); have n12_ := zA.mk ((by rw [hg]; exact Nat.ne_of_gt (blk_lt (g := gb563) (o := .cells #[.slice none 0 0, .slice none 0 0] 35 (0, 0)) (by (with_reducible repeat (first | refine zB ?_ _ | refine zE ?_ | refine zC ?_ _)); exact BK563.out)) : gb564 ≠ gb563)); clear HO550; clear HO553; clear HO556; clear BK546; clear BK563; clear HB; have HO550 := n0_; have HO553 := n1_; have HO556 := n2_; have BK546 := n3_; have BK563 := n4_; have HB := n5_; have BK564 := n6_; have GW564 := n7_; have GE564 := n8_; have NB546_564 := n9_; have NB564_546 := n10_; have NB563_564 := n11_; have NB564_563 := n12_; clear n0_ n1_ n2_ n3_ n4_ n5_ n6_ n7_ n8_ n9_ n10_ n11_ n12_; clear hb hbox hg; obtain ⟨Ao12, co12, eo12⟩ := Kd.R_slice HO550.out; subst eo12; have hnb13 := NB563_546.out; have hnc13 := NB546_563.out; have hnb14 := NB563_564.out; have hnc14 := NB564_563.out; have hcz15_0 : w11.cell? ⟨gb563, 0, none⟩ = some (.slice none 0 0) := (zG BK563.out 0).trans rfl; have hcz15_1 : w11.cell? ⟨gb563, 1, none⟩ = some (.slice none 0 0) := (zG BK563.out 1).trans rfl; have hfz15_0 := zJ BK563.out 0; have hfz15_1 := zJ BK563.out 1; obtain ⟨Ao16, co16, eo16⟩ := Kd.R_slice HO553.out; subst eo16) | ((with_reducible refine gate_store (t := 35) (p := 5) rfl ?_); refine store_event (t := 35) (p := 5) (v := ?vo_w17) (w1 := ((w11.setCell ⟨gb563, 0, none⟩ (.slice Ao12 t548.length co12)).setCell ⟨gb563, 1, none⟩ (.slice Ao16 t551.length co16))) ?hg ?ho ?hn ?hr ?_; (case ho => rfl); (case hg => rfl); (case hn => rfl); (case hr => first | (go_simp; done) | (go_simp; rfl)); intro w17 hw; have n0_ : zA (Kd.R k41 41 w17 w.heap.size (fun _ => True) (.slice Ao12 t548.length co12) t548) := ⟨(by rw [hw]; exact (by (with_reducible repeat (first | apply Kd.R_alloc | apply Kd.R_drewN | apply Kd.R_drew)); exact Kd.R_mono (Kd.R_far (p := ⟨gb563, 1, none⟩) (Kd.R_far (p := ⟨gb563, 0, none⟩) (Kd.R_types HO550.out BK563.out (by decide)) (fun _ hk => hk.2) (.slice Ao12 t548.length co12)) (fun _ hk => hk.2) (.slice Ao16 t551.length co16)) (fun _ hk => trivial)))⟩; have n1_ : zA (Kd.R (Kd.int .u8) 46 w17 w.heap.size (fun _ => True) (.slice Ao16 t551.length co16) t551) := ⟨(by rw [hw]; exact (by (with_reducible repeat (first | apply Kd.R_alloc | apply Kd.R_drewN | apply Kd.R_drew)); exact Kd.R_mono (Kd.R_far (p := ⟨gb563, 1, none⟩) (Kd.R_far (p := ⟨gb563, 0, none⟩) (Kd.R_types HO553.out BK563.out (by decide)) (fun _ hk => hk.2) (.slice Ao12 t548.length co12)) (fun _ hk => hk.2) (.slice Ao16 t551.length co16)) (fun _ hk => trivial)))⟩; have n2_ : zA (Kd.R k63 63 w17 w.heap.size (fun _ => True) v555 t554) := ⟨(by rw [hw]; exact (by (with_reducible repeat (first | apply Kd.R_alloc | apply Kd.R_drewN | apply Kd.R_drew)); exact Kd.R_mono (Kd.R_far (p := ⟨gb563, 1, none⟩) (Kd.R_far (p := ⟨gb563, 0, none⟩) (Kd.R_types HO556.out BK563.out (by decide)) (fun _ hk => hk.2) (.slice Ao12 t548.length co12)) (fun _ hk => hk.2) (.slice Ao16 t551.length co16)) (fun _ hk => trivial)))⟩; have n3_ : zA (w17.heap[gb546]? = some (.cells #[.int .u8 a1_0, .int .u8 a1_1, .int .u8 a1_2, .int .u16 a1_3, .int .u16 a1_4, .float .f64 a1_5] 67 (0, 0))) := ⟨(by rw [hw]; exact (by (with_reducible repeat (first | refine zB ?_ _ | refine zE ?_ | refine zC ?_ _)); refine blk_far ?_ NB546_563.out _; (with_reducible repeat (first | refine zB ?_ _ | refine zE ?_ | refine zC ?_ _)); refine blk_far ?_ NB546_563.out _; (with_reducible repeat (first | refine zB ?_ _ | refine zE ?_ | refine zC ?_ _)); exact BK546.out))⟩; have n4_ : zA (w17.heap[gb563]? = some (.cells #[.slice Ao12 t548.length co12, .slice Ao16 t551.length co16] 35 (0, 0))) := ⟨(by rw [hw]; exact (by (with_reducible repeat (first | refine zB ?_ _ | refine zE ?_ | refine zC ?_ _)); refine blk_put (cs := #[.slice Ao12 t548.length co12, .slice none 0 0]) ?_ 1 _ rfl; (with_reducible repeat (first | refine zB ?_ _ | refine zE ?_ | refine zC ?_ _)); refine blk_put (cs := #[.slice none 0 0, .slice none 0 0]) ?_ 0 _ rfl; (with_reducible repeat (first | refine zB ?_ _ | refine zE ?_ | refine zC ?_ _)); exact BK563.out))⟩; have n5_ : zA (w17.heap[gb564]? = some (.cells #[.int .i64 0, .int .i64 0, .int .u8 0, .int .i64 0, .int .i64 0, .float .f64 0] 58 (0, 0))) := ⟨(by rw [hw]; exact (by (with_reducible repeat (first | refine zB ?_ _ | refine zE ?_ | refine zC ?_ _)); refine blk_far ?_ NB564_563.out _; (with_reducible repeat (first | refine zB ?_ _ | refine zE ?_ | refine zC ?_ _)); refine blk_far ?_ NB564_563.out _; (with_reducible repeat (first | refine zB ?_ _ | refine zE ?_ | refine zC ?_ _)); exact BK564.out))⟩; have n6_ : zA (Below w.heap.size w w17) := ⟨(by rw [hw]; exact (by repeat (first | (with_reducible first | exact HB.out | apply zI | apply zF | apply zH | refine zD ?_ GE546.out | refine zD ?_ GE563.out | refine zD ?_ GE564.out) | exact HB.out)))⟩; clear hw; clear HO550; clear HO553; clear HO556; clear BK546; clear BK563; clear BK564; clear HB; have HO550 := n0_; have HO553 := n1_; have HO556 := n2_; have BK546 := n3_; have BK563 := n4_; have BK564 := n5_; have HB := n6_; clear n0_ n1_ n2_ n3_ n4_ n5_ n6_; have hnb18 := NB564_546.out; have hnc18 := NB546_564.out; have hcz19_0 : w17.cell? ⟨gb564, 0, none⟩ = some (.int .i64 0) := (zG BK564.out 0).trans rfl; have hcz19_1 : w17.cell? ⟨gb564, 1, none⟩ = some (.int .i64 0) := (zG BK564.out 1).trans rfl; have hcz19_2 : w17.cell? ⟨gb564, 2, none⟩ = some (.int .u8 0) := (zG BK564.out 2).trans rfl; have hcz19_3 : w17.cell? ⟨gb564, 3, none⟩ = some (.int .i64 0) := (zG BK564.out 3).trans rfl; have hcz19_4 : w17.cell? ⟨gb564, 4, none⟩ = some (.int .i64 0) := (zG BK564.out 4).trans rfl; have hcz19_5 : w17.cell? ⟨gb564, 5, none⟩ = some (.float .f64 0) := (zG BK564.out 5).trans rfl; have hfz19_0 := zJ BK564.out 0; have hfz19_1 := zJ BK564.out 1; have hfz19_2 := zJ BK564.out 2; have hfz19_3 := zJ BK564.out 3; have hfz19_4 := zJ BK564.out 4; have hfz19_5 := zJ BK564.out 5) | ((with_reducible refine gate_store (t := 58) (p := 7) rfl ?_); refine store_event (t := 58) (p := 7) (v := ?vo_w20) (w1 := ((((((w17.setCell ⟨gb564, 0, none⟩ (.int .i64 t557)).setCell ⟨gb564, 1, none⟩ (.int .i64 t558)).setCell ⟨gb564, 2, none⟩ (.int .u8 t559)).setCell ⟨gb564, 3, none⟩ (.int .i64 t560)).setCell ⟨gb564, 4, none⟩ (.int .i64 t561)).setCell ⟨gb564, 5, none⟩ (.float .f64 t562))) ?hg ?ho ?hn ?hr ?_; (case ho => rfl); (case hg => rfl); (case hn => rfl); (case hr => first | (go_simp; done) | (go_simp; rfl)); intro w20 hw; have n0_ : zA (Kd.R k41 41 w20 w.heap.size (fun _ => True) (.slice Ao12 t548.length co12) t548) := ⟨(by rw [hw]; exact (by (with_reducible repeat (first | apply Kd.R_alloc | apply Kd.R_drewN | apply Kd.R_drew)); exact Kd.R_mono (Kd.R_far (p := ⟨gb564, 5, none⟩) (Kd.R_far (p := ⟨gb564, 4, none⟩) (Kd.R_far (p := ⟨gb564, 3, none⟩) (Kd.R_far (p := ⟨gb564, 2, none⟩) (Kd.R_far (p := ⟨gb564, 1, none⟩) (Kd.R_far (p := ⟨gb564, 0, none⟩) (Kd.R_types HO550.out BK564.out (by decide)) (fun _ hk => hk.2) (.int .i64 t557)) (fun _ hk => hk.2) (.int .i64 t558)) (fun _ hk => hk.2) (.int .u8 t559)) (fun _ hk => hk.2) (.int .i64 t560)) (fun _ hk => hk.2) (.int .i64 t561)) (fun _ hk => hk.2) (.float .f64 t562)) (fun _ hk => trivial)))⟩; have n1_ : zA (Kd.R (Kd.int .u8) 46 w20 w.heap.size (fun _ => True) (.slice Ao16 t551.length co16) t551) := ⟨(by rw [hw]; exact (by (with_reducible repeat (first | apply Kd.R_alloc | apply Kd.R_drewN | apply Kd.R_drew)); exact Kd.R_mono (Kd.R_far (p := ⟨gb564, 5, none⟩) (Kd.R_far (p := ⟨gb564, 4, none⟩) (Kd.R_far (p := ⟨gb564, 3, none⟩) (Kd.R_far (p := ⟨gb564, 2, none⟩) (Kd.R_far (p := ⟨gb564, 1, none⟩) (Kd.R_far (p := ⟨gb564, 0, none⟩) (Kd.R_types HO553.out BK564.out (by decide)) (fun _ hk => hk.2) (.int .i64 t557)) (fun _ hk => hk.2) (.int .i64 t558)) (fun _ hk => hk.2) (.int .u8 t559)) (fun _ hk => hk.2) (.int .i64 t560)) (fun _ hk => hk.2) (.int .i64 t561)) (fun _ hk => hk.2) (.float .f64 t562)) (fun _ hk => trivial)))⟩; have n2_ : zA (Kd.R k63 63 w20 w.heap.size (fun _ => True) v555 t554) := ⟨(by rw [hw]; exact (by (with_reducible repeat (first | apply Kd.R_alloc | apply Kd.R_drewN | apply Kd.R_drew)); exact Kd.R_mono (Kd.R_far (p := ⟨gb564, 5, none⟩) (Kd.R_far (p := ⟨gb564, 4, none⟩) (Kd.R_far (p := ⟨gb564, 3, none⟩) (Kd.R_far (p := ⟨gb564, 2, none⟩) (Kd.R_far (p := ⟨gb564, 1, none⟩) (Kd.R_far (p := ⟨gb564, 0, none⟩) (Kd.R_types HO556.out BK564.out (by decide)) (fun _ hk => hk.2) (.int .i64 t557)) (fun _ hk => hk.2) (.int .i64 t558)) (fun _ hk => hk.2) (.int .u8 t559)) (fun _ hk => hk.2) (.int .i64 t560)) (fun _ hk => hk.2) (.int .i64 t561)) (fun _ hk => hk.2) (.float .f64 t562)) (fun _ hk => trivial)))⟩; have n3_ : zA (w20.heap[gb546]? = some (.cells #[.int .u8 a1_0, .int .u8 a1_1, .int .u8 a1_2, .int .u16 a1_3, .int .u16 a1_4, .float .f64 a1_5] 67 (0, 0))) := ⟨(by rw [hw]; exact (by (with_reducible repeat (first | refine zB ?_ _ | refine zE ?_ | refine zC ?_ _)); refine blk_far ?_ NB546_564.out _; (with_reducible repeat (first | refine zB ?_ _ | refine zE ?_ | refine zC ?_ _)); refine blk_far ?_ NB546_564.out _; (with_reducible repeat (first | refine zB ?_ _ | refine zE ?_ | refine zC ?_ _)); refine blk_far ?_ NB546_564.out _; (with_reducible repeat (first | refine zB ?_ _ | refine zE ?_ | refine zC ?_ _)); refine blk_far ?_ NB546_564.out _; (with_reducible repeat (first | refine zB ?_ _ | refine zE ?_ | refine zC ?_ _)); refine blk_far ?_ NB546_564.out _; (with_reducible repeat (first | refine zB ?_ _ | refine zE ?_ | refine zC ?_ _)); refine blk_far ?_ NB546_564.out _; (with_reducible repeat (first | refine zB ?_ _ | refine zE ?_ | refine zC ?_ _)); exact BK546.out))⟩; have n4_ : zA (w20.heap[gb563]? = some (.cells #[.slice Ao12 t548.length co12, .slice Ao16 t551.length co16] 35 (0, 0))) := ⟨(by rw [hw]; exact (by (with_reducible repeat (first | refine zB ?_ _ | refine zE ?_ | refine zC ?_ _)); refine blk_far ?_ NB563_564.out _; (with_reducible repeat (first | refine zB ?_ _ | refine zE ?_ | refine zC ?_ _)); refine blk_far ?_ NB563_564.out _; (with_reducible repeat (first | refine zB ?_ _ | refine zE ?_ | refine zC ?_ _)); refine blk_far ?_ NB563_564.out _; (with_reducible repeat (first | refine zB ?_ _ | refine zE ?_ | refine zC ?_ _)); refine blk_far ?_ NB563_564.out _; (with_reducible repeat (first | refine zB ?_ _ | refine zE ?_ | refine zC ?_ _)); refine blk_far ?_ NB563_564.out _; (with_reducible repeat (first | refine zB ?_ _ | refine zE ?_ | refine zC ?_ _)); refine blk_far ?_ NB563_564.out _; (with_reducible repeat (first | refine zB ?_ _ | refine zE ?_ | refine zC ?_ _)); exact BK563.out))⟩; have n5_ : zA (w20.heap[gb564]? = some (.cells #[.int .i64 t557, .int .i64 t558, .int .u8 t559, .int .i64 t560, .int .i64 t561, .float .f64 t562] 58 (0, 0))) := ⟨(by rw [hw]; exact (by (with_reducible repeat (first | refine zB ?_ _ | refine zE ?_ | refine zC ?_ _)); refine blk_put (cs := #[.int .i64 t557, .int .i64 t558, .int .u8 t559, .int .i64 t560, .int .i64 t561, .float .f64 0]) ?_ 5 _ rfl; (with_reducible repeat (first | refine zB ?_ _ | refine zE ?_ | refine zC ?_ _)); refine blk_put (cs := #[.int .i64 t557, .int .i64 t558, .int .u8 t559, .int .i64 t560, .int .i64 0, .float .f64 0]) ?_ 4 _ rfl; (with_reducible repeat (first | refine zB ?_ _ | refine zE ?_ | refine zC ?_ _)); refine blk_put (cs := #[.int .i64 t557, .int .i64 t558, .int .u8 t559, .int .i64 0, .int .i64 0, .float .f64 0]) ?_ 3 _ rfl; (with_reducible repeat (first | refine zB ?_ _ | refine zE ?_ | refine zC ?_ _)); refine blk_put (cs := #[.int .i64 t557, .int .i64 t558, .int .u8 0, .int .i64 0, .int .i64 0, .float .f64 0]) ?_ 2 _ rfl; (with_reducible repeat (first | refine zB ?_ _ | refine zE ?_ | refine zC ?_ _)); refine blk_put (cs := #[.int .i64 t557, .int .i64 0, .int .u8 0, .int .i64 0, .int .i64 0, .float .f64 0]) ?_ 1 _ rfl; (with_reducible repeat (first | refine zB ?_ _ | refine zE ?_ | refine zC ?_ _)); refine blk_put (cs := #[.int .i64 0, .int .i64 0, .int .u8 0, .int .i64 0, .int .i64 0, .float .f64 0]) ?_ 0 _ rfl; (with_reducible repeat (first | refine zB ?_ _ | refine zE ?_ | refine zC ?_ _)); exact BK564.out))⟩; have n6_ : zA (Below w.heap.size w w20) := ⟨(by rw [hw]; exact (by repeat (first | (with_reducible first | exact HB.out | apply zI | apply zF | apply zH | refine zD ?_ GE546.out | refine zD ?_ GE563.out | refine zD ?_ GE564.out) | exact HB.out)))⟩; clear hw; clear HO550; clear HO553; clear HO556; clear BK546; clear BK563; clear BK564; clear HB; have HO550 := n0_; have HO553 := n1_; have HO556 := n2_; have BK546 := n3_; have BK563 := n4_; have BK564 := n5_; have HB := n6_; clear n0_ n1_ n2_ n3_ n4_ n5_ n6_; obtain ⟨Ao21, co21, eo21⟩ := Kd.R_slice HO556.out; subst eo21))
    go_loopg [21] k (fun kq v21 w' => ∃ (x21_1 : Int), v21 = .int .i64 x21_1 ∧ zA (stanzalaw18_JustLines.l0 kq t554 (t554.length : Int) x21_1 t548 t551 t557 t558 t559 t560 t561 t562 = some r) ∧ zA (kq ≤ k) ∧ zA (Kd.R k63 63 w' w.heap.size (fun _ => True) (.slice Ao21 t554.length co21) t554) ∧ zA (Kd.R k41 41 w' w.heap.size (fun _ => True) (.slice Ao12 t548.length co12) t548) ∧ zA (Kd.R (Kd.int .u8) 46 w' w.heap.size (fun _ => True) (.slice Ao16 t551.length co16) t551) ∧ zA (w'.heap[gb546]? = some (.cells #[.int .u8 a1_0, .int .u8 a1_1, .int .u8 a1_2, .int .u16 a1_3, .int .u16 a1_4, .float .f64 a1_5] 67 (0, 0))) ∧ zA (w'.heap[gb563]? = some (.cells #[(.slice Ao12 t548.length co12), (.slice Ao16 t551.length co16)] 35 (0, 0))) ∧ zA (w'.heap[gb564]? = some (.cells #[.int .i64 t557, .int .i64 t558, .int .u8 t559, .int .i64 t560, .int .i64 t561, .float .f64 t562] 58 (0, 0))) ∧ zA (Below w.heap.size w w'))
    case atStart => exact ⟨(0), (by first | rfl | (simp; done) | (simp [*]; done)), H', ⟨Nat.le_refl _⟩, ⟨by (with_reducible repeat (first | apply Kd.R_alloc | apply Kd.R_drewN | apply Kd.R_drew)); exact HO556.out⟩, ⟨by (with_reducible repeat (first | apply Kd.R_alloc | apply Kd.R_drewN | apply Kd.R_drew)); exact HO550.out⟩, ⟨by (with_reducible repeat (first | apply Kd.R_alloc | apply Kd.R_drewN | apply Kd.R_drew)); exact HO553.out⟩, ⟨by (with_reducible repeat (first | refine zB ?_ _ | refine zE ?_ | refine zC ?_ _)); exact BK546.out⟩, ⟨by (with_reducible repeat (first | refine zB ?_ _ | refine zE ?_ | refine zC ?_ _)); exact BK563.out⟩, ⟨by (with_reducible repeat (first | refine zB ?_ _ | refine zE ?_ | refine zC ?_ _)); exact BK564.out⟩, ⟨by repeat (first | (with_reducible first | exact HB.out | apply zI | apply zF | apply zH | refine zD ?_ GE546.out | refine zD ?_ GE563.out | refine zD ?_ GE564.out) | exact HB.out)⟩⟩
    case round =>
      clear H'; try clear c1
      try clear p2
      try clear c3
      try clear c4
      try clear c12
      try clear c13
      try clear c14
      try clear c18
      try clear hcz15_0
      try clear hcz15_1
      try clear hcz19_0
      try clear hcz19_1
      try clear hcz19_2
      try clear hcz19_3
      try clear hcz19_4
      try clear hcz19_5
      try clear hcz8_0
      try clear hcz8_1
      try clear hcz8_2
      try clear hcz8_3
      try clear hcz8_4
      try clear hcz8_5
      try clear hfz15_0
      try clear hfz15_1
      try clear hfz19_0
      try clear hfz19_1
      try clear hfz19_2
      try clear hfz19_3
      try clear hfz19_4
      try clear hfz19_5
      try clear hfz8_0
      try clear hfz8_1
      try clear hfz8_2
      try clear hfz8_3
      try clear hfz8_4
      try clear hfz8_5
      obtain ⟨x21_1, rfl, HA, HK1, HO_19, HO_564000, HO_564001, BK546, BK563, BK564, HB⟩ := hrel; cases gk with
      | zero => exact absurd HA.out (by simp [stanzalaw18_JustLines.l0])
      | succ k1 =>
        have H := HA.out; clear HA; simp only [stanzalaw18_JustLines.l0] at H; by_cases c22 : x21_1 < (t554.length : Int)
        · rw [if_pos c22] at H
          have c22b0 : decide (x21_1 < (t554.length : Int)) = true := decide_eq_true c22
          clear c22; by_cases c23 : 0 ≤ x21_1
          · rw [if_pos c23] at H
            have c23b0 : decide (0 ≤ x21_1) = true := decide_eq_true c23
            clear c23; by_cases c24 : x21_1 < (t554.length : Int)
            · rw [if_pos c24] at H
              have c24b0 : decide (x21_1 < (t554.length : Int)) = true := decide_eq_true c24
              clear c24; replace H := Option.bind_eq_some_iff.mp H; obtain ⟨t567, A250, H⟩ := H; replace H : ((stanzaref13_Wide.f k1 t548 t551 ((rd_T63 t554 x21_1).f0) ((rd_T63 t554 x21_1).f1) ((rd_T63 t554 x21_1).f2) ((rd_T63 t554 x21_1).f3) t557 t558 t559 t560 t561 t562).bind fun t570 => ((stanzaref01_SameInts.f k1 t567 t570).bind fun t573 => (if t573 = true then (stanzalaw18_JustLines.l0 k1 t554 (t554.length : Int) (wrap64 (x21_1 + 1)) t548 t551 t557 t558 t559 t560 t561 t562) else (some false)))) = some r := H
              have A25 := zA.mk A250; clear A250; replace H := Option.bind_eq_some_iff.mp H; obtain ⟨t570, A260, H⟩ := H; replace H : ((stanzaref01_SameInts.f k1 t567 t570).bind fun t573 => (if t573 = true then (stanzalaw18_JustLines.l0 k1 t554 (t554.length : Int) (wrap64 (x21_1 + 1)) t548 t551 t557 t558 t559 t560 t561 t562) else (some false))) = some r := H
              have A26 := zA.mk A260; clear A260; replace H := Option.bind_eq_some_iff.mp H; obtain ⟨t573, A270, H⟩ := H; replace H : (if t573 = true then (stanzalaw18_JustLines.l0 k1 t554 (t554.length : Int) (wrap64 (x21_1 + 1)) t548 t551 t557 t558 t559 t560 t561 t562) else (some false)) = some r := H; have A27 := zA.mk A270; clear A270; by_cases c28 : t573 = true
              · subst c28
                have H1 : (stanzalaw18_JustLines.l0 k1 t554 (t554.length : Int) (wrap64 (x21_1 + 1)) t548 t551 t557 t558 t559 t560 t561 t562) = some r := by rw [if_pos rfl] at H; exact H
                clear H; have H := H1; clear H1; have H' := zA.mk H
                clear H; have p565 : 0 ≤ (x21_1 : Int) := of_decide_eq_true (by first | (with_reducible assumption) | assumption)
                have q565 : x21_1 < (t554.length : Int) := of_decide_eq_true (by first | (with_reducible assumption) | assumption)
                obtain ⟨ad565, e565, hx565_0, hx565_1, hx565_2, hx565_3⟩ := at_T63 (Kd.R_reads' HO_19.out).2.2 x21_1 p565 q565; cases e565
                replace p565 := eq_true p565; replace q565 := eq_true q565; try go_wp2_with (first | ((with_reducible refine gate_dst (N := 9) rfl ?_); refine box_event ?hg (N := 9) ?hd (cs := #[.int .i64 0, .int .i64 0, .int .i64 0, .int .u8 0]) (t := 63) ?hr ?_; (case hd => rfl); (case hg => rfl); (case hr => first | (go_simp; done) | (go_simp; rfl)); intro gb566 hg w29 hbox hb; have n0_ := zA.mk (Kd.R_below (Kd.R_elderB (by (with_reducible repeat (first | apply Kd.R_alloc | apply Kd.R_drewN | apply Kd.R_drew)); exact HO_19.out) gb566 (Nat.le_of_eq hg.symm)) hb); have n1_ := zA.mk (Kd.R_below (by (with_reducible repeat (first | apply Kd.R_alloc | apply Kd.R_drewN | apply Kd.R_drew)); exact HO_564000.out) hb); have n2_ := zA.mk (Kd.R_below (by (with_reducible repeat (first | apply Kd.R_alloc | apply Kd.R_drewN | apply Kd.R_drew)); exact HO_564001.out) hb); have n3_ := zA.mk (zK (g := gb546) (o := .cells #[.int .u8 a1_0, .int .u8 a1_1, .int .u8 a1_2, .int .u16 a1_3, .int .u16 a1_4, .float .f64 a1_5] 67 (0, 0)) (by (with_reducible repeat (first | refine zB ?_ _ | refine zE ?_ | refine zC ?_ _)); exact BK546.out) hb); have n4_ := zA.mk (zK (g := gb563) (o := .cells #[.slice Ao12 t548.length co12, .slice Ao16 t551.length co16] 35 (0, 0)) (by (with_reducible repeat (first | refine zB ?_ _ | refine zE ?_ | refine zC ?_ _)); exact BK563.out) hb); have n5_ := zA.mk (zK (g := gb564) (o := .cells #[.int .i64 t557, .int .i64 t558, .int .u8 t559, .int .i64 t560, .int .i64 t561, .float .f64 t562] 58 (0, 0)) (by (with_reducible repeat (first | refine zB ?_ _ | refine zE ?_ | refine zC ?_ _)); exact BK564.out) hb); have n6_ := zA.mk (zO (by repeat (first | (with_reducible first | exact HB.out | apply zI | apply zF | apply zH | refine zD ?_ GE546.out | refine zD ?_ GE563.out | refine zD ?_ GE564.out) | exact HB.out)) hb); have n7_ := zA.mk (hbox); have n8_ := zA.mk ((by rw [hg]; exact (zL (by repeat (first | (with_reducible first | exact HB.out | apply zI | apply zF | apply zH | refine zD ?_ GE546.out | refine zD ?_ GE563.out | refine zD ?_ GE564.out) | exact HB.out))) : w.heap.size ≤ gb566)); have n9_ := zA.mk ((by rw [hg]; exact (zL (by repeat (first | (with_reducible first | exact HB.out | apply zI | apply zF | apply zH | refine zD ?_ GE546.out | refine zD ?_ GE563.out | refine zD ?_ GE564.out) | exact HB.out))) : w.heap.size ≤ gb566)); have n10_ := zA.mk ((by rw [hg]; exact Nat.ne_of_lt (blk_lt (g := gb546) (o := .cells #[.int .u8 a1_0, .int .u8 a1_1, .int .u8 a1_2, .int .u16 a1_3, .int .u16 a1_4, .float .f64 a1_5] 67 (0, 0)) (by (with_reducible repeat (first | refine zB ?_ _ | refine zE ?_ | refine zC ?_ _)); exact BK546.out)) : gb546 ≠ gb566)); have n11_ := zA.mk ((by rw [hg]; exact Nat.ne_of_gt (blk_lt (g := gb546) (o := .cells #[.int .u8 a1_0, .int .u8 a1_1, .int .u8 a1_2, .int .u16 a1_3, .int .u16 a1_4, .float .f64 a1_5] 67 (0, 0)) (by (with_reducible repeat (first | refine zB ?_ _ | refine zE ?_ | refine zC ?_ _)); exact BK546.out)) : gb566 ≠ gb546)); have n12_ := zA.mk ((by rw [hg]; exact Nat.ne_of_lt (blk_lt (g := gb563) (o := .cells #[.slice Ao12 t548.length co12, .slice Ao16 t551.length co16] 35 (0, 0)) (by (with_reducible repeat (first | refine zB ?_ _ | refine zE ?_ | refine zC ?_ _)); exact BK563.out)) : gb563 ≠ gb566)); have n13_ := zA.mk ((by rw [hg]; exact Nat.ne_of_gt (blk_lt (g := gb563) (o := .cells #[.slice Ao12 t548.length co12, .slice Ao16 t551.length co16] 35 (0, 0)) (by (with_reducible repeat (first | refine zB ?_ _ | refine zE ?_ | refine zC ?_ _)); exact BK563.out)) : gb566 ≠ gb563)); have n14_ := zA.mk ((by rw [hg]; exact Nat.ne_of_lt (blk_lt (g := gb564) (o := .cells #[.int .i64 t557, .int .i64 t558, .int .u8 t559, .int .i64 t560, .int .i64 t561, .float .f64 t562] 58 (0, 0)) (by (with_reducible repeat (first | refine zB ?_ _ | refine zE ?_ | refine zC ?_ _)); exact BK564.out)) : gb564 ≠ gb566)); have n15_ := zA.mk ((by rw [hg]; exact Nat.ne_of_gt (blk_lt (g := gb564) (o := .cells #[.int .i64 t557, .int .i64 t558, .int .u8 t559, .int .i64 t560, .int .i64 t561, .float .f64 t562] 58 (0, 0)) (by (with_reducible repeat (first | refine zB ?_ _ | refine zE ?_ | refine zC ?_ _)); exact BK564.out)) : gb566 ≠ gb564)); clear HO_19; clear HO_564000; clear HO_564001; clear BK546; clear BK563; clear BK564; clear HB; have HO_19 := n0_; have HO_564000 := n1_; have HO_564001 := n2_; have BK546 := n3_; have BK563 := n4_; have BK564 := n5_; have HB := n6_; have BK566 := n7_; have GW566 := n8_; have GE566 := n9_; have NB546_566 := n10_; have NB566_546 := n11_; have NB563_566 := n12_; have NB566_563 := n13_; have NB564_566 := n14_; have NB566_564 := n15_; clear n0_ n1_ n2_ n3_ n4_ n5_ n6_ n7_ n8_ n9_ n10_ n11_ n12_ n13_ n14_ n15_; clear hb hbox hg; have hnb30 := NB566_546.out; have hnc30 := NB546_566.out; have hnb31 := NB566_563.out; have hnc31 := NB563_566.out; have hnb32 := NB566_564.out; have hnc32 := NB564_566.out; have hcz33_0 : w29.cell? ⟨gb566, 0, none⟩ = some (.int .i64 0) := (zG BK566.out 0).trans rfl; have hcz33_1 : w29.cell? ⟨gb566, 1, none⟩ = some (.int .i64 0) := (zG BK566.out 1).trans rfl; have hcz33_2 : w29.cell? ⟨gb566, 2, none⟩ = some (.int .i64 0) := (zG BK566.out 2).trans rfl; have hcz33_3 : w29.cell? ⟨gb566, 3, none⟩ = some (.int .u8 0) := (zG BK566.out 3).trans rfl; have hfz33_0 := zJ BK566.out 0; have hfz33_1 := zJ BK566.out 1; have hfz33_2 := zJ BK566.out 2; have hfz33_3 := zJ BK566.out 3) | ((with_reducible refine gate_store (t := 63) (p := 9) rfl ?_); refine store_event (t := 63) (p := 9) (v := ?vo_w34) (w1 := ((((w29.setCell ⟨gb566, 0, none⟩ (.int .i64 ((rd_T63 t554 x21_1).f0))).setCell ⟨gb566, 1, none⟩ (.int .i64 ((rd_T63 t554 x21_1).f1))).setCell ⟨gb566, 2, none⟩ (.int .i64 ((rd_T63 t554 x21_1).f2))).setCell ⟨gb566, 3, none⟩ (.int .u8 ((rd_T63 t554 x21_1).f3)))) ?hg ?ho ?hn ?hr ?_; (case ho => rfl); (case hg => rfl); (case hn => rfl); (case hr => first | (go_simp; done) | (go_simp; rfl)); intro w34 hw; have n0_ : zA (Kd.R k63 63 w34 w.heap.size (fun k_ => k_ ≠ gb566) (.slice (some ad565) t554.length co21) t554) := ⟨(by rw [hw]; exact (by (with_reducible repeat (first | apply Kd.R_alloc | apply Kd.R_drewN | apply Kd.R_drew)); exact Kd.R_mono (Kd.R_far (p := ⟨gb566, 3, none⟩) (Kd.R_far (p := ⟨gb566, 2, none⟩) (Kd.R_far (p := ⟨gb566, 1, none⟩) (Kd.R_far (p := ⟨gb566, 0, none⟩) (Kd.R_mono HO_19.out (fun k_ hk => (⟨hk, hk.2⟩ : _ ∧ k_ ≠ gb566))) (fun _ hk => hk.2) (.int .i64 ((rd_T63 t554 x21_1).f0))) (fun _ hk => hk.2) (.int .i64 ((rd_T63 t554 x21_1).f1))) (fun _ hk => hk.2) (.int .i64 ((rd_T63 t554 x21_1).f2))) (fun _ hk => hk.2) (.int .u8 ((rd_T63 t554 x21_1).f3))) (fun _ hk => hk.1.2)))⟩; have n1_ : zA (Kd.R k41 41 w34 w.heap.size (fun _ => True) (.slice Ao12 t548.length co12) t548) := ⟨(by rw [hw]; exact (by (with_reducible repeat (first | apply Kd.R_alloc | apply Kd.R_drewN | apply Kd.R_drew)); exact Kd.R_mono (Kd.R_far (p := ⟨gb566, 3, none⟩) (Kd.R_far (p := ⟨gb566, 2, none⟩) (Kd.R_far (p := ⟨gb566, 1, none⟩) (Kd.R_far (p := ⟨gb566, 0, none⟩) (Kd.R_types HO_564000.out BK566.out (by decide)) (fun _ hk => hk.2) (.int .i64 ((rd_T63 t554 x21_1).f0))) (fun _ hk => hk.2) (.int .i64 ((rd_T63 t554 x21_1).f1))) (fun _ hk => hk.2) (.int .i64 ((rd_T63 t554 x21_1).f2))) (fun _ hk => hk.2) (.int .u8 ((rd_T63 t554 x21_1).f3))) (fun _ hk => trivial)))⟩; have n2_ : zA (Kd.R (Kd.int .u8) 46 w34 w.heap.size (fun _ => True) (.slice Ao16 t551.length co16) t551) := ⟨(by rw [hw]; exact (by (with_reducible repeat (first | apply Kd.R_alloc | apply Kd.R_drewN | apply Kd.R_drew)); exact Kd.R_mono (Kd.R_far (p := ⟨gb566, 3, none⟩) (Kd.R_far (p := ⟨gb566, 2, none⟩) (Kd.R_far (p := ⟨gb566, 1, none⟩) (Kd.R_far (p := ⟨gb566, 0, none⟩) (Kd.R_types HO_564001.out BK566.out (by decide)) (fun _ hk => hk.2) (.int .i64 ((rd_T63 t554 x21_1).f0))) (fun _ hk => hk.2) (.int .i64 ((rd_T63 t554 x21_1).f1))) (fun _ hk => hk.2) (.int .i64 ((rd_T63 t554 x21_1).f2))) (fun _ hk => hk.2) (.int .u8 ((rd_T63 t554 x21_1).f3))) (fun _ hk => trivial)))⟩; have n3_ : zA (w34.heap[gb546]? = some (.cells #[.int .u8 a1_0, .int .u8 a1_1, .int .u8 a1_2, .int .u16 a1_3, .int .u16 a1_4, .float .f64 a1_5] 67 (0, 0))) := ⟨(by rw [hw]; exact (by (with_reducible repeat (first | refine zB ?_ _ | refine zE ?_ | refine zC ?_ _)); refine blk_far ?_ NB546_566.out _; (with_reducible repeat (first | refine zB ?_ _ | refine zE ?_ | refine zC ?_ _)); refine blk_far ?_ NB546_566.out _; (with_reducible repeat (first | refine zB ?_ _ | refine zE ?_ | refine zC ?_ _)); refine blk_far ?_ NB546_566.out _; (with_reducible repeat (first | refine zB ?_ _ | refine zE ?_ | refine zC ?_ _)); refine blk_far ?_ NB546_566.out _; (with_reducible repeat (first | refine zB ?_ _ | refine zE ?_ | refine zC ?_ _)); exact BK546.out))⟩; have n4_ : zA (w34.heap[gb563]? = some (.cells #[.slice Ao12 t548.length co12, .slice Ao16 t551.length co16] 35 (0, 0))) := ⟨(by rw [hw]; exact (by (with_reducible repeat (first | refine zB ?_ _ | refine zE ?_ | refine zC ?_ _)); refine blk_far ?_ NB563_566.out _; (with_reducible repeat (first | refine zB ?_ _ | refine zE ?_ | refine zC ?_ _)); refine blk_far ?_ NB563_566.out _; (with_reducible repeat (first | refine zB ?_ _ | refine zE ?_ | refine zC ?_ _)); refine blk_far ?_ NB563_566.out _; (with_reducible repeat (first | refine zB ?_ _ | refine zE ?_ | refine zC ?_ _)); refine blk_far ?_ NB563_566.out _; (with_reducible repeat (first | refine zB ?_ _ | refine zE ?_ | refine zC ?_ _)); exact BK563.out))⟩; have n5_ : zA (w34.heap[gb564]? = some (.cells #[.int .i64 t557, .int .i64 t558, .int .u8 t559, .int .i64 t560, .int .i64 t561, .float .f64 t562] 58 (0, 0))) := ⟨(by rw [hw]; exact (by (with_reducible repeat (first | refine zB ?_ _ | refine zE ?_ | refine zC ?_ _)); refine blk_far ?_ NB564_566.out _; (with_reducible repeat (first | refine zB ?_ _ | refine zE ?_ | refine zC ?_ _)); refine blk_far ?_ NB564_566.out _; (with_reducible repeat (first | refine zB ?_ _ | refine zE ?_ | refine zC ?_ _)); refine blk_far ?_ NB564_566.out _; (with_reducible repeat (first | refine zB ?_ _ | refine zE ?_ | refine zC ?_ _)); refine blk_far ?_ NB564_566.out _; (with_reducible repeat (first | refine zB ?_ _ | refine zE ?_ | refine zC ?_ _)); exact BK564.out))⟩; have n6_ : zA (w34.heap[gb566]? = some (.cells #[.int .i64 ((rd_T63 t554 x21_1).f0), .int .i64 ((rd_T63 t554 x21_1).f1), .int .i64 ((rd_T63 t554 x21_1).f2), .int .u8 ((rd_T63 t554 x21_1).f3)] 63 (0, 0))) := ⟨(by rw [hw]; exact (by (with_reducible repeat (first | refine zB ?_ _ | refine zE ?_ | refine zC ?_ _)); refine blk_put (cs := #[.int .i64 ((rd_T63 t554 x21_1).f0), .int .i64 ((rd_T63 t554 x21_1).f1), .int .i64 ((rd_T63 t554 x21_1).f2), .int .u8 0]) ?_ 3 _ rfl; (with_reducible repeat (first | refine zB ?_ _ | refine zE ?_ | refine zC ?_ _)); refine blk_put (cs := #[.int .i64 ((rd_T63 t554 x21_1).f0), .int .i64 ((rd_T63 t554 x21_1).f1), .int .i64 0, .int .u8 0]) ?_ 2 _ rfl; (with_reducible repeat (first | refine zB ?_ _ | refine zE ?_ | refine zC ?_ _)); refine blk_put (cs := #[.int .i64 ((rd_T63 t554 x21_1).f0), .int .i64 0, .int .i64 0, .int .u8 0]) ?_ 1 _ rfl; (with_reducible repeat (first | refine zB ?_ _ | refine zE ?_ | refine zC ?_ _)); refine blk_put (cs := #[.int .i64 0, .int .i64 0, .int .i64 0, .int .u8 0]) ?_ 0 _ rfl; (with_reducible repeat (first | refine zB ?_ _ | refine zE ?_ | refine zC ?_ _)); exact BK566.out))⟩; have n7_ : zA (Below w.heap.size w w34) := ⟨(by rw [hw]; exact (by repeat (first | (with_reducible first | exact HB.out | apply zI | apply zF | apply zH | refine zD ?_ GE546.out | refine zD ?_ GE563.out | refine zD ?_ GE564.out | refine zD ?_ GE566.out) | exact HB.out)))⟩; clear hw; clear HO_19; clear HO_564000; clear HO_564001; clear BK546; clear BK563; clear BK564; clear BK566; clear HB; have HO_19 := n0_; have HO_564000 := n1_; have HO_564001 := n2_; have BK546 := n3_; have BK563 := n4_; have BK564 := n5_; have BK566 := n6_; have HB := n7_; clear n0_ n1_ n2_ n3_ n4_ n5_ n6_ n7_))
                have n0_ := zA.mk (Kd.R_drew HO_19.out); have n1_ := zA.mk (Kd.R_drew HO_564000.out); have n2_ := zA.mk (Kd.R_drew HO_564001.out); have n3_ := zA.mk (zE BK546.out); have n4_ := zA.mk (zE BK563.out); have n5_ := zA.mk (zE BK564.out); have n6_ := zA.mk (zE BK566.out); have n7_ := zA.mk (zH HB.out); clear HO_19; clear HO_564000; clear HO_564001; clear BK546; clear BK563; clear BK564; clear BK566; clear HB; have HO_19 := n0_; have HO_564000 := n1_; have HO_564001 := n2_; have BK546 := n3_; have BK563 := n4_; have BK564 := n5_; have BK566 := n6_; have HB := n7_; clear n0_ n1_ n2_ n3_ n4_ n5_ n6_ n7_; refine start_ (n := 10) (S := fun w' => w'.cell? ⟨gb563, 0, none⟩ = some (.slice Ao12 t548.length co12) ∧ w'.cell? ⟨gb563, 1, none⟩ = some (.slice Ao16 t551.length co16) ∧ w'.cell? ⟨gb566, 0, none⟩ = some (.int .i64 ((rd_T63 t554 x21_1).f0)) ∧ w'.cell? ⟨gb566, 1, none⟩ = some (.int .i64 ((rd_T63 t554 x21_1).f1)) ∧ w'.cell? ⟨gb566, 2, none⟩ = some (.int .i64 ((rd_T63 t554 x21_1).f2)) ∧ w'.cell? ⟨gb566, 3, none⟩ = some (.int .u8 ((rd_T63 t554 x21_1).f3)) ∧ w'.cell? ⟨gb564, 0, none⟩ = some (.int .i64 t557) ∧ w'.cell? ⟨gb564, 1, none⟩ = some (.int .i64 t558) ∧ w'.cell? ⟨gb564, 2, none⟩ = some (.int .u8 t559) ∧ w'.cell? ⟨gb564, 3, none⟩ = some (.int .i64 t560) ∧ w'.cell? ⟨gb564, 4, none⟩ = some (.int .i64 t561) ∧ w'.cell? ⟨gb564, 5, none⟩ = some (.float .f64 t562)) (ds := []) #[false, false, false, false, false, false, false, false, false, false] (by kernel_rfl) rfl rfl ⟨(zG BK563.out 0).trans rfl, (zG BK563.out 1).trans rfl, (zG BK566.out 0).trans rfl, (zG BK566.out 1).trans rfl, (zG BK566.out 2).trans rfl, (zG BK566.out 3).trans rfl, (zG BK564.out 0).trans rfl, (zG BK564.out 1).trans rfl, (zG BK564.out 2).trans rfl, (zG BK564.out 3).trans rfl, (zG BK564.out 4).trans rfl, (zG BK564.out 5).trans rfl⟩ (fun hHeld => ?_); refine with_tabW stanzalaw18_JustLines.tab7 stanzalaw18_JustLines.bits7 (fun HT_ HW_ => ?_)
                generalize w34.drew = w35 at HO_19 HO_564000 HO_564001 BK546 BK563 BK564 BK566 HB hHeld ⊢
                refine take_ (i := 0) (N := some 25) (v := ?_) (a' := ?_) #[true, false, false, false, false, false, false, false, false, false] rfl rfl (take_ofW HT_.out HW_.out (by kernel_rfl)) (fun _ _ _ h => h) (Or.inl ⟨by rfl, ?_⟩) hHeld ?_ ?_
                rotate_left
                · rintro w' ⟨s0, s1, s2, s3, s4, s5, s6, s7, s8, s9, s10, s11⟩
                  go_simp
                  with_reducible rfl
                rotate_left
                · simp only [Act.put, List.setIfInBounds_toArray, List.set_cons_zero, List.set_cons_succ, zM, zN]
                  rfl
                refine take_ (i := 1) (N := some 26) (v := ?_) (a' := ?_) #[true, true, false, false, false, false, false, false, false, false] rfl rfl (take_ofW HT_.out HW_.out (by kernel_rfl)) (fun _ _ _ h => h) (Or.inl ⟨by rfl, ?_⟩) hHeld ?_ ?_
                rotate_left
                · rintro w' ⟨s0, s1, s2, s3, s4, s5, s6, s7, s8, s9, s10, s11⟩
                  go_simp
                  with_reducible rfl
                rotate_left
                · simp only [Act.put, List.setIfInBounds_toArray, List.set_cons_zero, List.set_cons_succ, zM, zN]
                  rfl
                refine take_ (i := 2) (N := some 27) (v := ?_) (a' := ?_) #[true, true, true, false, false, false, false, false, false, false] rfl rfl (take_ofW HT_.out HW_.out (by kernel_rfl)) (fun _ _ _ h => h) (Or.inl ⟨by rfl, ?_⟩) hHeld ?_ ?_
                rotate_left
                · rintro w' ⟨s0, s1, s2, s3, s4, s5, s6, s7, s8, s9, s10, s11⟩
                  go_simp
                  with_reducible rfl
                rotate_left
                · simp only [Act.put, List.setIfInBounds_toArray, List.set_cons_zero, List.set_cons_succ, zM, zN]
                  rfl
                refine take_ (i := 4) (N := some 29) (v := ?_) (a' := ?_) #[true, true, true, false, true, false, false, false, false, false] rfl rfl (take_ofW HT_.out HW_.out (by kernel_rfl)) (fun _ _ _ h => h) (Or.inl ⟨by rfl, ?_⟩) hHeld ?_ ?_
                rotate_left
                · rintro w' ⟨s0, s1, s2, s3, s4, s5, s6, s7, s8, s9, s10, s11⟩
                  go_simp
                  with_reducible rfl
                rotate_left
                · simp only [Act.put, List.setIfInBounds_toArray, List.set_cons_zero, List.set_cons_succ, zM, zN]
                  rfl
                refine take_ (i := 5) (N := some 30) (v := ?_) (a' := ?_) #[true, true, true, false, true, true, false, false, false, false] rfl rfl (take_ofW HT_.out HW_.out (by kernel_rfl)) (fun _ _ _ h => h) (Or.inl ⟨by rfl, ?_⟩) hHeld ?_ ?_
                rotate_left
                · rintro w' ⟨s0, s1, s2, s3, s4, s5, s6, s7, s8, s9, s10, s11⟩
                  go_simp
                  with_reducible rfl
                rotate_left
                · simp only [Act.put, List.setIfInBounds_toArray, List.set_cons_zero, List.set_cons_succ, zM, zN]
                  rfl
                refine take_ (i := 6) (N := some 31) (v := ?_) (a' := ?_) #[true, true, true, false, true, true, true, false, false, false] rfl rfl (take_ofW HT_.out HW_.out (by kernel_rfl)) (fun _ _ _ h => h) (Or.inl ⟨by rfl, ?_⟩) hHeld ?_ ?_
                rotate_left
                · rintro w' ⟨s0, s1, s2, s3, s4, s5, s6, s7, s8, s9, s10, s11⟩
                  go_simp
                  with_reducible rfl
                rotate_left
                · simp only [Act.put, List.setIfInBounds_toArray, List.set_cons_zero, List.set_cons_succ, zM, zN]
                  rfl
                refine one_ (i := 3) (N := some 28) #[true, true, true, true, true, true, true, false, false, false] rfl rfl (one_of HT_.out (by kernel_rfl)) (by decide) (fun K hK => ?_)
                refine goes_ Try.func37 (by kernel_rfl) rfl #[.agg #[.slice Ao12 t548.length co12, .slice Ao16 t551.length co16], .agg #[.int .i64 ((rd_T63 t554 x21_1).f0), .int .i64 ((rd_T63 t554 x21_1).f1), .int .i64 ((rd_T63 t554 x21_1).f2), .int .u8 ((rd_T63 t554 x21_1).f3)], .agg #[.int .i64 t557, .int .i64 t558, .int .u8 t559, .int .i64 t560, .int .i64 t561, .float .f64 t562]] (by rfl) rfl rfl (by (try simp only [List.map_toArray, List.map_cons, List.map_nil]); first | done | rfl | (simp only [List.length_drop, List.length_take]; rfl)) ?_
                with_reducible refine (just_Line.calls k1 _ _ t548 _ _ t551 ((rd_T63 t554 x21_1).f0) ((rd_T63 t554 x21_1).f1) ((rd_T63 t554 x21_1).f2) ((rd_T63 t554 x21_1).f3) t557 t558 t559 t560 t561 t562 t567 _ ?side1 ?side2 ?side3 ?side4 A25.out).mono ?_
                (case side1 => repeat (first | exact (Kd.R_reads' HO_564000.out).2.2 | (with_reducible refine Kd.C_alloc ?_ _) | (with_reducible refine Kd.C_drewN ?_ _) | (with_reducible refine Kd.C_drew ?_)))
                (case side2 => exact (Kd.R_reads' HO_564000.out).2.1)
                (case side3 => repeat (first | exact (Kd.R_reads' HO_564001.out).2.2 | (with_reducible refine Kd.C_alloc ?_ _) | (with_reducible refine Kd.C_drewN ?_ _) | (with_reducible refine Kd.C_drew ?_)))
                (case side4 => exact (Kd.R_reads' HO_564001.out).2.1)
                rintro e w36 ⟨v568, rfl, ho0, hb⟩
                refine ⟨_, rfl, ?_⟩
                have n0_ := zA.mk (Kd.R_below (by (with_reducible repeat (first | apply Kd.R_alloc | apply Kd.R_drewN | apply Kd.R_drew)); exact HO_19.out) hb)
                have n1_ := zA.mk (Kd.R_below (by (with_reducible repeat (first | apply Kd.R_alloc | apply Kd.R_drewN | apply Kd.R_drew)); exact HO_564000.out) hb)
                have n2_ := zA.mk (Kd.R_below (by (with_reducible repeat (first | apply Kd.R_alloc | apply Kd.R_drewN | apply Kd.R_drew)); exact HO_564001.out) hb)
                have n3_ := zA.mk (Kd.R_lower ho0 (zL (by repeat (first | (with_reducible first | exact HB.out | apply zI | apply zF | apply zH | refine zD ?_ GE546.out | refine zD ?_ GE563.out | refine zD ?_ GE564.out | refine zD ?_ GE566.out) | exact HB.out))))
                have n4_ := zA.mk (zK (g := gb546) (o := .cells #[.int .u8 a1_0, .int .u8 a1_1, .int .u8 a1_2, .int .u16 a1_3, .int .u16 a1_4, .float .f64 a1_5] 67 (0, 0)) (by (with_reducible repeat (first | refine zB ?_ _ | refine zE ?_ | refine zC ?_ _)); exact BK546.out) hb)
                have n5_ := zA.mk (zK (g := gb563) (o := .cells #[.slice Ao12 t548.length co12, .slice Ao16 t551.length co16] 35 (0, 0)) (by (with_reducible repeat (first | refine zB ?_ _ | refine zE ?_ | refine zC ?_ _)); exact BK563.out) hb)
                have n6_ := zA.mk (zK (g := gb564) (o := .cells #[.int .i64 t557, .int .i64 t558, .int .u8 t559, .int .i64 t560, .int .i64 t561, .float .f64 t562] 58 (0, 0)) (by (with_reducible repeat (first | refine zB ?_ _ | refine zE ?_ | refine zC ?_ _)); exact BK564.out) hb)
                have n7_ := zA.mk (zK (g := gb566) (o := .cells #[.int .i64 ((rd_T63 t554 x21_1).f0), .int .i64 ((rd_T63 t554 x21_1).f1), .int .i64 ((rd_T63 t554 x21_1).f2), .int .u8 ((rd_T63 t554 x21_1).f3)] 63 (0, 0)) (by (with_reducible repeat (first | refine zB ?_ _ | refine zE ?_ | refine zC ?_ _)); exact BK566.out) hb)
                have n8_ := zA.mk (zO (by repeat (first | (with_reducible first | exact HB.out | apply zI | apply zF | apply zH | refine zD ?_ GE546.out | refine zD ?_ GE563.out | refine zD ?_ GE564.out | refine zD ?_ GE566.out) | exact HB.out)) hb)
                clear HO_19 HO_564000 HO_564001 BK546 BK563 BK564 BK566 HB; have HO_19 := n0_; have HO_564000 := n1_; have HO_564001 := n2_; have HO569 := n3_; have BK546 := n4_; have BK563 := n5_; have BK564 := n6_; have BK566 := n7_; have HB := n8_; clear n0_ n1_ n2_ n3_ n4_ n5_ n6_ n7_ n8_; (try clear hb)
                (try clear hb2)
                (try clear hk)
                (try clear hi)
                (try clear ho0)
                refine hK.out _ _ ⟨(zG BK563.out 0).trans rfl, (zG BK563.out 1).trans rfl, (zG BK566.out 0).trans rfl, (zG BK566.out 1).trans rfl, (zG BK566.out 2).trans rfl, (zG BK566.out 3).trans rfl, (zG BK564.out 0).trans rfl, (zG BK564.out 1).trans rfl, (zG BK564.out 2).trans rfl, (zG BK564.out 3).trans rfl, (zG BK564.out 4).trans rfl, (zG BK564.out 5).trans rfl⟩ (fun hHeld => ?_)
                clear hK K; refine norm_ (a' := ?_) ?_ ?_
                rotate_left
                · show Act.put _ (some 28) _ = _
                  simp only [Act.put, List.setIfInBounds_toArray, List.set_cons_zero, List.set_cons_succ, zM, zN]; rfl
                refine one_ (i := 7) (N := some 32) #[true, true, true, true, true, true, true, true, false, false] rfl rfl (one_of HT_.out (by kernel_rfl)) (by decide) (fun K hK => ?_)
                refine goes_ Try.func38 (by kernel_rfl) rfl #[.agg #[.slice Ao12 t548.length co12, .slice Ao16 t551.length co16], .agg #[.int .i64 ((rd_T63 t554 x21_1).f0), .int .i64 ((rd_T63 t554 x21_1).f1), .int .i64 ((rd_T63 t554 x21_1).f2), .int .u8 ((rd_T63 t554 x21_1).f3)], .agg #[.int .i64 t557, .int .i64 t558, .int .u8 t559, .int .i64 t560, .int .i64 t561, .float .f64 t562]] (by rfl) rfl rfl (by (try simp only [List.map_toArray, List.map_cons, List.map_nil]); first | done | rfl | (simp only [List.length_drop, List.length_take]; rfl)) ?_
                with_reducible refine (stanzaref13_Wide.calls k1 _ _ t548 _ _ t551 ((rd_T63 t554 x21_1).f0) ((rd_T63 t554 x21_1).f1) ((rd_T63 t554 x21_1).f2) ((rd_T63 t554 x21_1).f3) t557 t558 t559 t560 t561 t562 t570 _ ?side1 ?side2 ?side3 ?side4 A26.out).mono ?_
                (case side1 => repeat (first | exact (Kd.R_reads' HO_564000.out).2.2 | (with_reducible refine Kd.C_alloc ?_ _) | (with_reducible refine Kd.C_drewN ?_ _) | (with_reducible refine Kd.C_drew ?_)))
                (case side2 => exact (Kd.R_reads' HO_564000.out).2.1)
                (case side3 => repeat (first | exact (Kd.R_reads' HO_564001.out).2.2 | (with_reducible refine Kd.C_alloc ?_ _) | (with_reducible refine Kd.C_drewN ?_ _) | (with_reducible refine Kd.C_drew ?_)))
                (case side4 => exact (Kd.R_reads' HO_564001.out).2.1)
                rintro e w37 ⟨v571, rfl, ho0, hb⟩
                refine ⟨_, rfl, ?_⟩
                have n0_ := zA.mk (Kd.R_below (by (with_reducible repeat (first | apply Kd.R_alloc | apply Kd.R_drewN | apply Kd.R_drew)); exact HO_19.out) hb)
                have n1_ := zA.mk (Kd.R_below (by (with_reducible repeat (first | apply Kd.R_alloc | apply Kd.R_drewN | apply Kd.R_drew)); exact HO_564000.out) hb)
                have n2_ := zA.mk (Kd.R_below (by (with_reducible repeat (first | apply Kd.R_alloc | apply Kd.R_drewN | apply Kd.R_drew)); exact HO_564001.out) hb)
                have n3_ := zA.mk (Kd.R_elder' (by (with_reducible repeat (first | apply Kd.R_alloc | apply Kd.R_drewN | apply Kd.R_drew)); exact HO569.out) (Kd.R_base ho0) hb)
                have n4_ := zA.mk (Kd.R_lower (Kd.R_new' ho0 (Kd.R_lt (by (with_reducible repeat (first | apply Kd.R_alloc | apply Kd.R_drewN | apply Kd.R_drew)); exact HO569.out))) (zL (by repeat (first | (with_reducible first | exact HB.out | apply zI | apply zF | apply zH | refine zD ?_ GE546.out | refine zD ?_ GE563.out | refine zD ?_ GE564.out | refine zD ?_ GE566.out) | exact HB.out))))
                have n5_ := zA.mk (zK (g := gb546) (o := .cells #[.int .u8 a1_0, .int .u8 a1_1, .int .u8 a1_2, .int .u16 a1_3, .int .u16 a1_4, .float .f64 a1_5] 67 (0, 0)) (by (with_reducible repeat (first | refine zB ?_ _ | refine zE ?_ | refine zC ?_ _)); exact BK546.out) hb)
                have n6_ := zA.mk (zK (g := gb563) (o := .cells #[.slice Ao12 t548.length co12, .slice Ao16 t551.length co16] 35 (0, 0)) (by (with_reducible repeat (first | refine zB ?_ _ | refine zE ?_ | refine zC ?_ _)); exact BK563.out) hb)
                have n7_ := zA.mk (zK (g := gb564) (o := .cells #[.int .i64 t557, .int .i64 t558, .int .u8 t559, .int .i64 t560, .int .i64 t561, .float .f64 t562] 58 (0, 0)) (by (with_reducible repeat (first | refine zB ?_ _ | refine zE ?_ | refine zC ?_ _)); exact BK564.out) hb)
                have n8_ := zA.mk (zK (g := gb566) (o := .cells #[.int .i64 ((rd_T63 t554 x21_1).f0), .int .i64 ((rd_T63 t554 x21_1).f1), .int .i64 ((rd_T63 t554 x21_1).f2), .int .u8 ((rd_T63 t554 x21_1).f3)] 63 (0, 0)) (by (with_reducible repeat (first | refine zB ?_ _ | refine zE ?_ | refine zC ?_ _)); exact BK566.out) hb)
                have n9_ := zA.mk (zO (by repeat (first | (with_reducible first | exact HB.out | apply zI | apply zF | apply zH | refine zD ?_ GE546.out | refine zD ?_ GE563.out | refine zD ?_ GE564.out | refine zD ?_ GE566.out) | exact HB.out)) hb)
                clear HO_19 HO_564000 HO_564001 HO569 BK546 BK563 BK564 BK566 HB; have HO_19 := n0_; have HO_564000 := n1_; have HO_564001 := n2_; have HO569 := n3_; have HO572 := n4_; have BK546 := n5_; have BK563 := n6_; have BK564 := n7_; have BK566 := n8_; have HB := n9_; clear n0_ n1_ n2_ n3_ n4_ n5_ n6_ n7_ n8_ n9_; (try clear hb)
                (try clear hb2)
                (try clear hk)
                (try clear hi)
                (try clear ho0)
                obtain ⟨Ao38, co38, eo38⟩ := Kd.R_slice HO569.out; (first | subst eo38 | (injection eo38 with f1_ f2_ f3_; have f4_ := f1_.symm; have f5_ := f3_.symm; clear f1_ f2_ f3_; subst f4_; subst f5_))
                obtain ⟨Ao39, co39, eo39⟩ := Kd.R_slice HO572.out; (first | subst eo39 | (injection eo39 with f1_ f2_ f3_; have f4_ := f1_.symm; have f5_ := f3_.symm; clear f1_ f2_ f3_; subst f4_; subst f5_))
                refine hK.out _ _ ⟨(zG BK563.out 0).trans rfl, (zG BK563.out 1).trans rfl, (zG BK566.out 0).trans rfl, (zG BK566.out 1).trans rfl, (zG BK566.out 2).trans rfl, (zG BK566.out 3).trans rfl, (zG BK564.out 0).trans rfl, (zG BK564.out 1).trans rfl, (zG BK564.out 2).trans rfl, (zG BK564.out 3).trans rfl, (zG BK564.out 4).trans rfl, (zG BK564.out 5).trans rfl⟩ (fun hHeld => ?_)
                clear hK K; refine norm_ (a' := ?_) ?_ ?_
                rotate_left
                · show Act.put _ (some 32) _ = _
                  simp only [Act.put, List.setIfInBounds_toArray, List.set_cons_zero, List.set_cons_succ, zM, zN]; rfl
                refine one_ (i := 8) (N := some 33) #[true, true, true, true, true, true, true, true, true, false] rfl rfl (one_of HT_.out (by kernel_rfl)) (by decide) (fun K hK => ?_)
                refine goes_ Try.func15 (by kernel_rfl) rfl #[.slice Ao38 t567.length co38, .slice Ao39 t570.length co39] (by rfl) rfl rfl (by (try simp only [List.map_toArray, List.map_cons, List.map_nil]); first | done | rfl | (simp only [List.length_drop, List.length_take]; rfl)) ?_
                with_reducible refine (stanzaref01_SameInts.calls k1 _ _ t567 _ _ t570 true _ ?side1 ?side2 ?side3 ?side4 A27.out).mono ?_
                (case side1 => repeat (first | exact (Kd.R_reads' HO569.out).2.2 | (with_reducible refine Kd.C_alloc ?_ _) | (with_reducible refine Kd.C_drewN ?_ _) | (with_reducible refine Kd.C_drew ?_)))
                (case side2 => exact (Kd.R_reads' HO569.out).2.1)
                (case side3 => repeat (first | exact (Kd.R_reads' HO572.out).2.2 | (with_reducible refine Kd.C_alloc ?_ _) | (with_reducible refine Kd.C_drewN ?_ _) | (with_reducible refine Kd.C_drew ?_)))
                (case side4 => exact (Kd.R_reads' HO572.out).2.1)
                rintro e w' ⟨rfl, ⟨nd, rfl⟩⟩
                refine ⟨_, rfl, ?_⟩
                refine hK.out _ _ ⟨(zG BK563.out 0).trans rfl, (zG BK563.out 1).trans rfl, (zG BK566.out 0).trans rfl, (zG BK566.out 1).trans rfl, (zG BK566.out 2).trans rfl, (zG BK566.out 3).trans rfl, (zG BK564.out 0).trans rfl, (zG BK564.out 1).trans rfl, (zG BK564.out 2).trans rfl, (zG BK564.out 3).trans rfl, (zG BK564.out 4).trans rfl, (zG BK564.out 5).trans rfl⟩ (fun hHeld => ?_)
                clear hK K; refine norm_ (a' := ?_) ?_ ?_
                rotate_left
                · show Act.put _ (some 33) _ = _
                  simp only [Act.put, List.setIfInBounds_toArray, List.set_cons_zero, List.set_cons_succ, zM, zN]; rfl
                refine pure_ (i := 9) (N := some 34) (v := ?_) (a' := ?_) #[true, true, true, true, true, true, true, true, true, true] rfl rfl (any_of HT_.out (by kernel_rfl)) (fun _ _ _ h => h) (Or.inl ⟨by rfl, ?_⟩) ?_ ?_
                rotate_left
                · intro w'
                  go_simp
                  with_reducible rfl
                rotate_left
                · simp only [Act.put, List.setIfInBounds_toArray, List.set_cons_zero, List.set_cons_succ, zM, zN]
                  rfl
                refine done_ (done_of HT_.out (by kernel_rfl)) ?_
                try go_wp2
                go_roundg k1
                case measure => have := HK1.out; omega
                case rel => exact ⟨(wrap64 (x21_1 + 1)), (by first | rfl | (simp; done) | (simp [*]; done)), H', ⟨by have := HK1.out; omega⟩, ⟨by (with_reducible repeat (first | apply Kd.R_alloc | apply Kd.R_drewN | apply Kd.R_drew)); exact Kd.R_mono HO_19.out (fun _ hk => trivial)⟩, ⟨by (with_reducible repeat (first | apply Kd.R_alloc | apply Kd.R_drewN | apply Kd.R_drew)); exact HO_564000.out⟩, ⟨by (with_reducible repeat (first | apply Kd.R_alloc | apply Kd.R_drewN | apply Kd.R_drew)); exact HO_564001.out⟩, ⟨by (with_reducible repeat (first | refine zB ?_ _ | refine zE ?_ | refine zC ?_ _)); exact BK546.out⟩, ⟨by (with_reducible repeat (first | refine zB ?_ _ | refine zE ?_ | refine zC ?_ _)); exact BK563.out⟩, ⟨by (with_reducible repeat (first | refine zB ?_ _ | refine zE ?_ | refine zC ?_ _)); exact BK564.out⟩, ⟨by repeat (first | (with_reducible first | exact HB.out | apply zI | apply zF | apply zH | refine zD ?_ GE546.out | refine zD ?_ GE563.out | refine zD ?_ GE564.out | refine zD ?_ GE566.out) | exact HB.out)⟩⟩
              · replace c28 := Bool.eq_false_iff.mpr c28
                subst c28; have H1 : (some false) = some r := by rw [if_neg (show ¬ (false = true) by decide)] at H; exact H
                clear H; have H := H1; clear H1; exact absurd ((Option.some.inj H).trans hrt_.out) (by decide)
            · rw [if_neg c24] at H
              exact absurd H (by simp)
          · rw [if_neg c23] at H
            exact absurd H (by simp)
        · rw [if_neg c22] at H
          have c22b0 : decide (x21_1 < (t554.length : Int)) = false := decide_eq_false c22
          clear c22; obtain rfl := Option.some.inj H
          go_wp2
          go_ret
          exact ⟨by first | rfl | (simp [errW_none, errW_some] <;> rfl) | (simp [*, errW_none, errW_some] <;> rfl), by repeat (first | (with_reducible first | exact HB.out | apply zI | apply zF | apply zH | refine zD ?_ GE546.out | refine zD ?_ GE563.out | refine zD ?_ GE564.out) | exact HB.out)⟩
  · replace c4 := Bool.eq_false_iff.mpr c4
    subst c4; have H1 : (some false) = some r := by rw [if_neg (show ¬ (false = true) by decide)] at H; exact H
    clear H; have H := H1; clear H1; exact absurd ((Option.some.inj H).trans hrt_.out) (by decide)
def stanzalaw18_JustLines.Pure : Prop := ∀ (l0 : List (S50)) (a1_0 : Int) (a1_1 : Int) (a1_2 : Int) (a1_3 : Int) (a1_4 : Int) (a1_5 : Nat), (l0.length * 4 ≤ 140737488351232 ∧ ∀ y0 ∈ l0, ((Lit.int .u8 y0.f0).wf = true ∧ ((Lit.int .u8 y0.f1).wf = true ∧ ((Lit.int .u8 y0.f2).wf = true ∧ (Lit.int .u8 y0.f3).wf = true)))) → ((Lit.int .u8 a1_0).wf = true ∧ ((Lit.int .u8 a1_1).wf = true ∧ ((Lit.int .u8 a1_2).wf = true ∧ ((Lit.int .u16 a1_3).wf = true ∧ ((Lit.int .u16 a1_4).wf = true ∧ (Lit.float .f64 a1_5).wf = true))))) → ∃ k, stanzalaw18_JustLines.f k l0 a1_0 a1_1 a1_2 a1_3 a1_4 a1_5 = some true
end Go.Proofs.Ytbnoeeflpegcoaa.F
end
