/- Printed by a program: Lean functions that answer as the Go functions do, and the proofs of it. -/
import Derived.Test.YtfeidhmkmbgnoaaVFirstBreaks0
import Derived.Test.YtfeidhmkmbgnoaaVFirstBreaks1
section
namespace Go.Proofs.Ytfeidhmkmbgnoaa.F
open Go.RowKit Go.Proofs.YtfeidhmkmbgnoaaW.PrintWords Go.Proofs.YtfeidhmkmbgnoaaW.PrintLast Go.Proofs.YtfeidhmkmbgnoaaW.PrintMore
attribute [local go_sem] max2_int min2_int max_two min_two max_three min_three max_four min_four   -- for this text's walks alone
set_option linter.unusedVariables false
set_option linter.unusedSimpArgs false
mutual
def stanzaref13_First.l0 : Nat → Int → Int → List (S45) → List (S61) → List Int → Int → Int → Int → Int → Int → Nat → Option ((List (S45)))
  | 0, _, _, _, _, _, _, _, _, _, _, _ => none
  | k + 1, x1, x2, x9, x273000, x273001, x274000, x274001, x274002, x274003, x274004, x274005 => if x1 < x2 then (stanzaref13_First.l1 k x1 x2 x9 (-1) (-1) (wrap64 (x1 + 1)) x273000 x273001 x274000 x274001 x274002 x274003 x274004 x274005) else (some x9)
def stanzaref13_First.l1 : Nat → Int → Int → List (S45) → Int → Int → Int → List (S61) → List Int → Int → Int → Int → Int → Int → Nat → Option ((List (S45)))
  | 0, _, _, _, _, _, _, _, _, _, _, _, _, _, _ => none
  | k + 1, x1, x2, x9, x10, x11, x12, x273000, x273001, x274000, x274001, x274002, x274003, x274004, x274005 => if x12 ≤ x2 then ((stanzaref13_Cells.f k x273000 x273001 x1 x12 0 x274001).bind fun t274 => (if t274 ≤ x274000 then (if 0 ≤ x12 then (if x12 < (x273001.length : Int) then (if (rd x273001 x12) = 0 then (stanzaref13_First.l1 k x1 x2 x9 x10 x12 (wrap64 (x12 + 1)) x273000 x273001 x274000 x274001 x274002 x274003 x274004 x274005) else ((stanzaref13_Cells.f k x273000 x273001 x1 x12 (rd x273001 x12) x274001).bind fun t277 => (if t277 ≤ x274000 then (stanzaref13_First.l1 k x1 x2 x9 x12 x12 (wrap64 (x12 + 1)) x273000 x273001 x274000 x274001 x274002 x274003 x274004 x274005) else (stanzaref13_First.l1 k x1 x2 x9 x10 x12 (wrap64 (x12 + 1)) x273000 x273001 x274000 x274001 x274002 x274003 x274004 x274005)))) else (none)) else (none)) else (stanzaref13_First.l1 k x1 x2 x9 x10 x11 (wrap64 (x12 + 1)) x273000 x273001 x274000 x274001 x274002 x274003 x274004 x274005))) else (if x10 ≥ 0 then (if 0 ≤ x10 then (if x10 < (x273001.length : Int) then ((stanzaref13_Line.f k x273000 x273001 x1 x10 (rd x273001 x10) x274001).bind fun bt279 => (if x9.length < 4398046511104 then (stanzaref13_First.l0 k x10 x2 (x9 ++ [(⟨bt279.1, bt279.2.1, bt279.2.2.1, bt279.2.2.2⟩ : S45)]) x273000 x273001 x274000 x274001 x274002 x274003 x274004 x274005) else (none))) else (none)) else (none)) else (if x11 < 0 then (if 0 ≤ (wrap64 (x1 + 1)) then (if (wrap64 (x1 + 1)) < (x273001.length : Int) then (if (rd x273001 (wrap64 (x1 + 1))) = 2 then ((stanzaref13_Line.f k x273000 x273001 x1 (wrap64 (x1 + 1)) (rd x273001 (wrap64 (x1 + 1))) x274001).bind fun bt288 => (if x9.length < 4398046511104 then (stanzaref13_First.l0 k (wrap64 (x1 + 1)) x2 (x9 ++ [(⟨bt288.1, bt288.2.1, bt288.2.2.1, bt288.2.2.2⟩ : S45)]) x273000 x273001 x274000 x274001 x274002 x274003 x274004 x274005) else (none))) else (if (rd x273001 (wrap64 (x1 + 1))) = 1 then ((stanzaref13_Line.f k x273000 x273001 x1 (wrap64 (x1 + 1)) (rd x273001 (wrap64 (x1 + 1))) x274001).bind fun bt297 => (if x9.length < 4398046511104 then (stanzaref13_First.l0 k (wrap64 (x1 + 1)) x2 (x9 ++ [(⟨bt297.1, bt297.2.1, bt297.2.2.1, bt297.2.2.2⟩ : S45)]) x273000 x273001 x274000 x274001 x274002 x274003 x274004 x274005) else (none))) else ((stanzaref13_Line.f k x273000 x273001 x1 (wrap64 (x1 + 1)) 4 x274001).bind fun bt304 => (if x9.length < 4398046511104 then (stanzaref13_First.l0 k (wrap64 (x1 + 1)) x2 (x9 ++ [(⟨bt304.1, bt304.2.1, bt304.2.2.1, bt304.2.2.2⟩ : S45)]) x273000 x273001 x274000 x274001 x274002 x274003 x274004 x274005) else (none))))) else (none)) else (none)) else (if 0 ≤ x11 then (if x11 < (x273001.length : Int) then (if (rd x273001 x11) = 2 then ((stanzaref13_Line.f k x273000 x273001 x1 x11 (rd x273001 x11) x274001).bind fun bt313 => (if x9.length < 4398046511104 then (stanzaref13_First.l0 k x11 x2 (x9 ++ [(⟨bt313.1, bt313.2.1, bt313.2.2.1, bt313.2.2.2⟩ : S45)]) x273000 x273001 x274000 x274001 x274002 x274003 x274004 x274005) else (none))) else (if (rd x273001 x11) = 1 then ((stanzaref13_Line.f k x273000 x273001 x1 x11 (rd x273001 x11) x274001).bind fun bt322 => (if x9.length < 4398046511104 then (stanzaref13_First.l0 k x11 x2 (x9 ++ [(⟨bt322.1, bt322.2.1, bt322.2.2.1, bt322.2.2.2⟩ : S45)]) x273000 x273001 x274000 x274001 x274002 x274003 x274004 x274005) else (none))) else ((stanzaref13_Line.f k x273000 x273001 x1 x11 4 x274001).bind fun bt329 => (if x9.length < 4398046511104 then (stanzaref13_First.l0 k x11 x2 (x9 ++ [(⟨bt329.1, bt329.2.1, bt329.2.2.1, bt329.2.2.2⟩ : S45)]) x273000 x273001 x274000 x274001 x274002 x274003 x274004 x274005) else (none))))) else (none)) else (none))))
end
def stanzaref13_First.f (k : Nat) (l0_0 : List (S61)) (l0_1 : List Int) (a1 : Int) (a2 : Int) (a3_0 : Int) (a3_1 : Int) (a3_2 : Int) (a3_3 : Int) (a3_4 : Int) (a3_5 : Nat) : Option ((List (S45))) := stanzaref13_First.l0 k a1 a2 ([] : List (S45)) l0_0 l0_1 a3_0 a3_1 a3_2 a3_3 a3_4 a3_5
theorem stanzaref13_First.mono_l : ∀ k, (∀ y0 y1 y2 y3 y4 y5 y6 y7 y8 y9 y10, LeO (stanzaref13_First.l0 k y0 y1 y2 y3 y4 y5 y6 y7 y8 y9 y10) (stanzaref13_First.l0 (k + 1) y0 y1 y2 y3 y4 y5 y6 y7 y8 y9 y10)) ∧ (∀ y0 y1 y2 y3 y4 y5 y6 y7 y8 y9 y10 y11 y12 y13, LeO (stanzaref13_First.l1 k y0 y1 y2 y3 y4 y5 y6 y7 y8 y9 y10 y11 y12 y13) (stanzaref13_First.l1 (k + 1) y0 y1 y2 y3 y4 y5 y6 y7 y8 y9 y10 y11 y12 y13))
  | 0 => ⟨fun _ _ _ _ _ _ _ _ _ _ _ r h => by simp [stanzaref13_First.l0] at h, fun _ _ _ _ _ _ _ _ _ _ _ _ _ _ r h => by simp [stanzaref13_First.l1] at h⟩
  | k + 1 => by
    obtain ⟨ih0, ih1⟩ := stanzaref13_First.mono_l k; refine ⟨?_, ?_⟩
    · intro y0 y1 y2 y3 y4 y5 y6 y7 y8 y9 y10
      unfold stanzaref13_First.l0
      repeat' first
      | (with_reducible exact ih0 _ _ _ _ _ _ _ _ _ _ _)
      | (with_reducible exact ih1 _ _ _ _ _ _ _ _ _ _ _ _ _ _)
      | (with_reducible exact stanzaref13_Cells.mono _ _ _ _ _ _ _)
      | (with_reducible exact stanzaref13_Line.mono _ _ _ _ _ _ _)
      | (with_reducible exact LeO.refl _)
      | (with_reducible exact LeO.none _)
      | (with_reducible refine LeO.ite ?_ ?_)
      | (with_reducible refine LeO.bind ?_ (fun _ => ?_))
      | exact ih0 _ _ _ _ _ _ _ _ _ _ _
      | exact ih1 _ _ _ _ _ _ _ _ _ _ _ _ _ _
      | exact stanzaref13_Cells.mono _ _ _ _ _ _ _
      | exact stanzaref13_Line.mono _ _ _ _ _ _ _
      | exact LeO.none _
      | refine LeO.ite ?_ ?_
      | refine LeO.bind ?_ (fun _ => ?_)
    · intro y0 y1 y2 y3 y4 y5 y6 y7 y8 y9 y10 y11 y12 y13
      unfold stanzaref13_First.l1
      repeat' first
      | (with_reducible exact ih0 _ _ _ _ _ _ _ _ _ _ _)
      | (with_reducible exact ih1 _ _ _ _ _ _ _ _ _ _ _ _ _ _)
      | (with_reducible exact stanzaref13_Cells.mono _ _ _ _ _ _ _)
      | (with_reducible exact stanzaref13_Line.mono _ _ _ _ _ _ _)
      | (with_reducible exact LeO.refl _)
      | (with_reducible exact LeO.none _)
      | (with_reducible refine LeO.ite ?_ ?_)
      | (with_reducible refine LeO.bind ?_ (fun _ => ?_))
      | exact ih0 _ _ _ _ _ _ _ _ _ _ _
      | exact ih1 _ _ _ _ _ _ _ _ _ _ _ _ _ _
      | exact stanzaref13_Cells.mono _ _ _ _ _ _ _
      | exact stanzaref13_Line.mono _ _ _ _ _ _ _
      | exact LeO.none _
      | refine LeO.ite ?_ ?_
      | refine LeO.bind ?_ (fun _ => ?_)
theorem stanzaref13_First.mono : ∀ a0 a1 a2 a3 a4 a5 a6 a7 a8 a9 k, LeO (stanzaref13_First.f k a0 a1 a2 a3 a4 a5 a6 a7 a8 a9) (stanzaref13_First.f (k + 1) a0 a1 a2 a3 a4 a5 a6 a7 a8 a9) := by
  intro a0 a1 a2 a3 a4 a5 a6 a7 a8 a9 k
  obtain ⟨ih0, ih1⟩ := stanzaref13_First.mono_l k; unfold stanzaref13_First.f
  repeat' first
      | (with_reducible exact ih0 _ _ _ _ _ _ _ _ _ _ _)
      | (with_reducible exact ih1 _ _ _ _ _ _ _ _ _ _ _ _ _ _)
      | (with_reducible exact stanzaref13_Cells.mono _ _ _ _ _ _ _)
      | (with_reducible exact stanzaref13_Line.mono _ _ _ _ _ _ _)
      | (with_reducible exact LeO.refl _)
      | (with_reducible exact LeO.none _)
      | (with_reducible refine LeO.ite ?_ ?_)
      | (with_reducible refine LeO.bind ?_ (fun _ => ?_))
      | exact ih0 _ _ _ _ _ _ _ _ _ _ _
      | exact ih1 _ _ _ _ _ _ _ _ _ _ _ _ _ _
      | exact stanzaref13_Cells.mono _ _ _ _ _ _ _
      | exact stanzaref13_Line.mono _ _ _ _ _ _ _
      | exact LeO.none _
      | refine LeO.ite ?_ ?_
      | refine LeO.bind ?_ (fun _ => ?_)
def stanzaref13_First.T7 : Bool × List (List Nat × List Nat) := (true, [([], []), ([], []), ([], []), ([], []), ([3], [3]), ([0, 1, 2, 4], [0, 1, 2, 4]), ([], []), ([6], [6]), ([5, 7], [5, 7])])
def stanzaref13_First.B7 : List Nat := [0, 0, 0, 0, 8, 31, 0, 64, 255]
theorem stanzaref13_First.tab7 : rtab .any (opsOf Try.f18 7) = stanzaref13_First.T7 := by kernel_rfl
theorem stanzaref13_First.bits7 : waitsOk stanzaref13_First.T7.2 stanzaref13_First.B7 = true := by kernel_rfl
def stanzaref13_First.T9 : Bool × List (List Nat × List Nat) := (true, [([], []), ([0], [0]), ([], []), ([1, 2], [1, 2]), ([3], [3]), ([4], [4]), ([5], [5]), ([6], [6]), ([6], [6]), ([6], [6]), ([6], [6]), ([10, 6], [6, 10]), ([6], [6]), ([11, 12, 6], [6, 11, 12]), ([13, 6], [6, 13]), ([6], [6]), ([15, 6], [6, 15]), ([7, 8, 9, 14, 16, 6, 6], [6, 7, 8, 9, 14, 16]), ([6], [6]), ([18, 6], [6, 18]), ([17, 19, 6], [6, 17, 19]), ([6, 20], [6, 20])])
def stanzaref13_First.B9 : List Nat := [0, 1, 0, 7, 15, 31, 63, 127, 127, 127, 127, 1151, 127, 7295, 15487, 127, 32895, 131071, 127, 262271, 1048575, 2097151]
theorem stanzaref13_First.tab9 : rtab .any (opsOf Try.f18 9) = stanzaref13_First.T9 := by kernel_rfl
theorem stanzaref13_First.bits9 : waitsOk stanzaref13_First.T9.2 stanzaref13_First.B9 = true := by kernel_rfl
set_option maxHeartbeats 8000000 in
set_option maxRecDepth 100000 in
theorem stanzaref13_First.calls (k : Nat) (A0_0 : Option Addr) (c0_0 : Nat) (l0_0 : List (S61)) (A0_1 : Option Addr) (c0_1 : Nat) (l0_1 : List Int) (a1 : Int) (a2 : Int) (a3_0 : Int) (a3_1 : Int) (a3_2 : Int) (a3_3 : Int) (a3_4 : Int) (a3_5 : Nat) (r : List (S45)) (w : World) (hr0_0 : Kd.C k61 w A0_0 l0_0.length l0_0) (hc0_0 : l0_0.length ≤ c0_0) (hr0_1 : Kd.C (Kd.int .u8) w A0_1 l0_1.length l0_1) (hc0_1 : l0_1.length ≤ c0_1) (h : stanzaref13_First.f k l0_0 l0_1 a1 a2 a3_0 a3_1 a3_2 a3_3 a3_4 a3_5 = some r) :
    Calls Try.prog 18 #[.agg #[.slice A0_0 l0_0.length c0_0, .slice A0_1 l0_1.length c0_1], .int .i64 a1, .int .i64 a2, .agg #[.int .i64 a3_0, .int .i64 a3_1, .int .u8 a3_2, .int .i64 a3_3, .int .i64 a3_4, .float .f64 a3_5]] w fun e w' => ∃ v0_ : Value, e = .returned (v0_) ∧ Kd.R k45 45 w' w.heap.size (fun _ => True) v0_ r ∧ Below w.heap.size w w' := by
  have hu31 := Try.underlying31; have hu35 := Try.underlying35; have HR0_0 := zA.mk hr0_0; have HC0_0 := zA.mk hc0_0; clear hr0_0 hc0_0; have HR0_1 := zA.mk hr0_1; have HC0_1 := zA.mk hc0_1; clear hr0_1 hc0_1; have HB := zA.mk (Below.refl w.heap.size w); have H : (stanzaref13_First.l0 k a1 a2 ([] : List (S45)) l0_0 l0_1 a3_0 a3_1 a3_2 a3_3 a3_4 a3_5) = some r := h
  clear h; have H' := zA.mk H
  clear H; go_enter Try.func18, Try.ntmps18
  go_wp2_with (first | ((with_reducible refine gate_dst (N := 4) rfl ?_); refine box_event ?hg (N := 4) ?hd (cs := #[.slice A0_0 l0_0.length c0_0, .slice A0_1 l0_1.length c0_1]) (t := 31) ?hr ?_; (case hd => rfl); (case hg => rfl); (case hr => first | (go_simp; done) | (go_simp; rfl)); intro gb272 hg w5 hbox hb; have n0_ := zA.mk (zM (by repeat (first | (with_reducible first | exact HB.out | apply zI | apply zE | apply zH) | exact HB.out)) hb); have n1_ := zA.mk (hbox); have n2_ := zA.mk ((by rw [hg]; exact (zK (by repeat (first | (with_reducible first | exact HB.out | apply zI | apply zE | apply zH) | exact HB.out))) : w.heap.size ≤ gb272)); have n3_ := zA.mk ((by rw [hg]; exact (zK (by repeat (first | (with_reducible first | exact HB.out | apply zI | apply zE | apply zH) | exact HB.out))) : w.heap.size ≤ gb272)); clear HB; have HB := n0_; have BK272 := n1_; have GW272 := n2_; have GE272 := n3_; clear n0_ n1_ n2_ n3_; clear hb hbox hg) | ((with_reducible refine gate_dst (N := 7) rfl ?_); refine box_event ?hg (N := 7) ?hd (cs := #[.int .i64 a3_0, .int .i64 a3_1, .int .u8 a3_2, .int .i64 a3_3, .int .i64 a3_4, .float .f64 a3_5]) (t := 35) ?hr ?_; (case hd => rfl); (case hg => rfl); (case hr => first | (go_simp; done) | (go_simp; rfl)); intro gb273 hg w6 hbox hb; have n0_ := zA.mk (zL (g := gb272) (o := .cells #[.slice A0_0 l0_0.length c0_0, .slice A0_1 l0_1.length c0_1] 31 (0, 0)) (by (with_reducible repeat (first | refine zB ?_ _ | refine zD ?_ | refine zC ?_ _)); exact BK272.out) hb); have n1_ := zA.mk (zM (by repeat (first | (with_reducible first | exact HB.out | apply zI | apply zE | apply zH | refine zF ?_ GE272.out) | exact HB.out)) hb); have n2_ := zA.mk (hbox); have n3_ := zA.mk ((by rw [hg]; exact (zK (by repeat (first | (with_reducible first | exact HB.out | apply zI | apply zE | apply zH | refine zF ?_ GE272.out) | exact HB.out))) : w.heap.size ≤ gb273)); have n4_ := zA.mk ((by rw [hg]; exact (zK (by repeat (first | (with_reducible first | exact HB.out | apply zI | apply zE | apply zH | refine zF ?_ GE272.out) | exact HB.out))) : w.heap.size ≤ gb273)); have n5_ := zA.mk ((by rw [hg]; exact Nat.ne_of_lt (blk_lt (g := gb272) (o := .cells #[.slice A0_0 l0_0.length c0_0, .slice A0_1 l0_1.length c0_1] 31 (0, 0)) (by (with_reducible repeat (first | refine zB ?_ _ | refine zD ?_ | refine zC ?_ _)); exact BK272.out)) : gb272 ≠ gb273)); have n6_ := zA.mk ((by rw [hg]; exact Nat.ne_of_gt (blk_lt (g := gb272) (o := .cells #[.slice A0_0 l0_0.length c0_0, .slice A0_1 l0_1.length c0_1] 31 (0, 0)) (by (with_reducible repeat (first | refine zB ?_ _ | refine zD ?_ | refine zC ?_ _)); exact BK272.out)) : gb273 ≠ gb272)); clear BK272; clear HB; have BK272 := n0_; have HB := n1_; have BK273 := n2_; have GW273 := n3_; have GE273 := n4_; have NB272_273 := n5_; have NB273_272 := n6_; clear n0_ n1_ n2_ n3_ n4_ n5_ n6_; clear hb hbox hg))
  go_loopg [1, 9] k (fun kq v1 v9 w' => ∃ (x1_1 : Int) (x9_1 : List (S45)), v1 = .int .i64 x1_1 ∧ zA (stanzaref13_First.l0 kq x1_1 a2 x9_1 l0_0 l0_1 a3_0 a3_1 a3_2 a3_3 a3_4 a3_5 = some r) ∧ zA (kq ≤ k) ∧ zA (Kd.R k45 45 w' w.heap.size (fun _ => True) v9 x9_1) ∧ zA (w'.heap[gb272]? = some (.cells #[(.slice A0_0 l0_0.length c0_0), (.slice A0_1 l0_1.length c0_1)] 31 (0, 0))) ∧ zA (w'.heap[gb273]? = some (.cells #[.int .i64 a3_0, .int .i64 a3_1, .int .u8 a3_2, .int .i64 a3_3, .int .i64 a3_4, .float .f64 a3_5] 35 (0, 0))) ∧ zA (Below w.heap.size w w'))
  case atStart => exact ⟨(a1), (([] : List (S45))), (by first | rfl | (simp; done) | (simp [*]; done)), H', ⟨Nat.le_refl _⟩, ⟨by first | exact Kd.R_nil _ _ _ _ _ | exact Kd.N_nil _ _ _ _ _ | exact Kd.V_nil _ _ _ _ _ | exact Kd.Q_nil _ _ _ _ _ | exact Kd.S_nil _ _ _ _ _⟩, ⟨by (with_reducible repeat (first | refine zB ?_ _ | refine zD ?_ | refine zC ?_ _)); exact BK272.out⟩, ⟨by (with_reducible repeat (first | refine zB ?_ _ | refine zD ?_ | refine zC ?_ _)); exact BK273.out⟩, ⟨by repeat (first | (with_reducible first | exact HB.out | apply zI | apply zE | apply zH | refine zF ?_ GE272.out | refine zF ?_ GE273.out) | exact HB.out)⟩⟩
  clear H'; try clear c1
  try clear p2
  obtain ⟨x1_1, x9_1, rfl, HA, HK1, HO_9, BK272, BK273, HB⟩ := hrel; cases gk with
  | zero => exact absurd HA.out (by simp [stanzaref13_First.l0])
  | succ k1 =>
    have H := HA.out; clear HA; simp only [stanzaref13_First.l0] at H; by_cases c7 : x1_1 < a2
    rotate_left
    · rw [if_neg c7] at H
      have c7b0 : decide (x1_1 < a2) = false := decide_eq_false c7
      clear c7; obtain rfl := Option.some.inj H
      go_wp2
      go_ret
      exact ⟨_, by first | rfl | (simp [errW_none, errW_some] <;> rfl) | (simp [*, errW_none, errW_some] <;> rfl), by (with_reducible repeat (first | apply Kd.R_alloc | apply Kd.R_drewN | apply Kd.R_drew)); exact HO_9.out, by repeat (first | (with_reducible first | exact HB.out | apply zI | apply zE | apply zH | refine zF ?_ GE272.out | refine zF ?_ GE273.out) | exact HB.out)⟩
    rw [if_pos c7] at H; have c7b0 : decide (x1_1 < a2) = true := decide_eq_true c7
    clear c7; have H' := zA.mk H
    clear H; go_wp2
    go_loopg [10, 11, 12] k1 (fun kq v10 v11 v12 w' => ∃ (x10_2 : Int) (x11_2 : Int) (x12_2 : Int), v10 = .int .i64 x10_2 ∧ v11 = .int .i64 x11_2 ∧ v12 = .int .i64 x12_2 ∧ zA (stanzaref13_First.l1 kq x1_1 a2 x9_1 x10_2 x11_2 x12_2 l0_0 l0_1 a3_0 a3_1 a3_2 a3_3 a3_4 a3_5 = some r) ∧ zA (kq ≤ k1) ∧ zA (Kd.R k45 45 w' w.heap.size (fun _ => True) u9 x9_1) ∧ zA (w'.heap[gb272]? = some (.cells #[(.slice A0_0 l0_0.length c0_0), (.slice A0_1 l0_1.length c0_1)] 31 (0, 0))) ∧ zA (w'.heap[gb273]? = some (.cells #[.int .i64 a3_0, .int .i64 a3_1, .int .u8 a3_2, .int .i64 a3_3, .int .i64 a3_4, .float .f64 a3_5] 35 (0, 0))) ∧ zA (Below w.heap.size w w'))
    case atStart => exact ⟨((-1)), ((-1)), (wrap64 (x1_1 + 1)), (by first | rfl | (simp; done) | (simp [*]; done)), (by first | rfl | (simp; done) | (simp [*]; done)), (by first | rfl | (simp; done) | (simp [*]; done)), H', ⟨Nat.le_refl _⟩, ⟨by (with_reducible repeat (first | apply Kd.R_alloc | apply Kd.R_drewN | apply Kd.R_drew)); exact HO_9.out⟩, ⟨by (with_reducible repeat (first | refine zB ?_ _ | refine zD ?_ | refine zC ?_ _)); exact BK272.out⟩, ⟨by (with_reducible repeat (first | refine zB ?_ _ | refine zD ?_ | refine zC ?_ _)); exact BK273.out⟩, ⟨by repeat (first | (with_reducible first | exact HB.out | apply zI | apply zE | apply zH | refine zF ?_ GE272.out | refine zF ?_ GE273.out) | exact HB.out)⟩⟩
    clear H'; try clear c1
    try clear p2
    try clear p6
    try clear c7
    try clear c7b0
    try clear p2
    obtain ⟨x10_2, x11_2, x12_2, rfl, rfl, rfl, HA, HK2, HO_9, BK272, BK273, HB⟩ := hrel; cases gk with
    | zero => exact absurd HA.out (by simp [stanzaref13_First.l1])
    | succ k2 =>
      have H := HA.out; clear HA; simp only [stanzaref13_First.l1] at H; by_cases c8 : x12_2 ≤ a2
      rotate_left
      · rw [if_neg c8] at H
        have c8b0 : decide (x12_2 ≤ a2) = false := decide_eq_false c8
        clear c8; by_cases c29 : x10_2 ≥ 0
        · rw [if_pos c29] at H
          have c29b0 : decide (0 ≤ x10_2) = true := decide_eq_true c29
          clear c29; by_cases c30 : 0 ≤ x10_2
          rotate_left
          · rw [if_neg c30] at H
            exact absurd H (by simp)
          rw [if_pos c30] at H; have c30b0 : decide (0 ≤ x10_2) = true := decide_eq_true c30
          clear c30; by_cases c31 : x10_2 < (l0_1.length : Int)
          rotate_left
          · rw [if_neg c31] at H
            exact absurd H (by simp)
          rw [if_pos c31] at H; have c31b0 : decide (x10_2 < (l0_1.length : Int)) = true := decide_eq_true c31
          clear c31; replace H := Option.bind_eq_some_iff.mp H; obtain ⟨⟨t279, t280, t281, t282⟩, A320, H⟩ := H; replace H : (if x9_1.length < 4398046511104 then (stanzaref13_First.l0 k2 x10_2 a2 (x9_1 ++ [(⟨t279, t280, t281, t282⟩ : S45)]) l0_0 l0_1 a3_0 a3_1 a3_2 a3_3 a3_4 a3_5) else (none)) = some r := H; have A32 := zA.mk A320; clear A320; by_cases c33 : x9_1.length < 4398046511104
          rotate_left
          · rw [if_neg c33] at H
            exact absurd H (by simp)
          rw [if_pos c33] at H; have LMc33 := zA.mk c33; clear c33; obtain ⟨y283, hy283⟩ : ∃ y_ : List (S45), y_ = (x9_1 ++ [(⟨t279, t280, t281, t282⟩ : S45)]) := ⟨_, rfl⟩; replace H : (stanzaref13_First.l0 k2 x10_2 a2 y283 l0_0 l0_1 a3_0 a3_1 a3_2 a3_3 a3_4 a3_5) = some r := by first | (rw [hy283]; with_reducible exact H) | (have H2_ := (Option.bind_some _ _).symm.trans H; rw [hy283]; with_reducible exact H2_) | (have H2_ := (Option.bind_some _ _).symm.trans H; with_reducible exact H2_) | with_reducible exact H | (rw [hy283]; exact H) | exact H
          have Ny283 := zA.mk hy283; clear hy283; have H' := zA.mk H
          clear H; have hnb34 := NB272_273.out; have hnc34 := NB273_272.out; have hcz35_0 : wr.cell? ⟨gb272, 0, none⟩ = some (.slice A0_0 l0_0.length c0_0) := (zG BK272.out 0).trans rfl
          have hcz35_1 : wr.cell? ⟨gb272, 1, none⟩ = some (.slice A0_1 l0_1.length c0_1) := (zG BK272.out 1).trans rfl
          have hfz35_0 := zJ BK272.out 0; have hfz35_1 := zJ BK272.out 1; have p278 : 0 ≤ (x10_2 : Int) := of_decide_eq_true (by first | (with_reducible assumption) | assumption)
          have q278 : x10_2 < (l0_1.length : Int) := of_decide_eq_true (by first | (with_reducible assumption) | assumption)
          obtain ⟨ad278, e278, hx278_0⟩ := Kd.at_int HR0_1.out x10_2 p278 q278; cases e278
          replace hx278_0 := (HB.out.cell (World.block_lt_of_cell? w _ hx278_0)).trans hx278_0; replace p278 := eq_true p278; replace q278 := eq_true q278; have hcz36_0 : wr.cell? ⟨gb273, 0, none⟩ = some (.int .i64 a3_0) := (zG BK273.out 0).trans rfl
          have hcz36_1 : wr.cell? ⟨gb273, 1, none⟩ = some (.int .i64 a3_1) := (zG BK273.out 1).trans rfl
          have hcz36_2 : wr.cell? ⟨gb273, 2, none⟩ = some (.int .u8 a3_2) := (zG BK273.out 2).trans rfl
          have hcz36_3 : wr.cell? ⟨gb273, 3, none⟩ = some (.int .i64 a3_3) := (zG BK273.out 3).trans rfl
          have hcz36_4 : wr.cell? ⟨gb273, 4, none⟩ = some (.int .i64 a3_4) := (zG BK273.out 4).trans rfl
          have hcz36_5 : wr.cell? ⟨gb273, 5, none⟩ = some (.float .f64 a3_5) := (zG BK273.out 5).trans rfl
          have hfz36_0 := zJ BK273.out 0; have hfz36_1 := zJ BK273.out 1; have hfz36_2 := zJ BK273.out 2; have hfz36_3 := zJ BK273.out 3; have hfz36_4 := zJ BK273.out 4; have hfz36_5 := zJ BK273.out 5; go_wp2_with (first | ((with_reducible refine gate_callee (f := 31) rfl ?_); refine goesL_ (some 95) rfl rfl Try.func31 (by kernel_rfl) rfl #[.agg #[.slice A0_0 l0_0.length c0_0, .slice (some ad278) l0_1.length c0_1], .int .i64 x1_1, .int .i64 x10_2, .int .u8 (rd l0_1 x10_2), .int .i64 a3_1] rfl (by (try simp only [List.map_toArray, List.map_cons, List.map_nil]); first | done | rfl | (simp only [List.length_drop, List.length_take]; rfl)) ?_; (with_reducible refine (stanzaref13_Line.calls k2 _ _ l0_0 _ _ l0_1 x1_1 x10_2 (rd l0_1 x10_2) a3_1 t279 t280 t281 t282 _ ?side1 ?side2 ?side3 ?side4 A32.out).mono ?_); (case side1 => repeat (first | exact (Kd.C_below HR0_0.out HB.out) | (with_reducible refine Kd.C_alloc ?_ _) | (with_reducible refine Kd.C_drewN ?_ _) | (with_reducible refine Kd.C_drew ?_))); (case side2 => exact HC0_0.out); (case side3 => repeat (first | exact (Kd.C_below HR0_1.out HB.out) | (with_reducible refine Kd.C_alloc ?_ _) | (with_reducible refine Kd.C_drewN ?_ _) | (with_reducible refine Kd.C_drew ?_))); (case side4 => exact HC0_1.out); rintro e w37 ⟨rfl, hb⟩; refine ⟨_, rfl, ?_⟩; have n0_ := zA.mk (Kd.R_below (by (with_reducible repeat (first | apply Kd.R_alloc | apply Kd.R_drewN | apply Kd.R_drew)); exact HO_9.out) hb); have n1_ := zA.mk (zL (g := gb272) (o := .cells #[.slice A0_0 l0_0.length c0_0, .slice (some ad278) l0_1.length c0_1] 31 (0, 0)) (by (with_reducible repeat (first | refine zB ?_ _ | refine zD ?_ | refine zC ?_ _)); exact BK272.out) hb); have n2_ := zA.mk (zL (g := gb273) (o := .cells #[.int .i64 a3_0, .int .i64 a3_1, .int .u8 a3_2, .int .i64 a3_3, .int .i64 a3_4, .float .f64 a3_5] 35 (0, 0)) (by (with_reducible repeat (first | refine zB ?_ _ | refine zD ?_ | refine zC ?_ _)); exact BK273.out) hb); have n3_ := zA.mk (zM (by repeat (first | (with_reducible first | exact HB.out | apply zI | apply zE | apply zH | refine zF ?_ GE272.out | refine zF ?_ GE273.out) | exact HB.out)) hb); clear HO_9; clear BK272; clear BK273; clear HB; have HO_9 := n0_; have BK272 := n1_; have BK273 := n2_; have HB := n3_; clear n0_ n1_ n2_ n3_; (try clear hb); (try clear hb2); (try clear hk); (try clear hi)) | ((with_reducible refine gate_builtin (b := .append) (xs := #[.tmp 88, .tmp 96]) rfl ?_); at_builtin; refine Kd.R_append k45 (w0 := w) w.heap.size rfl (.tmp 88) (.tmp 96) 40 45 (.agg #[(.int .i64 0), (.int .i64 0), (.int .i64 0), (.int .u8 0)]) 32 rfl Try.underlying40 info45 rfl (by decide) (by omega) u9 x9_1 (⟨t279, t280, t281, t282⟩ : S45) [.int .i64 t279, .int .i64 t280, .int .i64 t281, .int .u8 t282] (fun _ => True) (fun _ => False) rfl rfl ?aP (fun _ hk => hk.elim) ?aF ?aO ?aB ?aS ?aL ?_; (case aP => exact k45_mkM _ _ _ (⟨t279, t280, t281, t282⟩ : S45)); (case aB => exact (by repeat (first | (with_reducible first | exact HB.out | apply zI | apply zE | apply zH | refine zF ?_ GE272.out | refine zF ?_ GE273.out) | exact HB.out))); (case aF => exact (fun _ _ => trivial)); (case aO => exact (by (with_reducible repeat (first | apply Kd.R_alloc | apply Kd.R_drewN | apply Kd.R_drew)); exact HO_9.out)); (case aS => exact (zK (by repeat (first | (with_reducible first | exact HB.out | apply zI | apply zE | apply zH | refine zF ?_ GE272.out | refine zF ?_ GE273.out) | exact HB.out)))); (case aL => have := LMc33.out; omega); intro v284 w38 ho hb hg hat; rw [← Ny283.out] at ho; have n0_ := zA.mk (blk_grown (g := gb272) (o := .cells #[.slice A0_0 l0_0.length c0_0, .slice (some ad278) l0_1.length c0_1] 31 (0, 0)) (by (with_reducible repeat (first | refine zB ?_ _ | refine zD ?_ | refine zC ?_ _)); exact BK272.out) hg (Kd.R_ne HO_9.out BK272.out (by decide))); have n1_ := zA.mk (blk_grown (g := gb273) (o := .cells #[.int .i64 a3_0, .int .i64 a3_1, .int .u8 a3_2, .int .i64 a3_3, .int .i64 a3_4, .float .f64 a3_5] 35 (0, 0)) (by (with_reducible repeat (first | refine zB ?_ _ | refine zD ?_ | refine zC ?_ _)); exact BK273.out) hg (Kd.R_ne HO_9.out BK273.out (by decide))); have n2_ := zA.mk (hb); have n3_ := zA.mk (ho); clear BK272; clear BK273; clear HB; clear HO_9; have BK272 := n0_; have BK273 := n1_; have HB := n2_; have HO285 := n3_; clear n0_ n1_ n2_ n3_; clear ho hb hg hat))
          go_roundg k2
          case measure => have := HK1.out; have := HK2.out; omega
          case rel => exact ⟨(x10_2), (y283), (by first | rfl | (simp; done) | (simp [*]; done)), H', ⟨by have := HK1.out; have := HK2.out; omega⟩, ⟨by (with_reducible repeat (first | apply Kd.R_alloc | apply Kd.R_drewN | apply Kd.R_drew)); exact HO285.out⟩, ⟨by (with_reducible repeat (first | refine zB ?_ _ | refine zD ?_ | refine zC ?_ _)); exact BK272.out⟩, ⟨by (with_reducible repeat (first | refine zB ?_ _ | refine zD ?_ | refine zC ?_ _)); exact BK273.out⟩, ⟨by repeat (first | (with_reducible first | exact HB.out | apply zI | apply zE | apply zH | refine zF ?_ GE272.out | refine zF ?_ GE273.out) | exact HB.out)⟩⟩
        rw [if_neg c29] at H; have c29b0 : decide (0 ≤ x10_2) = false := decide_eq_false c29
        clear c29; by_cases c39 : x11_2 < 0
        rotate_left
        · rw [if_neg c39] at H
          have c39b0 : decide (x11_2 < 0) = false := decide_eq_false c39
          clear c39; by_cases c66 : 0 ≤ x11_2
          rotate_left
          · rw [if_neg c66] at H
            exact absurd H (by simp)
          rw [if_pos c66] at H; have c66b0 : decide (0 ≤ x11_2) = true := decide_eq_true c66
          clear c66; by_cases c67 : x11_2 < (l0_1.length : Int)
          rotate_left
          · rw [if_neg c67] at H
            exact absurd H (by simp)
          rw [if_pos c67] at H; have c67b0 : decide (x11_2 < (l0_1.length : Int)) = true := decide_eq_true c67
          clear c67; by_cases c68 : (rd l0_1 x11_2) = 2
          · rw [if_pos c68] at H
            have c68b0 : ((rd l0_1 x11_2) == 2) = true := beq_iff_eq.mpr c68
            have c68b1 : ((rd l0_1 x11_2) != 2) = false := bne_eq_false_iff_eq.mpr c68
            clear c68; replace H := Option.bind_eq_some_iff.mp H; obtain ⟨⟨t313, t314, t315, t316⟩, A690, H⟩ := H; replace H : (if x9_1.length < 4398046511104 then (stanzaref13_First.l0 k2 x11_2 a2 (x9_1 ++ [(⟨t313, t314, t315, t316⟩ : S45)]) l0_0 l0_1 a3_0 a3_1 a3_2 a3_3 a3_4 a3_5) else (none)) = some r := H; have A69 := zA.mk A690; clear A690; by_cases c70 : x9_1.length < 4398046511104
            rotate_left
            · rw [if_neg c70] at H
              exact absurd H (by simp)
            rw [if_pos c70] at H; have LMc70 := zA.mk c70; clear c70; obtain ⟨y317, hy317⟩ : ∃ y_ : List (S45), y_ = (x9_1 ++ [(⟨t313, t314, t315, t316⟩ : S45)]) := ⟨_, rfl⟩; replace H : (stanzaref13_First.l0 k2 x11_2 a2 y317 l0_0 l0_1 a3_0 a3_1 a3_2 a3_3 a3_4 a3_5) = some r := by first | (rw [hy317]; with_reducible exact H) | (have H2_ := (Option.bind_some _ _).symm.trans H; rw [hy317]; with_reducible exact H2_) | (have H2_ := (Option.bind_some _ _).symm.trans H; with_reducible exact H2_) | with_reducible exact H | (rw [hy317]; exact H) | exact H
            have Ny317 := zA.mk hy317; clear hy317; have H' := zA.mk H
            clear H; have hnb71 := NB272_273.out; have hnc71 := NB273_272.out; have hcz72_0 : wr.cell? ⟨gb272, 0, none⟩ = some (.slice A0_0 l0_0.length c0_0) := (zG BK272.out 0).trans rfl
            have hcz72_1 : wr.cell? ⟨gb272, 1, none⟩ = some (.slice A0_1 l0_1.length c0_1) := (zG BK272.out 1).trans rfl
            have hfz72_0 := zJ BK272.out 0; have hfz72_1 := zJ BK272.out 1; have p311 : 0 ≤ (x11_2 : Int) := of_decide_eq_true (by first | (with_reducible assumption) | assumption)
            have q311 : x11_2 < (l0_1.length : Int) := of_decide_eq_true (by first | (with_reducible assumption) | assumption)
            obtain ⟨ad311, e311, hx311_0⟩ := Kd.at_int HR0_1.out x11_2 p311 q311; cases e311
            replace hx311_0 := (HB.out.cell (World.block_lt_of_cell? w _ hx311_0)).trans hx311_0; replace p311 := eq_true p311; replace q311 := eq_true q311; have p312 : 0 ≤ (x11_2 : Int) := of_decide_eq_true (by first | (with_reducible assumption) | assumption)
            have q312 : x11_2 < (l0_1.length : Int) := of_decide_eq_true (by first | (with_reducible assumption) | assumption)
            obtain ⟨ad312, e312, hx312_0⟩ := Kd.at_int HR0_1.out x11_2 p312 q312; obtain rfl : ad311 = ad312 := (by injection e312)
            replace hx312_0 := (HB.out.cell (World.block_lt_of_cell? w _ hx312_0)).trans hx312_0; replace p312 := eq_true p312; replace q312 := eq_true q312; have hcz73_0 : wr.cell? ⟨gb273, 0, none⟩ = some (.int .i64 a3_0) := (zG BK273.out 0).trans rfl
            have hcz73_1 : wr.cell? ⟨gb273, 1, none⟩ = some (.int .i64 a3_1) := (zG BK273.out 1).trans rfl
            have hcz73_2 : wr.cell? ⟨gb273, 2, none⟩ = some (.int .u8 a3_2) := (zG BK273.out 2).trans rfl
            have hcz73_3 : wr.cell? ⟨gb273, 3, none⟩ = some (.int .i64 a3_3) := (zG BK273.out 3).trans rfl
            have hcz73_4 : wr.cell? ⟨gb273, 4, none⟩ = some (.int .i64 a3_4) := (zG BK273.out 4).trans rfl
            have hcz73_5 : wr.cell? ⟨gb273, 5, none⟩ = some (.float .f64 a3_5) := (zG BK273.out 5).trans rfl
            have hfz73_0 := zJ BK273.out 0; have hfz73_1 := zJ BK273.out 1; have hfz73_2 := zJ BK273.out 2; have hfz73_3 := zJ BK273.out 3; have hfz73_4 := zJ BK273.out 4; have hfz73_5 := zJ BK273.out 5; go_wp2_with (first | ((with_reducible refine gate_callee (f := 31) rfl ?_); refine goesL_ (some 95) rfl rfl Try.func31 (by kernel_rfl) rfl #[.agg #[.slice A0_0 l0_0.length c0_0, .slice (some ad311) l0_1.length c0_1], .int .i64 x1_1, .int .i64 x11_2, .int .u8 (rd l0_1 x11_2), .int .i64 a3_1] rfl (by (try simp only [List.map_toArray, List.map_cons, List.map_nil]); first | done | rfl | (simp only [List.length_drop, List.length_take]; rfl)) ?_; (with_reducible refine (stanzaref13_Line.calls k2 _ _ l0_0 _ _ l0_1 x1_1 x11_2 (rd l0_1 x11_2) a3_1 t313 t314 t315 t316 _ ?side1 ?side2 ?side3 ?side4 A69.out).mono ?_); (case side1 => repeat (first | exact (Kd.C_below HR0_0.out HB.out) | (with_reducible refine Kd.C_alloc ?_ _) | (with_reducible refine Kd.C_drewN ?_ _) | (with_reducible refine Kd.C_drew ?_))); (case side2 => exact HC0_0.out); (case side3 => repeat (first | exact (Kd.C_below HR0_1.out HB.out) | (with_reducible refine Kd.C_alloc ?_ _) | (with_reducible refine Kd.C_drewN ?_ _) | (with_reducible refine Kd.C_drew ?_))); (case side4 => exact HC0_1.out); rintro e w74 ⟨rfl, hb⟩; refine ⟨_, rfl, ?_⟩; have n0_ := zA.mk (Kd.R_below (by (with_reducible repeat (first | apply Kd.R_alloc | apply Kd.R_drewN | apply Kd.R_drew)); exact HO_9.out) hb); have n1_ := zA.mk (zL (g := gb272) (o := .cells #[.slice A0_0 l0_0.length c0_0, .slice (some ad311) l0_1.length c0_1] 31 (0, 0)) (by (with_reducible repeat (first | refine zB ?_ _ | refine zD ?_ | refine zC ?_ _)); exact BK272.out) hb); have n2_ := zA.mk (zL (g := gb273) (o := .cells #[.int .i64 a3_0, .int .i64 a3_1, .int .u8 a3_2, .int .i64 a3_3, .int .i64 a3_4, .float .f64 a3_5] 35 (0, 0)) (by (with_reducible repeat (first | refine zB ?_ _ | refine zD ?_ | refine zC ?_ _)); exact BK273.out) hb); have n3_ := zA.mk (zM (by repeat (first | (with_reducible first | exact HB.out | apply zI | apply zE | apply zH | refine zF ?_ GE272.out | refine zF ?_ GE273.out) | exact HB.out)) hb); clear HO_9; clear BK272; clear BK273; clear HB; have HO_9 := n0_; have BK272 := n1_; have BK273 := n2_; have HB := n3_; clear n0_ n1_ n2_ n3_; (try clear hb); (try clear hb2); (try clear hk); (try clear hi)) | ((with_reducible refine gate_builtin (b := .append) (xs := #[.tmp 88, .tmp 96]) rfl ?_); at_builtin; refine Kd.R_append k45 (w0 := w) w.heap.size rfl (.tmp 88) (.tmp 96) 40 45 (.agg #[(.int .i64 0), (.int .i64 0), (.int .i64 0), (.int .u8 0)]) 32 rfl Try.underlying40 info45 rfl (by decide) (by omega) u9 x9_1 (⟨t313, t314, t315, t316⟩ : S45) [.int .i64 t313, .int .i64 t314, .int .i64 t315, .int .u8 t316] (fun _ => True) (fun _ => False) rfl rfl ?aP (fun _ hk => hk.elim) ?aF ?aO ?aB ?aS ?aL ?_; (case aP => exact k45_mkM _ _ _ (⟨t313, t314, t315, t316⟩ : S45)); (case aB => exact (by repeat (first | (with_reducible first | exact HB.out | apply zI | apply zE | apply zH | refine zF ?_ GE272.out | refine zF ?_ GE273.out) | exact HB.out))); (case aF => exact (fun _ _ => trivial)); (case aO => exact (by (with_reducible repeat (first | apply Kd.R_alloc | apply Kd.R_drewN | apply Kd.R_drew)); exact HO_9.out)); (case aS => exact (zK (by repeat (first | (with_reducible first | exact HB.out | apply zI | apply zE | apply zH | refine zF ?_ GE272.out | refine zF ?_ GE273.out) | exact HB.out)))); (case aL => have := LMc70.out; omega); intro v318 w75 ho hb hg hat; rw [← Ny317.out] at ho; have n0_ := zA.mk (blk_grown (g := gb272) (o := .cells #[.slice A0_0 l0_0.length c0_0, .slice (some ad311) l0_1.length c0_1] 31 (0, 0)) (by (with_reducible repeat (first | refine zB ?_ _ | refine zD ?_ | refine zC ?_ _)); exact BK272.out) hg (Kd.R_ne HO_9.out BK272.out (by decide))); have n1_ := zA.mk (blk_grown (g := gb273) (o := .cells #[.int .i64 a3_0, .int .i64 a3_1, .int .u8 a3_2, .int .i64 a3_3, .int .i64 a3_4, .float .f64 a3_5] 35 (0, 0)) (by (with_reducible repeat (first | refine zB ?_ _ | refine zD ?_ | refine zC ?_ _)); exact BK273.out) hg (Kd.R_ne HO_9.out BK273.out (by decide))); have n2_ := zA.mk (hb); have n3_ := zA.mk (ho); clear BK272; clear BK273; clear HB; clear HO_9; have BK272 := n0_; have BK273 := n1_; have HB := n2_; have HO319 := n3_; clear n0_ n1_ n2_ n3_; clear ho hb hg hat))
            go_roundg k2
            case measure => have := HK1.out; have := HK2.out; omega
            case rel => exact ⟨(x11_2), (y317), (by first | rfl | (simp; done) | (simp [*]; done)), H', ⟨by have := HK1.out; have := HK2.out; omega⟩, ⟨by (with_reducible repeat (first | apply Kd.R_alloc | apply Kd.R_drewN | apply Kd.R_drew)); exact HO319.out⟩, ⟨by (with_reducible repeat (first | refine zB ?_ _ | refine zD ?_ | refine zC ?_ _)); exact BK272.out⟩, ⟨by (with_reducible repeat (first | refine zB ?_ _ | refine zD ?_ | refine zC ?_ _)); exact BK273.out⟩, ⟨by repeat (first | (with_reducible first | exact HB.out | apply zI | apply zE | apply zH | refine zF ?_ GE272.out | refine zF ?_ GE273.out) | exact HB.out)⟩⟩
          rw [if_neg c68] at H; have c68b0 : ((rd l0_1 x11_2) == 2) = false := beq_eq_false_iff_ne.mpr c68
          have c68b1 : ((rd l0_1 x11_2) != 2) = true := bne_iff_ne.mpr c68
          by_cases c76 : (rd l0_1 x11_2) = 1
          rotate_left
          · rw [if_neg c76] at H
            have c76b0 : ((rd l0_1 x11_2) == 1) = false := beq_eq_false_iff_ne.mpr c76
            have c76b1 : ((rd l0_1 x11_2) != 1) = true := bne_iff_ne.mpr c76
            replace H := Option.bind_eq_some_iff.mp H; obtain ⟨⟨t329, t330, t331, t332⟩, A840, H⟩ := H; replace H : (if x9_1.length < 4398046511104 then (stanzaref13_First.l0 k2 x11_2 a2 (x9_1 ++ [(⟨t329, t330, t331, t332⟩ : S45)]) l0_0 l0_1 a3_0 a3_1 a3_2 a3_3 a3_4 a3_5) else (none)) = some r := H; have A84 := zA.mk A840; clear A840; by_cases c85 : x9_1.length < 4398046511104
            rotate_left
            · rw [if_neg c85] at H
              exact absurd H (by simp)
            rw [if_pos c85] at H; have LMc85 := zA.mk c85; clear c85; obtain ⟨y333, hy333⟩ : ∃ y_ : List (S45), y_ = (x9_1 ++ [(⟨t329, t330, t331, t332⟩ : S45)]) := ⟨_, rfl⟩; replace H : (stanzaref13_First.l0 k2 x11_2 a2 y333 l0_0 l0_1 a3_0 a3_1 a3_2 a3_3 a3_4 a3_5) = some r := by first | (rw [hy333]; with_reducible exact H) | (have H2_ := (Option.bind_some _ _).symm.trans H; rw [hy333]; with_reducible exact H2_) | (have H2_ := (Option.bind_some _ _).symm.trans H; with_reducible exact H2_) | with_reducible exact H | (rw [hy333]; exact H) | exact H
            have Ny333 := zA.mk hy333; clear hy333; have H' := zA.mk H
            clear H; have hnb86 := NB272_273.out; have hnc86 := NB273_272.out; have hcz87_0 : wr.cell? ⟨gb272, 0, none⟩ = some (.slice A0_0 l0_0.length c0_0) := (zG BK272.out 0).trans rfl
            have hcz87_1 : wr.cell? ⟨gb272, 1, none⟩ = some (.slice A0_1 l0_1.length c0_1) := (zG BK272.out 1).trans rfl
            have hfz87_0 := zJ BK272.out 0; have hfz87_1 := zJ BK272.out 1; have p311 : 0 ≤ (x11_2 : Int) := of_decide_eq_true (by first | (with_reducible assumption) | assumption)
            have q311 : x11_2 < (l0_1.length : Int) := of_decide_eq_true (by first | (with_reducible assumption) | assumption)
            obtain ⟨ad311, e311, hx311_0⟩ := Kd.at_int HR0_1.out x11_2 p311 q311; cases e311
            replace hx311_0 := (HB.out.cell (World.block_lt_of_cell? w _ hx311_0)).trans hx311_0; replace p311 := eq_true p311; replace q311 := eq_true q311; have p320 : 0 ≤ (x11_2 : Int) := of_decide_eq_true (by first | (with_reducible assumption) | assumption)
            have q320 : x11_2 < (l0_1.length : Int) := of_decide_eq_true (by first | (with_reducible assumption) | assumption)
            obtain ⟨ad320, e320, hx320_0⟩ := Kd.at_int HR0_1.out x11_2 p320 q320; obtain rfl : ad311 = ad320 := (by injection e320)
            replace hx320_0 := (HB.out.cell (World.block_lt_of_cell? w _ hx320_0)).trans hx320_0; replace p320 := eq_true p320; replace q320 := eq_true q320; have hcz88_0 : wr.cell? ⟨gb273, 0, none⟩ = some (.int .i64 a3_0) := (zG BK273.out 0).trans rfl
            have hcz88_1 : wr.cell? ⟨gb273, 1, none⟩ = some (.int .i64 a3_1) := (zG BK273.out 1).trans rfl
            have hcz88_2 : wr.cell? ⟨gb273, 2, none⟩ = some (.int .u8 a3_2) := (zG BK273.out 2).trans rfl
            have hcz88_3 : wr.cell? ⟨gb273, 3, none⟩ = some (.int .i64 a3_3) := (zG BK273.out 3).trans rfl
            have hcz88_4 : wr.cell? ⟨gb273, 4, none⟩ = some (.int .i64 a3_4) := (zG BK273.out 4).trans rfl
            have hcz88_5 : wr.cell? ⟨gb273, 5, none⟩ = some (.float .f64 a3_5) := (zG BK273.out 5).trans rfl
            have hfz88_0 := zJ BK273.out 0; have hfz88_1 := zJ BK273.out 1; have hfz88_2 := zJ BK273.out 2; have hfz88_3 := zJ BK273.out 3; have hfz88_4 := zJ BK273.out 4; have hfz88_5 := zJ BK273.out 5; go_wp2_with (first | ((with_reducible refine gate_callee (f := 31) rfl ?_); refine goesL_ (some 95) rfl rfl Try.func31 (by kernel_rfl) rfl #[.agg #[.slice A0_0 l0_0.length c0_0, .slice (some ad311) l0_1.length c0_1], .int .i64 x1_1, .int .i64 x11_2, .int .u8 4, .int .i64 a3_1] rfl (by (try simp only [List.map_toArray, List.map_cons, List.map_nil]); first | done | rfl | (simp only [List.length_drop, List.length_take]; rfl)) ?_; (with_reducible refine (stanzaref13_Line.calls k2 _ _ l0_0 _ _ l0_1 x1_1 x11_2 4 a3_1 t329 t330 t331 t332 _ ?side1 ?side2 ?side3 ?side4 A84.out).mono ?_); (case side1 => repeat (first | exact (Kd.C_below HR0_0.out HB.out) | (with_reducible refine Kd.C_alloc ?_ _) | (with_reducible refine Kd.C_drewN ?_ _) | (with_reducible refine Kd.C_drew ?_))); (case side2 => exact HC0_0.out); (case side3 => repeat (first | exact (Kd.C_below HR0_1.out HB.out) | (with_reducible refine Kd.C_alloc ?_ _) | (with_reducible refine Kd.C_drewN ?_ _) | (with_reducible refine Kd.C_drew ?_))); (case side4 => exact HC0_1.out); rintro e w89 ⟨rfl, hb⟩; refine ⟨_, rfl, ?_⟩; have n0_ := zA.mk (Kd.R_below (by (with_reducible repeat (first | apply Kd.R_alloc | apply Kd.R_drewN | apply Kd.R_drew)); exact HO_9.out) hb); have n1_ := zA.mk (zL (g := gb272) (o := .cells #[.slice A0_0 l0_0.length c0_0, .slice (some ad311) l0_1.length c0_1] 31 (0, 0)) (by (with_reducible repeat (first | refine zB ?_ _ | refine zD ?_ | refine zC ?_ _)); exact BK272.out) hb); have n2_ := zA.mk (zL (g := gb273) (o := .cells #[.int .i64 a3_0, .int .i64 a3_1, .int .u8 a3_2, .int .i64 a3_3, .int .i64 a3_4, .float .f64 a3_5] 35 (0, 0)) (by (with_reducible repeat (first | refine zB ?_ _ | refine zD ?_ | refine zC ?_ _)); exact BK273.out) hb); have n3_ := zA.mk (zM (by repeat (first | (with_reducible first | exact HB.out | apply zI | apply zE | apply zH | refine zF ?_ GE272.out | refine zF ?_ GE273.out) | exact HB.out)) hb); clear HO_9; clear BK272; clear BK273; clear HB; have HO_9 := n0_; have BK272 := n1_; have BK273 := n2_; have HB := n3_; clear n0_ n1_ n2_ n3_; (try clear hb); (try clear hb2); (try clear hk); (try clear hi)) | ((with_reducible refine gate_builtin (b := .append) (xs := #[.tmp 88, .tmp 96]) rfl ?_); at_builtin; refine Kd.R_append k45 (w0 := w) w.heap.size rfl (.tmp 88) (.tmp 96) 40 45 (.agg #[(.int .i64 0), (.int .i64 0), (.int .i64 0), (.int .u8 0)]) 32 rfl Try.underlying40 info45 rfl (by decide) (by omega) u9 x9_1 (⟨t329, t330, t331, t332⟩ : S45) [.int .i64 t329, .int .i64 t330, .int .i64 t331, .int .u8 t332] (fun _ => True) (fun _ => False) rfl rfl ?aP (fun _ hk => hk.elim) ?aF ?aO ?aB ?aS ?aL ?_; (case aP => exact k45_mkM _ _ _ (⟨t329, t330, t331, t332⟩ : S45)); (case aB => exact (by repeat (first | (with_reducible first | exact HB.out | apply zI | apply zE | apply zH | refine zF ?_ GE272.out | refine zF ?_ GE273.out) | exact HB.out))); (case aF => exact (fun _ _ => trivial)); (case aO => exact (by (with_reducible repeat (first | apply Kd.R_alloc | apply Kd.R_drewN | apply Kd.R_drew)); exact HO_9.out)); (case aS => exact (zK (by repeat (first | (with_reducible first | exact HB.out | apply zI | apply zE | apply zH | refine zF ?_ GE272.out | refine zF ?_ GE273.out) | exact HB.out)))); (case aL => have := LMc85.out; omega); intro v334 w90 ho hb hg hat; rw [← Ny333.out] at ho; have n0_ := zA.mk (blk_grown (g := gb272) (o := .cells #[.slice A0_0 l0_0.length c0_0, .slice (some ad311) l0_1.length c0_1] 31 (0, 0)) (by (with_reducible repeat (first | refine zB ?_ _ | refine zD ?_ | refine zC ?_ _)); exact BK272.out) hg (Kd.R_ne HO_9.out BK272.out (by decide))); have n1_ := zA.mk (blk_grown (g := gb273) (o := .cells #[.int .i64 a3_0, .int .i64 a3_1, .int .u8 a3_2, .int .i64 a3_3, .int .i64 a3_4, .float .f64 a3_5] 35 (0, 0)) (by (with_reducible repeat (first | refine zB ?_ _ | refine zD ?_ | refine zC ?_ _)); exact BK273.out) hg (Kd.R_ne HO_9.out BK273.out (by decide))); have n2_ := zA.mk (hb); have n3_ := zA.mk (ho); clear BK272; clear BK273; clear HB; clear HO_9; have BK272 := n0_; have BK273 := n1_; have HB := n2_; have HO335 := n3_; clear n0_ n1_ n2_ n3_; clear ho hb hg hat))
            go_roundg k2
            case measure => have := HK1.out; have := HK2.out; omega
            case rel => exact ⟨(x11_2), (y333), (by first | rfl | (simp; done) | (simp [*]; done)), H', ⟨by have := HK1.out; have := HK2.out; omega⟩, ⟨by (with_reducible repeat (first | apply Kd.R_alloc | apply Kd.R_drewN | apply Kd.R_drew)); exact HO335.out⟩, ⟨by (with_reducible repeat (first | refine zB ?_ _ | refine zD ?_ | refine zC ?_ _)); exact BK272.out⟩, ⟨by (with_reducible repeat (first | refine zB ?_ _ | refine zD ?_ | refine zC ?_ _)); exact BK273.out⟩, ⟨by repeat (first | (with_reducible first | exact HB.out | apply zI | apply zE | apply zH | refine zF ?_ GE272.out | refine zF ?_ GE273.out) | exact HB.out)⟩⟩
          rw [if_pos c76] at H; have c76b0 : ((rd l0_1 x11_2) == 1) = true := beq_iff_eq.mpr c76
          have c76b1 : ((rd l0_1 x11_2) != 1) = false := bne_eq_false_iff_eq.mpr c76
          clear c76; replace H := Option.bind_eq_some_iff.mp H; obtain ⟨⟨t322, t323, t324, t325⟩, A770, H⟩ := H; replace H : (if x9_1.length < 4398046511104 then (stanzaref13_First.l0 k2 x11_2 a2 (x9_1 ++ [(⟨t322, t323, t324, t325⟩ : S45)]) l0_0 l0_1 a3_0 a3_1 a3_2 a3_3 a3_4 a3_5) else (none)) = some r := H; have A77 := zA.mk A770; clear A770; by_cases c78 : x9_1.length < 4398046511104
          rotate_left
          · rw [if_neg c78] at H
            exact absurd H (by simp)
          rw [if_pos c78] at H; have LMc78 := zA.mk c78; clear c78; obtain ⟨y326, hy326⟩ : ∃ y_ : List (S45), y_ = (x9_1 ++ [(⟨t322, t323, t324, t325⟩ : S45)]) := ⟨_, rfl⟩; replace H : (stanzaref13_First.l0 k2 x11_2 a2 y326 l0_0 l0_1 a3_0 a3_1 a3_2 a3_3 a3_4 a3_5) = some r := by first | (rw [hy326]; with_reducible exact H) | (have H2_ := (Option.bind_some _ _).symm.trans H; rw [hy326]; with_reducible exact H2_) | (have H2_ := (Option.bind_some _ _).symm.trans H; with_reducible exact H2_) | with_reducible exact H | (rw [hy326]; exact H) | exact H
          have Ny326 := zA.mk hy326; clear hy326; have H' := zA.mk H
          clear H; have hnb79 := NB272_273.out; have hnc79 := NB273_272.out; have hcz80_0 : wr.cell? ⟨gb272, 0, none⟩ = some (.slice A0_0 l0_0.length c0_0) := (zG BK272.out 0).trans rfl
          have hcz80_1 : wr.cell? ⟨gb272, 1, none⟩ = some (.slice A0_1 l0_1.length c0_1) := (zG BK272.out 1).trans rfl
          have hfz80_0 := zJ BK272.out 0; have hfz80_1 := zJ BK272.out 1; have p311 : 0 ≤ (x11_2 : Int) := of_decide_eq_true (by first | (with_reducible assumption) | assumption)
          have q311 : x11_2 < (l0_1.length : Int) := of_decide_eq_true (by first | (with_reducible assumption) | assumption)
          obtain ⟨ad311, e311, hx311_0⟩ := Kd.at_int HR0_1.out x11_2 p311 q311; cases e311
          replace hx311_0 := (HB.out.cell (World.block_lt_of_cell? w _ hx311_0)).trans hx311_0; replace p311 := eq_true p311; replace q311 := eq_true q311; have p320 : 0 ≤ (x11_2 : Int) := of_decide_eq_true (by first | (with_reducible assumption) | assumption)
          have q320 : x11_2 < (l0_1.length : Int) := of_decide_eq_true (by first | (with_reducible assumption) | assumption)
          obtain ⟨ad320, e320, hx320_0⟩ := Kd.at_int HR0_1.out x11_2 p320 q320; obtain rfl : ad311 = ad320 := (by injection e320)
          replace hx320_0 := (HB.out.cell (World.block_lt_of_cell? w _ hx320_0)).trans hx320_0; replace p320 := eq_true p320; replace q320 := eq_true q320; have p321 : 0 ≤ (x11_2 : Int) := of_decide_eq_true (by first | (with_reducible assumption) | assumption)
          have q321 : x11_2 < (l0_1.length : Int) := of_decide_eq_true (by first | (with_reducible assumption) | assumption)
          obtain ⟨ad321, e321, hx321_0⟩ := Kd.at_int HR0_1.out x11_2 p321 q321; obtain rfl : ad311 = ad321 := (by injection e321)
          replace hx321_0 := (HB.out.cell (World.block_lt_of_cell? w _ hx321_0)).trans hx321_0; replace p321 := eq_true p321; replace q321 := eq_true q321; have hcz81_0 : wr.cell? ⟨gb273, 0, none⟩ = some (.int .i64 a3_0) := (zG BK273.out 0).trans rfl
          have hcz81_1 : wr.cell? ⟨gb273, 1, none⟩ = some (.int .i64 a3_1) := (zG BK273.out 1).trans rfl
          have hcz81_2 : wr.cell? ⟨gb273, 2, none⟩ = some (.int .u8 a3_2) := (zG BK273.out 2).trans rfl
          have hcz81_3 : wr.cell? ⟨gb273, 3, none⟩ = some (.int .i64 a3_3) := (zG BK273.out 3).trans rfl
          have hcz81_4 : wr.cell? ⟨gb273, 4, none⟩ = some (.int .i64 a3_4) := (zG BK273.out 4).trans rfl
          have hcz81_5 : wr.cell? ⟨gb273, 5, none⟩ = some (.float .f64 a3_5) := (zG BK273.out 5).trans rfl
          have hfz81_0 := zJ BK273.out 0; have hfz81_1 := zJ BK273.out 1; have hfz81_2 := zJ BK273.out 2; have hfz81_3 := zJ BK273.out 3; have hfz81_4 := zJ BK273.out 4; have hfz81_5 := zJ BK273.out 5; go_wp2_with (first | ((with_reducible refine gate_callee (f := 31) rfl ?_); refine goesL_ (some 95) rfl rfl Try.func31 (by kernel_rfl) rfl #[.agg #[.slice A0_0 l0_0.length c0_0, .slice (some ad311) l0_1.length c0_1], .int .i64 x1_1, .int .i64 x11_2, .int .u8 (rd l0_1 x11_2), .int .i64 a3_1] rfl (by (try simp only [List.map_toArray, List.map_cons, List.map_nil]); first | done | rfl | (simp only [List.length_drop, List.length_take]; rfl)) ?_; (with_reducible refine (stanzaref13_Line.calls k2 _ _ l0_0 _ _ l0_1 x1_1 x11_2 (rd l0_1 x11_2) a3_1 t322 t323 t324 t325 _ ?side1 ?side2 ?side3 ?side4 A77.out).mono ?_); (case side1 => repeat (first | exact (Kd.C_below HR0_0.out HB.out) | (with_reducible refine Kd.C_alloc ?_ _) | (with_reducible refine Kd.C_drewN ?_ _) | (with_reducible refine Kd.C_drew ?_))); (case side2 => exact HC0_0.out); (case side3 => repeat (first | exact (Kd.C_below HR0_1.out HB.out) | (with_reducible refine Kd.C_alloc ?_ _) | (with_reducible refine Kd.C_drewN ?_ _) | (with_reducible refine Kd.C_drew ?_))); (case side4 => exact HC0_1.out); rintro e w82 ⟨rfl, hb⟩; refine ⟨_, rfl, ?_⟩; have n0_ := zA.mk (Kd.R_below (by (with_reducible repeat (first | apply Kd.R_alloc | apply Kd.R_drewN | apply Kd.R_drew)); exact HO_9.out) hb); have n1_ := zA.mk (zL (g := gb272) (o := .cells #[.slice A0_0 l0_0.length c0_0, .slice (some ad311) l0_1.length c0_1] 31 (0, 0)) (by (with_reducible repeat (first | refine zB ?_ _ | refine zD ?_ | refine zC ?_ _)); exact BK272.out) hb); have n2_ := zA.mk (zL (g := gb273) (o := .cells #[.int .i64 a3_0, .int .i64 a3_1, .int .u8 a3_2, .int .i64 a3_3, .int .i64 a3_4, .float .f64 a3_5] 35 (0, 0)) (by (with_reducible repeat (first | refine zB ?_ _ | refine zD ?_ | refine zC ?_ _)); exact BK273.out) hb); have n3_ := zA.mk (zM (by repeat (first | (with_reducible first | exact HB.out | apply zI | apply zE | apply zH | refine zF ?_ GE272.out | refine zF ?_ GE273.out) | exact HB.out)) hb); clear HO_9; clear BK272; clear BK273; clear HB; have HO_9 := n0_; have BK272 := n1_; have BK273 := n2_; have HB := n3_; clear n0_ n1_ n2_ n3_; (try clear hb); (try clear hb2); (try clear hk); (try clear hi)) | ((with_reducible refine gate_builtin (b := .append) (xs := #[.tmp 88, .tmp 96]) rfl ?_); at_builtin; refine Kd.R_append k45 (w0 := w) w.heap.size rfl (.tmp 88) (.tmp 96) 40 45 (.agg #[(.int .i64 0), (.int .i64 0), (.int .i64 0), (.int .u8 0)]) 32 rfl Try.underlying40 info45 rfl (by decide) (by omega) u9 x9_1 (⟨t322, t323, t324, t325⟩ : S45) [.int .i64 t322, .int .i64 t323, .int .i64 t324, .int .u8 t325] (fun _ => True) (fun _ => False) rfl rfl ?aP (fun _ hk => hk.elim) ?aF ?aO ?aB ?aS ?aL ?_; (case aP => exact k45_mkM _ _ _ (⟨t322, t323, t324, t325⟩ : S45)); (case aB => exact (by repeat (first | (with_reducible first | exact HB.out | apply zI | apply zE | apply zH | refine zF ?_ GE272.out | refine zF ?_ GE273.out) | exact HB.out))); (case aF => exact (fun _ _ => trivial)); (case aO => exact (by (with_reducible repeat (first | apply Kd.R_alloc | apply Kd.R_drewN | apply Kd.R_drew)); exact HO_9.out)); (case aS => exact (zK (by repeat (first | (with_reducible first | exact HB.out | apply zI | apply zE | apply zH | refine zF ?_ GE272.out | refine zF ?_ GE273.out) | exact HB.out)))); (case aL => have := LMc78.out; omega); intro v327 w83 ho hb hg hat; rw [← Ny326.out] at ho; have n0_ := zA.mk (blk_grown (g := gb272) (o := .cells #[.slice A0_0 l0_0.length c0_0, .slice (some ad311) l0_1.length c0_1] 31 (0, 0)) (by (with_reducible repeat (first | refine zB ?_ _ | refine zD ?_ | refine zC ?_ _)); exact BK272.out) hg (Kd.R_ne HO_9.out BK272.out (by decide))); have n1_ := zA.mk (blk_grown (g := gb273) (o := .cells #[.int .i64 a3_0, .int .i64 a3_1, .int .u8 a3_2, .int .i64 a3_3, .int .i64 a3_4, .float .f64 a3_5] 35 (0, 0)) (by (with_reducible repeat (first | refine zB ?_ _ | refine zD ?_ | refine zC ?_ _)); exact BK273.out) hg (Kd.R_ne HO_9.out BK273.out (by decide))); have n2_ := zA.mk (hb); have n3_ := zA.mk (ho); clear BK272; clear BK273; clear HB; clear HO_9; have BK272 := n0_; have BK273 := n1_; have HB := n2_; have HO328 := n3_; clear n0_ n1_ n2_ n3_; clear ho hb hg hat))
          go_roundg k2
          case measure => have := HK1.out; have := HK2.out; omega
          case rel => exact ⟨(x11_2), (y326), (by first | rfl | (simp; done) | (simp [*]; done)), H', ⟨by have := HK1.out; have := HK2.out; omega⟩, ⟨by (with_reducible repeat (first | apply Kd.R_alloc | apply Kd.R_drewN | apply Kd.R_drew)); exact HO328.out⟩, ⟨by (with_reducible repeat (first | refine zB ?_ _ | refine zD ?_ | refine zC ?_ _)); exact BK272.out⟩, ⟨by (with_reducible repeat (first | refine zB ?_ _ | refine zD ?_ | refine zC ?_ _)); exact BK273.out⟩, ⟨by repeat (first | (with_reducible first | exact HB.out | apply zI | apply zE | apply zH | refine zF ?_ GE272.out | refine zF ?_ GE273.out) | exact HB.out)⟩⟩
        rw [if_pos c39] at H; have c39b0 : decide (x11_2 < 0) = true := decide_eq_true c39
        clear c39; obtain ⟨ji40, hji40⟩ : ∃ j_ : Int, (wrap64 (x1_1 + 1)) = j_ := ⟨_, rfl⟩; replace H : (if 0 ≤ (ji40) then (if (ji40) < (l0_1.length : Int) then (if (rd l0_1 (ji40)) = 2 then ((stanzaref13_Line.f k2 l0_0 l0_1 x1_1 (ji40) (rd l0_1 (ji40)) a3_1).bind fun bt288 => (if x9_1.length < 4398046511104 then (stanzaref13_First.l0 k2 ji40 a2 (x9_1 ++ [(⟨bt288.1, bt288.2.1, bt288.2.2.1, bt288.2.2.2⟩ : S45)]) l0_0 l0_1 a3_0 a3_1 a3_2 a3_3 a3_4 a3_5) else (none))) else (if (rd l0_1 (ji40)) = 1 then ((stanzaref13_Line.f k2 l0_0 l0_1 x1_1 (ji40) (rd l0_1 (ji40)) a3_1).bind fun bt297 => (if x9_1.length < 4398046511104 then (stanzaref13_First.l0 k2 ji40 a2 (x9_1 ++ [(⟨bt297.1, bt297.2.1, bt297.2.2.1, bt297.2.2.2⟩ : S45)]) l0_0 l0_1 a3_0 a3_1 a3_2 a3_3 a3_4 a3_5) else (none))) else ((stanzaref13_Line.f k2 l0_0 l0_1 x1_1 (ji40) 4 a3_1).bind fun bt304 => (if x9_1.length < 4398046511104 then (stanzaref13_First.l0 k2 ji40 a2 (x9_1 ++ [(⟨bt304.1, bt304.2.1, bt304.2.2.1, bt304.2.2.2⟩ : S45)]) l0_0 l0_1 a3_0 a3_1 a3_2 a3_3 a3_4 a3_5) else (none))))) else (none)) else (none)) = some r := by first | (rw [hji40] at H; exact H) | (simp only [hji40] at H ⊢; exact H)
        have hji40w : (IntKind.i64.wrap (x1_1 + 1)) = ji40 := (i64_w _).trans hji40
        by_cases c41 : 0 ≤ (ji40)
        rotate_left
        · rw [if_neg c41] at H
          exact absurd H (by simp)
        rw [if_pos c41] at H; have c41b0 : decide (0 ≤ (ji40)) = true := decide_eq_true c41
        clear c41; by_cases c42 : (ji40) < (l0_1.length : Int)
        rotate_left
        · rw [if_neg c42] at H
          exact absurd H (by simp)
        rw [if_pos c42] at H; have c42b0 : decide ((ji40) < (l0_1.length : Int)) = true := decide_eq_true c42
        clear c42; by_cases c43 : (rd l0_1 (ji40)) = 2
        · rw [if_pos c43] at H
          have c43b0 : ((rd l0_1 (ji40)) == 2) = true := beq_iff_eq.mpr c43
          have c43b1 : ((rd l0_1 (ji40)) != 2) = false := bne_eq_false_iff_eq.mpr c43
          clear c43; replace H := Option.bind_eq_some_iff.mp H; obtain ⟨⟨t288, t289, t290, t291⟩, A440, H⟩ := H; replace H : (if x9_1.length < 4398046511104 then (stanzaref13_First.l0 k2 ji40 a2 (x9_1 ++ [(⟨t288, t289, t290, t291⟩ : S45)]) l0_0 l0_1 a3_0 a3_1 a3_2 a3_3 a3_4 a3_5) else (none)) = some r := H; have A44 := zA.mk A440; clear A440; by_cases c45 : x9_1.length < 4398046511104
          rotate_left
          · rw [if_neg c45] at H
            exact absurd H (by simp)
          rw [if_pos c45] at H; have LMc45 := zA.mk c45; clear c45; obtain ⟨y292, hy292⟩ : ∃ y_ : List (S45), y_ = (x9_1 ++ [(⟨t288, t289, t290, t291⟩ : S45)]) := ⟨_, rfl⟩; replace H : (stanzaref13_First.l0 k2 ji40 a2 y292 l0_0 l0_1 a3_0 a3_1 a3_2 a3_3 a3_4 a3_5) = some r := by first | (rw [hy292]; with_reducible exact H) | (have H2_ := (Option.bind_some _ _).symm.trans H; rw [hy292]; with_reducible exact H2_) | (have H2_ := (Option.bind_some _ _).symm.trans H; with_reducible exact H2_) | with_reducible exact H | (rw [hy292]; exact H) | exact H
          have Ny292 := zA.mk hy292; clear hy292; have H' := zA.mk H
          clear H; have hnb46 := NB272_273.out; have hnc46 := NB273_272.out; have hcz47_0 : wr.cell? ⟨gb272, 0, none⟩ = some (.slice A0_0 l0_0.length c0_0) := (zG BK272.out 0).trans rfl
          have hcz47_1 : wr.cell? ⟨gb272, 1, none⟩ = some (.slice A0_1 l0_1.length c0_1) := (zG BK272.out 1).trans rfl
          have hfz47_0 := zJ BK272.out 0; have hfz47_1 := zJ BK272.out 1; have p286 : 0 ≤ ((ji40) : Int) := of_decide_eq_true (by first | (with_reducible assumption) | assumption)
          have q286 : (ji40) < (l0_1.length : Int) := of_decide_eq_true (by first | (with_reducible assumption) | assumption)
          obtain ⟨ad286, e286, hx286_0⟩ := Kd.at_int HR0_1.out (ji40) p286 q286; cases e286
          replace hx286_0 := (HB.out.cell (World.block_lt_of_cell? w _ hx286_0)).trans hx286_0; replace p286 := eq_true p286; replace q286 := eq_true q286; have p287 : 0 ≤ ((ji40) : Int) := of_decide_eq_true (by first | (with_reducible assumption) | assumption)
          have q287 : (ji40) < (l0_1.length : Int) := of_decide_eq_true (by first | (with_reducible assumption) | assumption)
          obtain ⟨ad287, e287, hx287_0⟩ := Kd.at_int HR0_1.out (ji40) p287 q287; obtain rfl : ad286 = ad287 := (by injection e287)
          replace hx287_0 := (HB.out.cell (World.block_lt_of_cell? w _ hx287_0)).trans hx287_0; replace p287 := eq_true p287; replace q287 := eq_true q287; have hcz48_0 : wr.cell? ⟨gb273, 0, none⟩ = some (.int .i64 a3_0) := (zG BK273.out 0).trans rfl
          have hcz48_1 : wr.cell? ⟨gb273, 1, none⟩ = some (.int .i64 a3_1) := (zG BK273.out 1).trans rfl
          have hcz48_2 : wr.cell? ⟨gb273, 2, none⟩ = some (.int .u8 a3_2) := (zG BK273.out 2).trans rfl
          have hcz48_3 : wr.cell? ⟨gb273, 3, none⟩ = some (.int .i64 a3_3) := (zG BK273.out 3).trans rfl
          have hcz48_4 : wr.cell? ⟨gb273, 4, none⟩ = some (.int .i64 a3_4) := (zG BK273.out 4).trans rfl
          have hcz48_5 : wr.cell? ⟨gb273, 5, none⟩ = some (.float .f64 a3_5) := (zG BK273.out 5).trans rfl
          have hfz48_0 := zJ BK273.out 0; have hfz48_1 := zJ BK273.out 1; have hfz48_2 := zJ BK273.out 2; have hfz48_3 := zJ BK273.out 3; have hfz48_4 := zJ BK273.out 4; have hfz48_5 := zJ BK273.out 5; go_wp2_with (first | ((with_reducible refine gate_callee (f := 31) rfl ?_); refine goesL_ (some 95) rfl rfl Try.func31 (by kernel_rfl) rfl #[.agg #[.slice A0_0 l0_0.length c0_0, .slice (some ad286) l0_1.length c0_1], .int .i64 x1_1, .int .i64 ji40, .int .u8 (rd l0_1 (ji40)), .int .i64 a3_1] rfl (by (try simp only [List.map_toArray, List.map_cons, List.map_nil]); first | done | (simp only [hji40]; rfl) | rfl | (simp only [List.length_drop, List.length_take]; rfl)) ?_; (with_reducible refine (stanzaref13_Line.calls k2 _ _ l0_0 _ _ l0_1 x1_1 ji40 (rd l0_1 (ji40)) a3_1 t288 t289 t290 t291 _ ?side1 ?side2 ?side3 ?side4 A44.out).mono ?_); (case side1 => repeat (first | exact (Kd.C_below HR0_0.out HB.out) | (with_reducible refine Kd.C_alloc ?_ _) | (with_reducible refine Kd.C_drewN ?_ _) | (with_reducible refine Kd.C_drew ?_))); (case side2 => exact HC0_0.out); (case side3 => repeat (first | exact (Kd.C_below HR0_1.out HB.out) | (with_reducible refine Kd.C_alloc ?_ _) | (with_reducible refine Kd.C_drewN ?_ _) | (with_reducible refine Kd.C_drew ?_))); (case side4 => exact HC0_1.out); rintro e w49 ⟨rfl, hb⟩; refine ⟨_, rfl, ?_⟩; have n0_ := zA.mk (Kd.R_below (by (with_reducible repeat (first | apply Kd.R_alloc | apply Kd.R_drewN | apply Kd.R_drew)); exact HO_9.out) hb); have n1_ := zA.mk (zL (g := gb272) (o := .cells #[.slice A0_0 l0_0.length c0_0, .slice (some ad286) l0_1.length c0_1] 31 (0, 0)) (by (with_reducible repeat (first | refine zB ?_ _ | refine zD ?_ | refine zC ?_ _)); exact BK272.out) hb); have n2_ := zA.mk (zL (g := gb273) (o := .cells #[.int .i64 a3_0, .int .i64 a3_1, .int .u8 a3_2, .int .i64 a3_3, .int .i64 a3_4, .float .f64 a3_5] 35 (0, 0)) (by (with_reducible repeat (first | refine zB ?_ _ | refine zD ?_ | refine zC ?_ _)); exact BK273.out) hb); have n3_ := zA.mk (zM (by repeat (first | (with_reducible first | exact HB.out | apply zI | apply zE | apply zH | refine zF ?_ GE272.out | refine zF ?_ GE273.out) | exact HB.out)) hb); clear HO_9; clear BK272; clear BK273; clear HB; have HO_9 := n0_; have BK272 := n1_; have BK273 := n2_; have HB := n3_; clear n0_ n1_ n2_ n3_; (try clear hb); (try clear hb2); (try clear hk); (try clear hi)) | ((with_reducible refine gate_builtin (b := .append) (xs := #[.tmp 88, .tmp 96]) rfl ?_); at_builtin; refine Kd.R_append k45 (w0 := w) w.heap.size rfl (.tmp 88) (.tmp 96) 40 45 (.agg #[(.int .i64 0), (.int .i64 0), (.int .i64 0), (.int .u8 0)]) 32 rfl Try.underlying40 info45 rfl (by decide) (by omega) u9 x9_1 (⟨t288, t289, t290, t291⟩ : S45) [.int .i64 t288, .int .i64 t289, .int .i64 t290, .int .u8 t291] (fun _ => True) (fun _ => False) rfl rfl ?aP (fun _ hk => hk.elim) ?aF ?aO ?aB ?aS ?aL ?_; (case aP => exact k45_mkM _ _ _ (⟨t288, t289, t290, t291⟩ : S45)); (case aB => exact (by repeat (first | (with_reducible first | exact HB.out | apply zI | apply zE | apply zH | refine zF ?_ GE272.out | refine zF ?_ GE273.out) | exact HB.out))); (case aF => exact (fun _ _ => trivial)); (case aO => exact (by (with_reducible repeat (first | apply Kd.R_alloc | apply Kd.R_drewN | apply Kd.R_drew)); exact HO_9.out)); (case aS => exact (zK (by repeat (first | (with_reducible first | exact HB.out | apply zI | apply zE | apply zH | refine zF ?_ GE272.out | refine zF ?_ GE273.out) | exact HB.out)))); (case aL => have := LMc45.out; omega); intro v293 w50 ho hb hg hat; rw [← Ny292.out] at ho; have n0_ := zA.mk (blk_grown (g := gb272) (o := .cells #[.slice A0_0 l0_0.length c0_0, .slice (some ad286) l0_1.length c0_1] 31 (0, 0)) (by (with_reducible repeat (first | refine zB ?_ _ | refine zD ?_ | refine zC ?_ _)); exact BK272.out) hg (Kd.R_ne HO_9.out BK272.out (by decide))); have n1_ := zA.mk (blk_grown (g := gb273) (o := .cells #[.int .i64 a3_0, .int .i64 a3_1, .int .u8 a3_2, .int .i64 a3_3, .int .i64 a3_4, .float .f64 a3_5] 35 (0, 0)) (by (with_reducible repeat (first | refine zB ?_ _ | refine zD ?_ | refine zC ?_ _)); exact BK273.out) hg (Kd.R_ne HO_9.out BK273.out (by decide))); have n2_ := zA.mk (hb); have n3_ := zA.mk (ho); clear BK272; clear BK273; clear HB; clear HO_9; have BK272 := n0_; have BK273 := n1_; have HB := n2_; have HO294 := n3_; clear n0_ n1_ n2_ n3_; clear ho hb hg hat))
          go_roundg k2
          case measure => have := HK1.out; have := HK2.out; omega
          case rel => exact ⟨(ji40), (y292), (by first | rfl | (simp; done) | (simp only [← hji40] <;> (first | rfl | simp)) | (simp [*]; done)), H', ⟨by have := HK1.out; have := HK2.out; omega⟩, ⟨by (with_reducible repeat (first | apply Kd.R_alloc | apply Kd.R_drewN | apply Kd.R_drew)); exact HO294.out⟩, ⟨by (with_reducible repeat (first | refine zB ?_ _ | refine zD ?_ | refine zC ?_ _)); exact BK272.out⟩, ⟨by (with_reducible repeat (first | refine zB ?_ _ | refine zD ?_ | refine zC ?_ _)); exact BK273.out⟩, ⟨by repeat (first | (with_reducible first | exact HB.out | apply zI | apply zE | apply zH | refine zF ?_ GE272.out | refine zF ?_ GE273.out) | exact HB.out)⟩⟩
        rw [if_neg c43] at H; have c43b0 : ((rd l0_1 (ji40)) == 2) = false := beq_eq_false_iff_ne.mpr c43
        have c43b1 : ((rd l0_1 (ji40)) != 2) = true := bne_iff_ne.mpr c43
        by_cases c51 : (rd l0_1 (ji40)) = 1
        rotate_left
        · rw [if_neg c51] at H
          have c51b0 : ((rd l0_1 (ji40)) == 1) = false := beq_eq_false_iff_ne.mpr c51
          have c51b1 : ((rd l0_1 (ji40)) != 1) = true := bne_iff_ne.mpr c51
          replace H := Option.bind_eq_some_iff.mp H; obtain ⟨⟨t304, t305, t306, t307⟩, A590, H⟩ := H; replace H : (if x9_1.length < 4398046511104 then (stanzaref13_First.l0 k2 ji40 a2 (x9_1 ++ [(⟨t304, t305, t306, t307⟩ : S45)]) l0_0 l0_1 a3_0 a3_1 a3_2 a3_3 a3_4 a3_5) else (none)) = some r := H; have A59 := zA.mk A590; clear A590; by_cases c60 : x9_1.length < 4398046511104
          rotate_left
          · rw [if_neg c60] at H
            exact absurd H (by simp)
          rw [if_pos c60] at H; have LMc60 := zA.mk c60; clear c60; obtain ⟨y308, hy308⟩ : ∃ y_ : List (S45), y_ = (x9_1 ++ [(⟨t304, t305, t306, t307⟩ : S45)]) := ⟨_, rfl⟩; replace H : (stanzaref13_First.l0 k2 ji40 a2 y308 l0_0 l0_1 a3_0 a3_1 a3_2 a3_3 a3_4 a3_5) = some r := by first | (rw [hy308]; with_reducible exact H) | (have H2_ := (Option.bind_some _ _).symm.trans H; rw [hy308]; with_reducible exact H2_) | (have H2_ := (Option.bind_some _ _).symm.trans H; with_reducible exact H2_) | with_reducible exact H | (rw [hy308]; exact H) | exact H
          have Ny308 := zA.mk hy308; clear hy308; have H' := zA.mk H
          clear H; have hnb61 := NB272_273.out; have hnc61 := NB273_272.out; have hcz62_0 : wr.cell? ⟨gb272, 0, none⟩ = some (.slice A0_0 l0_0.length c0_0) := (zG BK272.out 0).trans rfl
          have hcz62_1 : wr.cell? ⟨gb272, 1, none⟩ = some (.slice A0_1 l0_1.length c0_1) := (zG BK272.out 1).trans rfl
          have hfz62_0 := zJ BK272.out 0; have hfz62_1 := zJ BK272.out 1; have p286 : 0 ≤ ((ji40) : Int) := of_decide_eq_true (by first | (with_reducible assumption) | assumption)
          have q286 : (ji40) < (l0_1.length : Int) := of_decide_eq_true (by first | (with_reducible assumption) | assumption)
          obtain ⟨ad286, e286, hx286_0⟩ := Kd.at_int HR0_1.out (ji40) p286 q286; cases e286
          replace hx286_0 := (HB.out.cell (World.block_lt_of_cell? w _ hx286_0)).trans hx286_0; replace p286 := eq_true p286; replace q286 := eq_true q286; have p295 : 0 ≤ ((ji40) : Int) := of_decide_eq_true (by first | (with_reducible assumption) | assumption)
          have q295 : (ji40) < (l0_1.length : Int) := of_decide_eq_true (by first | (with_reducible assumption) | assumption)
          obtain ⟨ad295, e295, hx295_0⟩ := Kd.at_int HR0_1.out (ji40) p295 q295; obtain rfl : ad286 = ad295 := (by injection e295)
          replace hx295_0 := (HB.out.cell (World.block_lt_of_cell? w _ hx295_0)).trans hx295_0; replace p295 := eq_true p295; replace q295 := eq_true q295; have hcz63_0 : wr.cell? ⟨gb273, 0, none⟩ = some (.int .i64 a3_0) := (zG BK273.out 0).trans rfl
          have hcz63_1 : wr.cell? ⟨gb273, 1, none⟩ = some (.int .i64 a3_1) := (zG BK273.out 1).trans rfl
          have hcz63_2 : wr.cell? ⟨gb273, 2, none⟩ = some (.int .u8 a3_2) := (zG BK273.out 2).trans rfl
          have hcz63_3 : wr.cell? ⟨gb273, 3, none⟩ = some (.int .i64 a3_3) := (zG BK273.out 3).trans rfl
          have hcz63_4 : wr.cell? ⟨gb273, 4, none⟩ = some (.int .i64 a3_4) := (zG BK273.out 4).trans rfl
          have hcz63_5 : wr.cell? ⟨gb273, 5, none⟩ = some (.float .f64 a3_5) := (zG BK273.out 5).trans rfl
          have hfz63_0 := zJ BK273.out 0; have hfz63_1 := zJ BK273.out 1; have hfz63_2 := zJ BK273.out 2; have hfz63_3 := zJ BK273.out 3; have hfz63_4 := zJ BK273.out 4; have hfz63_5 := zJ BK273.out 5; go_wp2_with (first | ((with_reducible refine gate_callee (f := 31) rfl ?_); refine goesL_ (some 95) rfl rfl Try.func31 (by kernel_rfl) rfl #[.agg #[.slice A0_0 l0_0.length c0_0, .slice (some ad286) l0_1.length c0_1], .int .i64 x1_1, .int .i64 ji40, .int .u8 4, .int .i64 a3_1] rfl (by (try simp only [List.map_toArray, List.map_cons, List.map_nil]); first | done | (simp only [hji40]; rfl) | rfl | (simp only [List.length_drop, List.length_take]; rfl)) ?_; (with_reducible refine (stanzaref13_Line.calls k2 _ _ l0_0 _ _ l0_1 x1_1 ji40 4 a3_1 t304 t305 t306 t307 _ ?side1 ?side2 ?side3 ?side4 A59.out).mono ?_); (case side1 => repeat (first | exact (Kd.C_below HR0_0.out HB.out) | (with_reducible refine Kd.C_alloc ?_ _) | (with_reducible refine Kd.C_drewN ?_ _) | (with_reducible refine Kd.C_drew ?_))); (case side2 => exact HC0_0.out); (case side3 => repeat (first | exact (Kd.C_below HR0_1.out HB.out) | (with_reducible refine Kd.C_alloc ?_ _) | (with_reducible refine Kd.C_drewN ?_ _) | (with_reducible refine Kd.C_drew ?_))); (case side4 => exact HC0_1.out); rintro e w64 ⟨rfl, hb⟩; refine ⟨_, rfl, ?_⟩; have n0_ := zA.mk (Kd.R_below (by (with_reducible repeat (first | apply Kd.R_alloc | apply Kd.R_drewN | apply Kd.R_drew)); exact HO_9.out) hb); have n1_ := zA.mk (zL (g := gb272) (o := .cells #[.slice A0_0 l0_0.length c0_0, .slice (some ad286) l0_1.length c0_1] 31 (0, 0)) (by (with_reducible repeat (first | refine zB ?_ _ | refine zD ?_ | refine zC ?_ _)); exact BK272.out) hb); have n2_ := zA.mk (zL (g := gb273) (o := .cells #[.int .i64 a3_0, .int .i64 a3_1, .int .u8 a3_2, .int .i64 a3_3, .int .i64 a3_4, .float .f64 a3_5] 35 (0, 0)) (by (with_reducible repeat (first | refine zB ?_ _ | refine zD ?_ | refine zC ?_ _)); exact BK273.out) hb); have n3_ := zA.mk (zM (by repeat (first | (with_reducible first | exact HB.out | apply zI | apply zE | apply zH | refine zF ?_ GE272.out | refine zF ?_ GE273.out) | exact HB.out)) hb); clear HO_9; clear BK272; clear BK273; clear HB; have HO_9 := n0_; have BK272 := n1_; have BK273 := n2_; have HB := n3_; clear n0_ n1_ n2_ n3_; (try clear hb); (try clear hb2); (try clear hk); (try clear hi)) | ((with_reducible refine gate_builtin (b := .append) (xs := #[.tmp 88, .tmp 96]) rfl ?_); at_builtin; refine Kd.R_append k45 (w0 := w) w.heap.size rfl (.tmp 88) (.tmp 96) 40 45 (.agg #[(.int .i64 0), (.int .i64 0), (.int .i64 0), (.int .u8 0)]) 32 rfl Try.underlying40 info45 rfl (by decide) (by omega) u9 x9_1 (⟨t304, t305, t306, t307⟩ : S45) [.int .i64 t304, .int .i64 t305, .int .i64 t306, .int .u8 t307] (fun _ => True) (fun _ => False) rfl rfl ?aP (fun _ hk => hk.elim) ?aF ?aO ?aB ?aS ?aL ?_; (case aP => exact k45_mkM _ _ _ (⟨t304, t305, t306, t307⟩ : S45)); (case aB => exact (by repeat (first | (with_reducible first | exact HB.out | apply zI | apply zE | apply zH | refine zF ?_ GE272.out | refine zF ?_ GE273.out) | exact HB.out))); (case aF => exact (fun _ _ => trivial)); (case aO => exact (by (with_reducible repeat (first | apply Kd.R_alloc | apply Kd.R_drewN | apply Kd.R_drew)); exact HO_9.out)); (case aS => exact (zK (by repeat (first | (with_reducible first | exact HB.out | apply zI | apply zE | apply zH | refine zF ?_ GE272.out | refine zF ?_ GE273.out) | exact HB.out)))); (case aL => have := LMc60.out; omega); intro v309 w65 ho hb hg hat; rw [← Ny308.out] at ho; have n0_ := zA.mk (blk_grown (g := gb272) (o := .cells #[.slice A0_0 l0_0.length c0_0, .slice (some ad286) l0_1.length c0_1] 31 (0, 0)) (by (with_reducible repeat (first | refine zB ?_ _ | refine zD ?_ | refine zC ?_ _)); exact BK272.out) hg (Kd.R_ne HO_9.out BK272.out (by decide))); have n1_ := zA.mk (blk_grown (g := gb273) (o := .cells #[.int .i64 a3_0, .int .i64 a3_1, .int .u8 a3_2, .int .i64 a3_3, .int .i64 a3_4, .float .f64 a3_5] 35 (0, 0)) (by (with_reducible repeat (first | refine zB ?_ _ | refine zD ?_ | refine zC ?_ _)); exact BK273.out) hg (Kd.R_ne HO_9.out BK273.out (by decide))); have n2_ := zA.mk (hb); have n3_ := zA.mk (ho); clear BK272; clear BK273; clear HB; clear HO_9; have BK272 := n0_; have BK273 := n1_; have HB := n2_; have HO310 := n3_; clear n0_ n1_ n2_ n3_; clear ho hb hg hat))
          go_roundg k2
          case measure => have := HK1.out; have := HK2.out; omega
          case rel => exact ⟨(ji40), (y308), (by first | rfl | (simp; done) | (simp only [← hji40] <;> (first | rfl | simp)) | (simp [*]; done)), H', ⟨by have := HK1.out; have := HK2.out; omega⟩, ⟨by (with_reducible repeat (first | apply Kd.R_alloc | apply Kd.R_drewN | apply Kd.R_drew)); exact HO310.out⟩, ⟨by (with_reducible repeat (first | refine zB ?_ _ | refine zD ?_ | refine zC ?_ _)); exact BK272.out⟩, ⟨by (with_reducible repeat (first | refine zB ?_ _ | refine zD ?_ | refine zC ?_ _)); exact BK273.out⟩, ⟨by repeat (first | (with_reducible first | exact HB.out | apply zI | apply zE | apply zH | refine zF ?_ GE272.out | refine zF ?_ GE273.out) | exact HB.out)⟩⟩
        rw [if_pos c51] at H; have c51b0 : ((rd l0_1 (ji40)) == 1) = true := beq_iff_eq.mpr c51
        have c51b1 : ((rd l0_1 (ji40)) != 1) = false := bne_eq_false_iff_eq.mpr c51
        clear c51; replace H := Option.bind_eq_some_iff.mp H; obtain ⟨⟨t297, t298, t299, t300⟩, A520, H⟩ := H; replace H : (if x9_1.length < 4398046511104 then (stanzaref13_First.l0 k2 ji40 a2 (x9_1 ++ [(⟨t297, t298, t299, t300⟩ : S45)]) l0_0 l0_1 a3_0 a3_1 a3_2 a3_3 a3_4 a3_5) else (none)) = some r := H; have A52 := zA.mk A520; clear A520; by_cases c53 : x9_1.length < 4398046511104
        rotate_left
        · rw [if_neg c53] at H
          exact absurd H (by simp)
        rw [if_pos c53] at H; have LMc53 := zA.mk c53; clear c53; obtain ⟨y301, hy301⟩ : ∃ y_ : List (S45), y_ = (x9_1 ++ [(⟨t297, t298, t299, t300⟩ : S45)]) := ⟨_, rfl⟩; replace H : (stanzaref13_First.l0 k2 ji40 a2 y301 l0_0 l0_1 a3_0 a3_1 a3_2 a3_3 a3_4 a3_5) = some r := by first | (rw [hy301]; with_reducible exact H) | (have H2_ := (Option.bind_some _ _).symm.trans H; rw [hy301]; with_reducible exact H2_) | (have H2_ := (Option.bind_some _ _).symm.trans H; with_reducible exact H2_) | with_reducible exact H | (rw [hy301]; exact H) | exact H
        have Ny301 := zA.mk hy301; clear hy301; have H' := zA.mk H
        clear H; have hnb54 := NB272_273.out; have hnc54 := NB273_272.out; have hcz55_0 : wr.cell? ⟨gb272, 0, none⟩ = some (.slice A0_0 l0_0.length c0_0) := (zG BK272.out 0).trans rfl
        have hcz55_1 : wr.cell? ⟨gb272, 1, none⟩ = some (.slice A0_1 l0_1.length c0_1) := (zG BK272.out 1).trans rfl
        have hfz55_0 := zJ BK272.out 0; have hfz55_1 := zJ BK272.out 1; have p286 : 0 ≤ ((ji40) : Int) := of_decide_eq_true (by first | (with_reducible assumption) | assumption)
        have q286 : (ji40) < (l0_1.length : Int) := of_decide_eq_true (by first | (with_reducible assumption) | assumption)
        obtain ⟨ad286, e286, hx286_0⟩ := Kd.at_int HR0_1.out (ji40) p286 q286; cases e286
        replace hx286_0 := (HB.out.cell (World.block_lt_of_cell? w _ hx286_0)).trans hx286_0; replace p286 := eq_true p286; replace q286 := eq_true q286; have p295 : 0 ≤ ((ji40) : Int) := of_decide_eq_true (by first | (with_reducible assumption) | assumption)
        have q295 : (ji40) < (l0_1.length : Int) := of_decide_eq_true (by first | (with_reducible assumption) | assumption)
        obtain ⟨ad295, e295, hx295_0⟩ := Kd.at_int HR0_1.out (ji40) p295 q295; obtain rfl : ad286 = ad295 := (by injection e295)
        replace hx295_0 := (HB.out.cell (World.block_lt_of_cell? w _ hx295_0)).trans hx295_0; replace p295 := eq_true p295; replace q295 := eq_true q295; have p296 : 0 ≤ ((ji40) : Int) := of_decide_eq_true (by first | (with_reducible assumption) | assumption)
        have q296 : (ji40) < (l0_1.length : Int) := of_decide_eq_true (by first | (with_reducible assumption) | assumption)
        obtain ⟨ad296, e296, hx296_0⟩ := Kd.at_int HR0_1.out (ji40) p296 q296; obtain rfl : ad286 = ad296 := (by injection e296)
        replace hx296_0 := (HB.out.cell (World.block_lt_of_cell? w _ hx296_0)).trans hx296_0; replace p296 := eq_true p296; replace q296 := eq_true q296; have hcz56_0 : wr.cell? ⟨gb273, 0, none⟩ = some (.int .i64 a3_0) := (zG BK273.out 0).trans rfl
        have hcz56_1 : wr.cell? ⟨gb273, 1, none⟩ = some (.int .i64 a3_1) := (zG BK273.out 1).trans rfl
        have hcz56_2 : wr.cell? ⟨gb273, 2, none⟩ = some (.int .u8 a3_2) := (zG BK273.out 2).trans rfl
        have hcz56_3 : wr.cell? ⟨gb273, 3, none⟩ = some (.int .i64 a3_3) := (zG BK273.out 3).trans rfl
        have hcz56_4 : wr.cell? ⟨gb273, 4, none⟩ = some (.int .i64 a3_4) := (zG BK273.out 4).trans rfl
        have hcz56_5 : wr.cell? ⟨gb273, 5, none⟩ = some (.float .f64 a3_5) := (zG BK273.out 5).trans rfl
        have hfz56_0 := zJ BK273.out 0; have hfz56_1 := zJ BK273.out 1; have hfz56_2 := zJ BK273.out 2; have hfz56_3 := zJ BK273.out 3; have hfz56_4 := zJ BK273.out 4; have hfz56_5 := zJ BK273.out 5; go_wp2_with (first | ((with_reducible refine gate_callee (f := 31) rfl ?_); refine goesL_ (some 95) rfl rfl Try.func31 (by kernel_rfl) rfl #[.agg #[.slice A0_0 l0_0.length c0_0, .slice (some ad286) l0_1.length c0_1], .int .i64 x1_1, .int .i64 ji40, .int .u8 (rd l0_1 (ji40)), .int .i64 a3_1] rfl (by (try simp only [List.map_toArray, List.map_cons, List.map_nil]); first | done | (simp only [hji40]; rfl) | rfl | (simp only [List.length_drop, List.length_take]; rfl)) ?_; (with_reducible refine (stanzaref13_Line.calls k2 _ _ l0_0 _ _ l0_1 x1_1 ji40 (rd l0_1 (ji40)) a3_1 t297 t298 t299 t300 _ ?side1 ?side2 ?side3 ?side4 A52.out).mono ?_); (case side1 => repeat (first | exact (Kd.C_below HR0_0.out HB.out) | (with_reducible refine Kd.C_alloc ?_ _) | (with_reducible refine Kd.C_drewN ?_ _) | (with_reducible refine Kd.C_drew ?_))); (case side2 => exact HC0_0.out); (case side3 => repeat (first | exact (Kd.C_below HR0_1.out HB.out) | (with_reducible refine Kd.C_alloc ?_ _) | (with_reducible refine Kd.C_drewN ?_ _) | (with_reducible refine Kd.C_drew ?_))); (case side4 => exact HC0_1.out); rintro e w57 ⟨rfl, hb⟩; refine ⟨_, rfl, ?_⟩; have n0_ := zA.mk (Kd.R_below (by (with_reducible repeat (first | apply Kd.R_alloc | apply Kd.R_drewN | apply Kd.R_drew)); exact HO_9.out) hb); have n1_ := zA.mk (zL (g := gb272) (o := .cells #[.slice A0_0 l0_0.length c0_0, .slice (some ad286) l0_1.length c0_1] 31 (0, 0)) (by (with_reducible repeat (first | refine zB ?_ _ | refine zD ?_ | refine zC ?_ _)); exact BK272.out) hb); have n2_ := zA.mk (zL (g := gb273) (o := .cells #[.int .i64 a3_0, .int .i64 a3_1, .int .u8 a3_2, .int .i64 a3_3, .int .i64 a3_4, .float .f64 a3_5] 35 (0, 0)) (by (with_reducible repeat (first | refine zB ?_ _ | refine zD ?_ | refine zC ?_ _)); exact BK273.out) hb); have n3_ := zA.mk (zM (by repeat (first | (with_reducible first | exact HB.out | apply zI | apply zE | apply zH | refine zF ?_ GE272.out | refine zF ?_ GE273.out) | exact HB.out)) hb); clear HO_9; clear BK272; clear BK273; clear HB; have HO_9 := n0_; have BK272 := n1_; have BK273 := n2_; have HB := n3_; clear n0_ n1_ n2_ n3_; (try clear hb); (try clear hb2); (try clear hk); (try clear hi)) | ((with_reducible refine gate_builtin (b := .append) (xs := #[.tmp 88, .tmp 96]) rfl ?_); at_builtin; refine Kd.R_append k45 (w0 := w) w.heap.size rfl (.tmp 88) (.tmp 96) 40 45 (.agg #[(.int .i64 0), (.int .i64 0), (.int .i64 0), (.int .u8 0)]) 32 rfl Try.underlying40 info45 rfl (by decide) (by omega) u9 x9_1 (⟨t297, t298, t299, t300⟩ : S45) [.int .i64 t297, .int .i64 t298, .int .i64 t299, .int .u8 t300] (fun _ => True) (fun _ => False) rfl rfl ?aP (fun _ hk => hk.elim) ?aF ?aO ?aB ?aS ?aL ?_; (case aP => exact k45_mkM _ _ _ (⟨t297, t298, t299, t300⟩ : S45)); (case aB => exact (by repeat (first | (with_reducible first | exact HB.out | apply zI | apply zE | apply zH | refine zF ?_ GE272.out | refine zF ?_ GE273.out) | exact HB.out))); (case aF => exact (fun _ _ => trivial)); (case aO => exact (by (with_reducible repeat (first | apply Kd.R_alloc | apply Kd.R_drewN | apply Kd.R_drew)); exact HO_9.out)); (case aS => exact (zK (by repeat (first | (with_reducible first | exact HB.out | apply zI | apply zE | apply zH | refine zF ?_ GE272.out | refine zF ?_ GE273.out) | exact HB.out)))); (case aL => have := LMc53.out; omega); intro v302 w58 ho hb hg hat; rw [← Ny301.out] at ho; have n0_ := zA.mk (blk_grown (g := gb272) (o := .cells #[.slice A0_0 l0_0.length c0_0, .slice (some ad286) l0_1.length c0_1] 31 (0, 0)) (by (with_reducible repeat (first | refine zB ?_ _ | refine zD ?_ | refine zC ?_ _)); exact BK272.out) hg (Kd.R_ne HO_9.out BK272.out (by decide))); have n1_ := zA.mk (blk_grown (g := gb273) (o := .cells #[.int .i64 a3_0, .int .i64 a3_1, .int .u8 a3_2, .int .i64 a3_3, .int .i64 a3_4, .float .f64 a3_5] 35 (0, 0)) (by (with_reducible repeat (first | refine zB ?_ _ | refine zD ?_ | refine zC ?_ _)); exact BK273.out) hg (Kd.R_ne HO_9.out BK273.out (by decide))); have n2_ := zA.mk (hb); have n3_ := zA.mk (ho); clear BK272; clear BK273; clear HB; clear HO_9; have BK272 := n0_; have BK273 := n1_; have HB := n2_; have HO303 := n3_; clear n0_ n1_ n2_ n3_; clear ho hb hg hat))
        go_roundg k2
        case measure => have := HK1.out; have := HK2.out; omega
        case rel => exact ⟨(ji40), (y301), (by first | rfl | (simp; done) | (simp only [← hji40] <;> (first | rfl | simp)) | (simp [*]; done)), H', ⟨by have := HK1.out; have := HK2.out; omega⟩, ⟨by (with_reducible repeat (first | apply Kd.R_alloc | apply Kd.R_drewN | apply Kd.R_drew)); exact HO303.out⟩, ⟨by (with_reducible repeat (first | refine zB ?_ _ | refine zD ?_ | refine zC ?_ _)); exact BK272.out⟩, ⟨by (with_reducible repeat (first | refine zB ?_ _ | refine zD ?_ | refine zC ?_ _)); exact BK273.out⟩, ⟨by repeat (first | (with_reducible first | exact HB.out | apply zI | apply zE | apply zH | refine zF ?_ GE272.out | refine zF ?_ GE273.out) | exact HB.out)⟩⟩
      rw [if_pos c8] at H; have c8b0 : decide (x12_2 ≤ a2) = true := decide_eq_true c8
      clear c8; replace H := Option.bind_eq_some_iff.mp H; obtain ⟨t274, A90, H⟩ := H; replace H : (if t274 ≤ a3_0 then (if 0 ≤ x12_2 then (if x12_2 < (l0_1.length : Int) then (if (rd l0_1 x12_2) = 0 then (stanzaref13_First.l1 k2 x1_1 a2 x9_1 x10_2 x12_2 (wrap64 (x12_2 + 1)) l0_0 l0_1 a3_0 a3_1 a3_2 a3_3 a3_4 a3_5) else ((stanzaref13_Cells.f k2 l0_0 l0_1 x1_1 x12_2 (rd l0_1 x12_2) a3_1).bind fun t277 => (if t277 ≤ a3_0 then (stanzaref13_First.l1 k2 x1_1 a2 x9_1 x12_2 x12_2 (wrap64 (x12_2 + 1)) l0_0 l0_1 a3_0 a3_1 a3_2 a3_3 a3_4 a3_5) else (stanzaref13_First.l1 k2 x1_1 a2 x9_1 x10_2 x12_2 (wrap64 (x12_2 + 1)) l0_0 l0_1 a3_0 a3_1 a3_2 a3_3 a3_4 a3_5)))) else (none)) else (none)) else (stanzaref13_First.l1 k2 x1_1 a2 x9_1 x10_2 x11_2 (wrap64 (x12_2 + 1)) l0_0 l0_1 a3_0 a3_1 a3_2 a3_3 a3_4 a3_5)) = some r := H
      have A9 := zA.mk A90; clear A90; by_cases c10 : t274 ≤ a3_0
      rotate_left
      · rw [if_neg c10] at H
        have c10b0 : decide (t274 ≤ a3_0) = false := decide_eq_false c10
        clear c10; have H' := zA.mk H
        clear H; try go_wp2
        have n0_ := zA.mk (Kd.R_drew HO_9.out); have n1_ := zA.mk (zD BK272.out); have n2_ := zA.mk (zD BK273.out); have n3_ := zA.mk (zH HB.out); clear HO_9; clear BK272; clear BK273; clear HB; have HO_9 := n0_; have BK272 := n1_; have BK273 := n2_; have HB := n3_; clear n0_ n1_ n2_ n3_; refine start_ (n := 9) (S := fun w' => w'.cell? ⟨gb272, 0, none⟩ = some (.slice A0_0 l0_0.length c0_0) ∧ w'.cell? ⟨gb272, 1, none⟩ = some (.slice A0_1 l0_1.length c0_1) ∧ w'.cell? ⟨gb273, 0, none⟩ = some (.int .i64 a3_0) ∧ w'.cell? ⟨gb273, 1, none⟩ = some (.int .i64 a3_1) ∧ w'.cell? ⟨gb273, 2, none⟩ = some (.int .u8 a3_2) ∧ w'.cell? ⟨gb273, 3, none⟩ = some (.int .i64 a3_3) ∧ w'.cell? ⟨gb273, 4, none⟩ = some (.int .i64 a3_4) ∧ w'.cell? ⟨gb273, 5, none⟩ = some (.float .f64 a3_5)) (ds := []) #[false, false, false, false, false, false, false, false, false] (by kernel_rfl) rfl rfl ⟨(zG BK272.out 0).trans rfl, (zG BK272.out 1).trans rfl, (zG BK273.out 0).trans rfl, (zG BK273.out 1).trans rfl, (zG BK273.out 2).trans rfl, (zG BK273.out 3).trans rfl, (zG BK273.out 4).trans rfl, (zG BK273.out 5).trans rfl⟩ (fun hHeld => ?_); refine with_tabW stanzaref13_First.tab7 stanzaref13_First.bits7 (fun HT_ HW_ => ?_)
        generalize wr.drew = w27 at HO_9 BK272 BK273 HB hHeld ⊢
        refine pure_ (i := 1) (N := some 25) (v := ?_) (a' := ?_) #[false, true, false, false, false, false, false, false, false] rfl rfl (any_of HT_.out (by kernel_rfl)) (fun _ _ _ h => h) (Or.inl ⟨by rfl, ?_⟩) ?_ ?_
        rotate_left
        · intro w'
          go_simp
          with_reducible rfl
        rotate_left
        · simp only [Act.put, sA_, sB_, sC_, i64_w, i32_w]
          rfl
        refine pure_ (i := 2) (N := some 26) (v := ?_) (a' := ?_) #[false, true, true, false, false, false, false, false, false] rfl rfl (any_of HT_.out (by kernel_rfl)) (fun _ _ _ h => h) (Or.inl ⟨by rfl, ?_⟩) ?_ ?_
        rotate_left
        · intro w'
          go_simp
          with_reducible rfl
        rotate_left
        · simp only [Act.put, sA_, sB_, sC_, i64_w, i32_w]
          rfl
        refine pure_ (i := 3) (N := some 27) (v := ?_) (a' := ?_) #[false, true, true, true, false, false, false, false, false] rfl rfl (any_of HT_.out (by kernel_rfl)) (fun _ _ _ h => h) (Or.inl ⟨by rfl, ?_⟩) ?_ ?_
        rotate_left
        · intro w'
          go_simp
          with_reducible rfl
        rotate_left
        · simp only [Act.put, sA_, sB_, sC_, i64_w, i32_w]
          rfl
        refine pure_ (i := 6) (N := some 30) (v := ?_) (a' := ?_) #[false, true, true, true, false, false, true, false, false] rfl rfl (any_of HT_.out (by kernel_rfl)) (fun _ _ _ h => h) (Or.inl ⟨by rfl, ?_⟩) ?_ ?_
        rotate_left
        · intro w'
          go_simp
          with_reducible rfl
        rotate_left
        · simp only [Act.put, sA_, sB_, sC_, i64_w, i32_w]
          rfl
        refine take_ (i := 0) (N := some 24) (v := ?_) (a' := ?_) #[true, true, true, true, false, false, true, false, false] rfl rfl (take_ofW HT_.out HW_.out (by kernel_rfl)) (fun _ _ _ h => h) (Or.inl ⟨by rfl, ?_⟩) hHeld ?_ ?_
        rotate_left
        · rintro w' ⟨s0, s1, s2, s3, s4, s5, s6, s7⟩
          go_simp
          with_reducible rfl
        rotate_left
        · simp only [Act.put, sA_, sB_, sC_, i64_w, i32_w]
          rfl
        refine take_ (i := 4) (N := some 28) (v := ?_) (a' := ?_) #[true, true, true, true, true, false, true, false, false] rfl rfl (take_ofW HT_.out HW_.out (by kernel_rfl)) (fun _ _ _ h => h) (Or.inl ⟨by rfl, ?_⟩) hHeld ?_ ?_
        rotate_left
        · rintro w' ⟨s0, s1, s2, s3, s4, s5, s6, s7⟩
          go_simp
          with_reducible rfl
        rotate_left
        · simp only [Act.put, sA_, sB_, sC_, i64_w, i32_w]
          rfl
        refine take_ (i := 7) (N := some 31) (v := ?_) (a' := ?_) #[true, true, true, true, true, false, true, true, false] rfl rfl (take_ofW HT_.out HW_.out (by kernel_rfl)) (fun _ _ _ h => h) (Or.inl ⟨by rfl, ?_⟩) hHeld ?_ ?_
        rotate_left
        · rintro w' ⟨s0, s1, s2, s3, s4, s5, s6, s7⟩
          go_simp
          with_reducible rfl
        rotate_left
        · simp only [Act.put, sA_, sB_, sC_, i64_w, i32_w]
          rfl
        refine one_ (i := 5) (N := some 29) #[true, true, true, true, true, true, true, true, false] rfl rfl (one_of HT_.out (by kernel_rfl)) (by decide) (fun K hK => ?_)
        refine goes_ Try.func30 (by kernel_rfl) rfl #[.agg #[.slice A0_0 l0_0.length c0_0, .slice A0_1 l0_1.length c0_1], .int .i64 x1_1, .int .i64 x12_2, .int .u8 0, .int .i64 a3_1] (by rfl) rfl rfl (by (try simp only [List.map_toArray, List.map_cons, List.map_nil]); first | done | rfl | (simp only [List.length_drop, List.length_take]; rfl)) ?_
        with_reducible refine (stanzaref13_Cells.calls k2 _ _ l0_0 _ _ l0_1 x1_1 x12_2 0 a3_1 t274 _ ?side1 ?side2 ?side3 ?side4 A9.out).mono ?_
        (case side1 => repeat (first | exact (Kd.C_below HR0_0.out HB.out) | (with_reducible refine Kd.C_alloc ?_ _) | (with_reducible refine Kd.C_drewN ?_ _) | (with_reducible refine Kd.C_drew ?_)))
        (case side2 => exact HC0_0.out)
        (case side3 => repeat (first | exact (Kd.C_below HR0_1.out HB.out) | (with_reducible refine Kd.C_alloc ?_ _) | (with_reducible refine Kd.C_drewN ?_ _) | (with_reducible refine Kd.C_drew ?_)))
        (case side4 => exact HC0_1.out)
        rintro e w28 ⟨rfl, hb⟩
        refine ⟨_, rfl, ?_⟩
        have n0_ := zA.mk (Kd.R_below (by (with_reducible repeat (first | apply Kd.R_alloc | apply Kd.R_drewN | apply Kd.R_drew)); exact HO_9.out) hb)
        have n1_ := zA.mk (zL (g := gb272) (o := .cells #[.slice A0_0 l0_0.length c0_0, .slice A0_1 l0_1.length c0_1] 31 (0, 0)) (by (with_reducible repeat (first | refine zB ?_ _ | refine zD ?_ | refine zC ?_ _)); exact BK272.out) hb)
        have n2_ := zA.mk (zL (g := gb273) (o := .cells #[.int .i64 a3_0, .int .i64 a3_1, .int .u8 a3_2, .int .i64 a3_3, .int .i64 a3_4, .float .f64 a3_5] 35 (0, 0)) (by (with_reducible repeat (first | refine zB ?_ _ | refine zD ?_ | refine zC ?_ _)); exact BK273.out) hb)
        have n3_ := zA.mk (zM (by repeat (first | (with_reducible first | exact HB.out | apply zI | apply zE | apply zH | refine zF ?_ GE272.out | refine zF ?_ GE273.out) | exact HB.out)) hb)
        clear HO_9 BK272 BK273 HB; have HO_9 := n0_; have BK272 := n1_; have BK273 := n2_; have HB := n3_; clear n0_ n1_ n2_ n3_; (try clear hb)
        (try clear hb2)
        (try clear hk)
        (try clear hi)
        refine hK.out _ _ ⟨(zG BK272.out 0).trans rfl, (zG BK272.out 1).trans rfl, (zG BK273.out 0).trans rfl, (zG BK273.out 1).trans rfl, (zG BK273.out 2).trans rfl, (zG BK273.out 3).trans rfl, (zG BK273.out 4).trans rfl, (zG BK273.out 5).trans rfl⟩ (fun hHeld => ?_)
        clear hK K; refine norm_ (a' := ?_) ?_ ?_
        rotate_left
        · show Act.put _ (some 29) _ = _
          simp only [Act.put, sA_, sB_, sC_, i64_w, i32_w]; rfl
        refine pure_ (i := 8) (N := some 32) (v := ?_) (a' := ?_) #[true, true, true, true, true, true, true, true, true] rfl rfl (any_of HT_.out (by kernel_rfl)) (fun _ _ _ h => h) (Or.inl ⟨by rfl, ?_⟩) ?_ ?_
        rotate_left
        · intro w'
          go_simp
          with_reducible rfl
        rotate_left
        · simp only [Act.put, sA_, sB_, sC_, i64_w, i32_w]
          rfl
        refine done_ (done_of HT_.out (by kernel_rfl)) ?_
        try go_wp2
        go_roundg k2
        case measure => have := HK1.out; have := HK2.out; omega
        case rel => exact ⟨(x10_2), (x11_2), (wrap64 (x12_2 + 1)), (by first | rfl | (simp; done) | (simp [*]; done)), (by first | rfl | (simp; done) | (simp [*]; done)), (by first | rfl | (simp; done) | (simp [*]; done)), H', ⟨by have := HK1.out; have := HK2.out; omega⟩, ⟨by (with_reducible repeat (first | apply Kd.R_alloc | apply Kd.R_drewN | apply Kd.R_drew)); exact HO_9.out⟩, ⟨by (with_reducible repeat (first | refine zB ?_ _ | refine zD ?_ | refine zC ?_ _)); exact BK272.out⟩, ⟨by (with_reducible repeat (first | refine zB ?_ _ | refine zD ?_ | refine zC ?_ _)); exact BK273.out⟩, ⟨by repeat (first | (with_reducible first | exact HB.out | apply zI | apply zE | apply zH | refine zF ?_ GE272.out | refine zF ?_ GE273.out) | exact HB.out)⟩⟩
      rw [if_pos c10] at H; have c10b0 : decide (t274 ≤ a3_0) = true := decide_eq_true c10
      clear c10; by_cases c11 : 0 ≤ x12_2
      rotate_left
      · rw [if_neg c11] at H
        exact absurd H (by simp)
      rw [if_pos c11] at H; have c11b0 : decide (0 ≤ x12_2) = true := decide_eq_true c11
      clear c11; by_cases c12 : x12_2 < (l0_1.length : Int)
      rotate_left
      · rw [if_neg c12] at H
        exact absurd H (by simp)
      rw [if_pos c12] at H; have c12b0 : decide (x12_2 < (l0_1.length : Int)) = true := decide_eq_true c12
      clear c12; by_cases c13 : (rd l0_1 x12_2) = 0
      · rw [if_pos c13] at H
        have c13b0 : ((rd l0_1 x12_2) == 0) = true := beq_iff_eq.mpr c13
        have c13b1 : ((rd l0_1 x12_2) != 0) = false := bne_eq_false_iff_eq.mpr c13
        clear c13; have H' := zA.mk H
        clear H; try go_wp2
        have n0_ := zA.mk (Kd.R_drew HO_9.out); have n1_ := zA.mk (zD BK272.out); have n2_ := zA.mk (zD BK273.out); have n3_ := zA.mk (zH HB.out); clear HO_9; clear BK272; clear BK273; clear HB; have HO_9 := n0_; have BK272 := n1_; have BK273 := n2_; have HB := n3_; clear n0_ n1_ n2_ n3_; refine start_ (n := 9) (S := fun w' => w'.cell? ⟨gb272, 0, none⟩ = some (.slice A0_0 l0_0.length c0_0) ∧ w'.cell? ⟨gb272, 1, none⟩ = some (.slice A0_1 l0_1.length c0_1) ∧ w'.cell? ⟨gb273, 0, none⟩ = some (.int .i64 a3_0) ∧ w'.cell? ⟨gb273, 1, none⟩ = some (.int .i64 a3_1) ∧ w'.cell? ⟨gb273, 2, none⟩ = some (.int .u8 a3_2) ∧ w'.cell? ⟨gb273, 3, none⟩ = some (.int .i64 a3_3) ∧ w'.cell? ⟨gb273, 4, none⟩ = some (.int .i64 a3_4) ∧ w'.cell? ⟨gb273, 5, none⟩ = some (.float .f64 a3_5)) (ds := []) #[false, false, false, false, false, false, false, false, false] (by kernel_rfl) rfl rfl ⟨(zG BK272.out 0).trans rfl, (zG BK272.out 1).trans rfl, (zG BK273.out 0).trans rfl, (zG BK273.out 1).trans rfl, (zG BK273.out 2).trans rfl, (zG BK273.out 3).trans rfl, (zG BK273.out 4).trans rfl, (zG BK273.out 5).trans rfl⟩ (fun hHeld => ?_); refine with_tabW stanzaref13_First.tab7 stanzaref13_First.bits7 (fun HT_ HW_ => ?_)
        generalize wr.drew = w14 at HO_9 BK272 BK273 HB hHeld ⊢
        refine pure_ (i := 1) (N := some 25) (v := ?_) (a' := ?_) #[false, true, false, false, false, false, false, false, false] rfl rfl (any_of HT_.out (by kernel_rfl)) (fun _ _ _ h => h) (Or.inl ⟨by rfl, ?_⟩) ?_ ?_
        rotate_left
        · intro w'
          go_simp
          with_reducible rfl
        rotate_left
        · simp only [Act.put, sA_, sB_, sC_, i64_w, i32_w]
          rfl
        refine pure_ (i := 2) (N := some 26) (v := ?_) (a' := ?_) #[false, true, true, false, false, false, false, false, false] rfl rfl (any_of HT_.out (by kernel_rfl)) (fun _ _ _ h => h) (Or.inl ⟨by rfl, ?_⟩) ?_ ?_
        rotate_left
        · intro w'
          go_simp
          with_reducible rfl
        rotate_left
        · simp only [Act.put, sA_, sB_, sC_, i64_w, i32_w]
          rfl
        refine pure_ (i := 3) (N := some 27) (v := ?_) (a' := ?_) #[false, true, true, true, false, false, false, false, false] rfl rfl (any_of HT_.out (by kernel_rfl)) (fun _ _ _ h => h) (Or.inl ⟨by rfl, ?_⟩) ?_ ?_
        rotate_left
        · intro w'
          go_simp
          with_reducible rfl
        rotate_left
        · simp only [Act.put, sA_, sB_, sC_, i64_w, i32_w]
          rfl
        refine pure_ (i := 6) (N := some 30) (v := ?_) (a' := ?_) #[false, true, true, true, false, false, true, false, false] rfl rfl (any_of HT_.out (by kernel_rfl)) (fun _ _ _ h => h) (Or.inl ⟨by rfl, ?_⟩) ?_ ?_
        rotate_left
        · intro w'
          go_simp
          with_reducible rfl
        rotate_left
        · simp only [Act.put, sA_, sB_, sC_, i64_w, i32_w]
          rfl
        refine take_ (i := 0) (N := some 24) (v := ?_) (a' := ?_) #[true, true, true, true, false, false, true, false, false] rfl rfl (take_ofW HT_.out HW_.out (by kernel_rfl)) (fun _ _ _ h => h) (Or.inl ⟨by rfl, ?_⟩) hHeld ?_ ?_
        rotate_left
        · rintro w' ⟨s0, s1, s2, s3, s4, s5, s6, s7⟩
          go_simp
          with_reducible rfl
        rotate_left
        · simp only [Act.put, sA_, sB_, sC_, i64_w, i32_w]
          rfl
        refine take_ (i := 4) (N := some 28) (v := ?_) (a' := ?_) #[true, true, true, true, true, false, true, false, false] rfl rfl (take_ofW HT_.out HW_.out (by kernel_rfl)) (fun _ _ _ h => h) (Or.inl ⟨by rfl, ?_⟩) hHeld ?_ ?_
        rotate_left
        · rintro w' ⟨s0, s1, s2, s3, s4, s5, s6, s7⟩
          go_simp
          with_reducible rfl
        rotate_left
        · simp only [Act.put, sA_, sB_, sC_, i64_w, i32_w]
          rfl
        refine take_ (i := 7) (N := some 31) (v := ?_) (a' := ?_) #[true, true, true, true, true, false, true, true, false] rfl rfl (take_ofW HT_.out HW_.out (by kernel_rfl)) (fun _ _ _ h => h) (Or.inl ⟨by rfl, ?_⟩) hHeld ?_ ?_
        rotate_left
        · rintro w' ⟨s0, s1, s2, s3, s4, s5, s6, s7⟩
          go_simp
          with_reducible rfl
        rotate_left
        · simp only [Act.put, sA_, sB_, sC_, i64_w, i32_w]
          rfl
        refine one_ (i := 5) (N := some 29) #[true, true, true, true, true, true, true, true, false] rfl rfl (one_of HT_.out (by kernel_rfl)) (by decide) (fun K hK => ?_)
        refine goes_ Try.func30 (by kernel_rfl) rfl #[.agg #[.slice A0_0 l0_0.length c0_0, .slice A0_1 l0_1.length c0_1], .int .i64 x1_1, .int .i64 x12_2, .int .u8 0, .int .i64 a3_1] (by rfl) rfl rfl (by (try simp only [List.map_toArray, List.map_cons, List.map_nil]); first | done | rfl | (simp only [List.length_drop, List.length_take]; rfl)) ?_
        with_reducible refine (stanzaref13_Cells.calls k2 _ _ l0_0 _ _ l0_1 x1_1 x12_2 0 a3_1 t274 _ ?side1 ?side2 ?side3 ?side4 A9.out).mono ?_
        (case side1 => repeat (first | exact (Kd.C_below HR0_0.out HB.out) | (with_reducible refine Kd.C_alloc ?_ _) | (with_reducible refine Kd.C_drewN ?_ _) | (with_reducible refine Kd.C_drew ?_)))
        (case side2 => exact HC0_0.out)
        (case side3 => repeat (first | exact (Kd.C_below HR0_1.out HB.out) | (with_reducible refine Kd.C_alloc ?_ _) | (with_reducible refine Kd.C_drewN ?_ _) | (with_reducible refine Kd.C_drew ?_)))
        (case side4 => exact HC0_1.out)
        rintro e w15 ⟨rfl, hb⟩
        refine ⟨_, rfl, ?_⟩
        have n0_ := zA.mk (Kd.R_below (by (with_reducible repeat (first | apply Kd.R_alloc | apply Kd.R_drewN | apply Kd.R_drew)); exact HO_9.out) hb)
        have n1_ := zA.mk (zL (g := gb272) (o := .cells #[.slice A0_0 l0_0.length c0_0, .slice A0_1 l0_1.length c0_1] 31 (0, 0)) (by (with_reducible repeat (first | refine zB ?_ _ | refine zD ?_ | refine zC ?_ _)); exact BK272.out) hb)
        have n2_ := zA.mk (zL (g := gb273) (o := .cells #[.int .i64 a3_0, .int .i64 a3_1, .int .u8 a3_2, .int .i64 a3_3, .int .i64 a3_4, .float .f64 a3_5] 35 (0, 0)) (by (with_reducible repeat (first | refine zB ?_ _ | refine zD ?_ | refine zC ?_ _)); exact BK273.out) hb)
        have n3_ := zA.mk (zM (by repeat (first | (with_reducible first | exact HB.out | apply zI | apply zE | apply zH | refine zF ?_ GE272.out | refine zF ?_ GE273.out) | exact HB.out)) hb)
        clear HO_9 BK272 BK273 HB; have HO_9 := n0_; have BK272 := n1_; have BK273 := n2_; have HB := n3_; clear n0_ n1_ n2_ n3_; (try clear hb)
        (try clear hb2)
        (try clear hk)
        (try clear hi)
        refine hK.out _ _ ⟨(zG BK272.out 0).trans rfl, (zG BK272.out 1).trans rfl, (zG BK273.out 0).trans rfl, (zG BK273.out 1).trans rfl, (zG BK273.out 2).trans rfl, (zG BK273.out 3).trans rfl, (zG BK273.out 4).trans rfl, (zG BK273.out 5).trans rfl⟩ (fun hHeld => ?_)
        clear hK K; refine norm_ (a' := ?_) ?_ ?_
        rotate_left
        · show Act.put _ (some 29) _ = _
          simp only [Act.put, sA_, sB_, sC_, i64_w, i32_w]; rfl
        refine pure_ (i := 8) (N := some 32) (v := ?_) (a' := ?_) #[true, true, true, true, true, true, true, true, true] rfl rfl (any_of HT_.out (by kernel_rfl)) (fun _ _ _ h => h) (Or.inl ⟨by rfl, ?_⟩) ?_ ?_
        rotate_left
        · intro w'
          go_simp
          with_reducible rfl
        rotate_left
        · simp only [Act.put, sA_, sB_, sC_, i64_w, i32_w]
          rfl
        refine done_ (done_of HT_.out (by kernel_rfl)) ?_
        try go_wp2
        have n0_ := zA.mk (Kd.R_drew HO_9.out); have n1_ := zA.mk (zD BK272.out); have n2_ := zA.mk (zD BK273.out); have n3_ := zA.mk (zH HB.out); clear HO_9; clear BK272; clear BK273; clear HB; have HO_9 := n0_; have BK272 := n1_; have BK273 := n2_; have HB := n3_; clear n0_ n1_ n2_ n3_; have p275 : 0 ≤ (x12_2 : Int) := of_decide_eq_true (by first | (with_reducible assumption) | assumption)
        have q275 : x12_2 < (l0_1.length : Int) := of_decide_eq_true (by first | (with_reducible assumption) | assumption)
        obtain ⟨ad275, e275, hx275_0⟩ := Kd.at_int HR0_1.out x12_2 p275 q275; have hw275_0 := hx275_0; cases e275
        replace hx275_0 := (HB.out.cell (World.block_lt_of_cell? w _ hx275_0)).trans hx275_0; replace p275 := eq_true p275; replace q275 := eq_true q275; refine start_ (n := 22) (S := fun w' => w'.cell? ⟨gb272, 0, none⟩ = some (.slice A0_0 l0_0.length c0_0) ∧ w'.cell? ⟨gb272, 1, none⟩ = some (.slice (some ad275) l0_1.length c0_1) ∧ w'.cell? (ad275.add (x12_2).toNat) = some (.int .u8 (rd l0_1 x12_2))) (ds := []) #[false, false, false, false, false, false, false, false, false, false, false, false, false, false, false, false, false, false, false, false, false, false] (by kernel_rfl) rfl rfl ⟨(zG BK272.out 0).trans rfl, (zG BK272.out 1).trans rfl, ((HB.out.cell (World.block_lt_of_cell? w _ hw275_0)).trans hw275_0)⟩ (fun hHeld => ?_); refine with_tabW stanzaref13_First.tab9 stanzaref13_First.bits9 (fun HT_ HW_ => ?_)
        generalize w15.drew = w16 at HO_9 BK272 BK273 HB hx275_0 hHeld ⊢
        refine pure_ (i := 0) (N := some 34) (v := ?_) (a' := ?_) (tf_ 1 22) rfl rfl (any_of HT_.out (by kernel_rfl)) (fun _ _ _ h => h) (Or.inl ⟨by rfl, ?_⟩) ?_ ?_
        rotate_left
        · intro w'
          go_simp
          with_reducible rfl
        rotate_left
        · simp only [Act.put, sA_, sB_, sC_, i64_w, i32_w]
          rfl
        refine pure_ (i := 2) (N := some 36) (v := ?_) (a' := ?_) #[true, false, true, false, false, false, false, false, false, false, false, false, false, false, false, false, false, false, false, false, false, false] rfl rfl (any_of HT_.out (by kernel_rfl)) (fun _ _ _ h => h) (Or.inl ⟨by rfl, ?_⟩) ?_ ?_
        rotate_left
        · intro w'
          go_simp
          with_reducible rfl
        rotate_left
        · simp only [Act.put, sA_, sB_, sC_, i64_w, i32_w]
          rfl
        refine take_ (i := 1) (N := some 35) (v := ?_) (a' := ?_) (tf_ 3 22) rfl rfl (take_ofW HT_.out HW_.out (by kernel_rfl)) (fun _ _ _ h => h) (Or.inl ⟨by rfl, ?_⟩) hHeld ?_ ?_
        rotate_left
        · rintro w' ⟨s0, s1, s2⟩
          go_simp
          with_reducible rfl
        rotate_left
        · simp only [Act.put, sA_, sB_, sC_, i64_w, i32_w]
          rfl
        refine pure_ (i := 3) (N := some 37) (v := ?_) (a' := ?_) (tf_ 4 22) rfl rfl (any_of HT_.out (by kernel_rfl)) (fun _ _ _ h => h) (Or.inl ⟨by rfl, ?_⟩) ?_ ?_
        rotate_left
        · intro w'
          go_simp
          with_reducible rfl
        rotate_left
        · simp only [Act.put, sA_, sB_, sC_, i64_w, i32_w]
          rfl
        refine take_ (i := 4) (N := some 38) (v := ?_) (a' := ?_) (tf_ 5 22) rfl rfl (take_ofW HT_.out HW_.out (by kernel_rfl)) (fun _ _ _ h => h) (Or.inl ⟨by rfl, ?_⟩) hHeld ?_ ?_
        rotate_left
        · rintro w' ⟨s0, s1, s2⟩
          go_simp
          with_reducible rfl
        rotate_left
        · simp only [Act.put, sA_, sB_, sC_, i64_w, i32_w]
          rfl
        refine pure_ (i := 5) (N := some 39) (v := ?_) (a' := ?_) (tf_ 6 22) rfl rfl (any_of HT_.out (by kernel_rfl)) (fun _ _ _ h => h) (Or.inl ⟨by rfl, ?_⟩) ?_ ?_
        rotate_left
        · intro w'
          go_simp
          with_reducible rfl
        rotate_left
        · simp only [Act.put, sA_, sB_, sC_, i64_w, i32_w]
          rfl
        refine pure_ (i := 6) (N := some 40) (v := ?_) (a' := ?_) (tf_ 7 22) rfl rfl (any_of HT_.out (by kernel_rfl)) (fun _ _ _ h => h) (Or.inl ⟨by rfl, ?_⟩) ?_ ?_
        rotate_left
        · intro w'
          go_simp
          with_reducible rfl
        rotate_left
        · simp only [Act.put, sA_, sB_, sC_, i64_w, i32_w]
          rfl
        refine pure_ (i := 7) (N := some 41) (v := undef) (a' := ?_) (tf_ 8 22) rfl rfl (any_of HT_.out (by kernel_rfl)) (fun _ _ _ h => h) (Or.inr ⟨by rfl, rfl⟩) ?_ ?_
        rotate_left
        · simp only [Act.put, sA_, sB_, sC_, i64_w, i32_w]
          rfl
        refine pure_ (i := 8) (N := some 42) (v := undef) (a' := ?_) (tf_ 9 22) rfl rfl (any_of HT_.out (by kernel_rfl)) (fun _ _ _ h => h) (Or.inr ⟨by rfl, rfl⟩) ?_ ?_
        rotate_left
        · simp only [Act.put, sA_, sB_, sC_, i64_w, i32_w]
          rfl
        refine pure_ (i := 9) (N := some 43) (v := undef) (a' := ?_) (tf_ 10 22) rfl rfl (any_of HT_.out (by kernel_rfl)) (fun _ _ _ h => h) (Or.inr ⟨by rfl, rfl⟩) ?_ ?_
        rotate_left
        · simp only [Act.put, sA_, sB_, sC_, i64_w, i32_w]
          rfl
        refine pure_ (i := 10) (N := some 44) (v := undef) (a' := ?_) (tf_ 11 22) rfl rfl (any_of HT_.out (by kernel_rfl)) (fun _ _ _ h => h) (Or.inr ⟨by rfl, rfl⟩) ?_ ?_
        rotate_left
        · simp only [Act.put, sA_, sB_, sC_, i64_w, i32_w]
          rfl
        refine pure_ (i := 11) (N := some 45) (v := undef) (a' := ?_) (tf_ 12 22) rfl rfl (any_of HT_.out (by kernel_rfl)) (fun _ _ _ h => h) (Or.inr ⟨by rfl, rfl⟩) ?_ ?_
        rotate_left
        · simp only [Act.put, sA_, sB_, sC_, i64_w, i32_w]
          rfl
        refine pure_ (i := 12) (N := some 46) (v := undef) (a' := ?_) (tf_ 13 22) rfl rfl (any_of HT_.out (by kernel_rfl)) (fun _ _ _ h => h) (Or.inr ⟨by rfl, rfl⟩) ?_ ?_
        rotate_left
        · simp only [Act.put, sA_, sB_, sC_, i64_w, i32_w]
          rfl
        refine pure_ (i := 13) (N := some 47) (v := undef) (a' := ?_) (tf_ 14 22) rfl rfl (any_of HT_.out (by kernel_rfl)) (fun _ _ _ h => h) (Or.inr ⟨by rfl, rfl⟩) ?_ ?_
        rotate_left
        · simp only [Act.put, sA_, sB_, sC_, i64_w, i32_w]
          rfl
        refine pure_ (i := 14) (N := some 48) (v := undef) (a' := ?_) (tf_ 15 22) rfl rfl (any_of HT_.out (by kernel_rfl)) (fun _ _ _ h => h) (Or.inr ⟨by rfl, rfl⟩) ?_ ?_
        rotate_left
        · simp only [Act.put, sA_, sB_, sC_, i64_w, i32_w]
          rfl
        refine pure_ (i := 15) (N := some 49) (v := undef) (a' := ?_) (tf_ 16 22) rfl rfl (any_of HT_.out (by kernel_rfl)) (fun _ _ _ h => h) (Or.inr ⟨by rfl, rfl⟩) ?_ ?_
        rotate_left
        · simp only [Act.put, sA_, sB_, sC_, i64_w, i32_w]
          rfl
        refine pure_ (i := 16) (N := some 50) (v := undef) (a' := ?_) (tf_ 17 22) rfl rfl (any_of HT_.out (by kernel_rfl)) (fun _ _ _ h => h) (Or.inr ⟨by rfl, rfl⟩) ?_ ?_
        rotate_left
        · simp only [Act.put, sA_, sB_, sC_, i64_w, i32_w]
          rfl
        refine pure_ (i := 17) (N := some 51) (v := undef) (a' := ?_) (tf_ 18 22) rfl rfl (any_of HT_.out (by kernel_rfl)) (fun _ _ _ h => h) (Or.inr ⟨by rfl, rfl⟩) ?_ ?_
        rotate_left
        · simp only [Act.put, sA_, sB_, sC_, i64_w, i32_w]
          rfl
        refine pure_ (i := 18) (N := some 52) (v := undef) (a' := ?_) (tf_ 19 22) rfl rfl (any_of HT_.out (by kernel_rfl)) (fun _ _ _ h => h) (Or.inr ⟨by rfl, rfl⟩) ?_ ?_
        rotate_left
        · simp only [Act.put, sA_, sB_, sC_, i64_w, i32_w]
          rfl
        refine pure_ (i := 19) (N := some 53) (v := undef) (a' := ?_) (tf_ 20 22) rfl rfl (any_of HT_.out (by kernel_rfl)) (fun _ _ _ h => h) (Or.inr ⟨by rfl, rfl⟩) ?_ ?_
        rotate_left
        · simp only [Act.put, sA_, sB_, sC_, i64_w, i32_w]
          rfl
        refine pure_ (i := 20) (N := some 54) (v := undef) (a' := ?_) (tf_ 21 22) rfl rfl (any_of HT_.out (by kernel_rfl)) (fun _ _ _ h => h) (Or.inr ⟨by rfl, rfl⟩) ?_ ?_
        rotate_left
        · simp only [Act.put, sA_, sB_, sC_, i64_w, i32_w]
          rfl
        refine pure_ (i := 21) (N := some 55) (v := ?_) (a' := ?_) #[true, true, true, true, true, true, true, true, true, true, true, true, true, true, true, true, true, true, true, true, true, true] rfl rfl (any_of HT_.out (by kernel_rfl)) (fun _ _ _ h => h) (Or.inl ⟨by rfl, ?_⟩) ?_ ?_
        rotate_left
        · intro w'
          go_simp
          with_reducible rfl
        rotate_left
        · simp only [Act.put, sA_, sB_, sC_, i64_w, i32_w]
          rfl
        refine done_ (done_of HT_.out (by kernel_rfl)) ?_
        try go_wp2
        go_roundg k2
        case measure => have := HK1.out; have := HK2.out; omega
        case rel => exact ⟨(x10_2), (x12_2), (wrap64 (x12_2 + 1)), (by first | rfl | (simp; done) | (simp [*]; done)), (by first | rfl | (simp; done) | (simp [*]; done)), (by first | rfl | (simp; done) | (simp [*]; done)), H', ⟨by have := HK1.out; have := HK2.out; omega⟩, ⟨by (with_reducible repeat (first | apply Kd.R_alloc | apply Kd.R_drewN | apply Kd.R_drew)); exact HO_9.out⟩, ⟨by (with_reducible repeat (first | refine zB ?_ _ | refine zD ?_ | refine zC ?_ _)); exact BK272.out⟩, ⟨by (with_reducible repeat (first | refine zB ?_ _ | refine zD ?_ | refine zC ?_ _)); exact BK273.out⟩, ⟨by repeat (first | (with_reducible first | exact HB.out | apply zI | apply zE | apply zH | refine zF ?_ GE272.out | refine zF ?_ GE273.out) | exact HB.out)⟩⟩
      rw [if_neg c13] at H; have c13b0 : ((rd l0_1 x12_2) == 0) = false := beq_eq_false_iff_ne.mpr c13
      have c13b1 : ((rd l0_1 x12_2) != 0) = true := bne_iff_ne.mpr c13
      replace H := Option.bind_eq_some_iff.mp H; obtain ⟨t277, A170, H⟩ := H; replace H : (if t277 ≤ a3_0 then (stanzaref13_First.l1 k2 x1_1 a2 x9_1 x12_2 x12_2 (wrap64 (x12_2 + 1)) l0_0 l0_1 a3_0 a3_1 a3_2 a3_3 a3_4 a3_5) else (stanzaref13_First.l1 k2 x1_1 a2 x9_1 x10_2 x12_2 (wrap64 (x12_2 + 1)) l0_0 l0_1 a3_0 a3_1 a3_2 a3_3 a3_4 a3_5)) = some r := H; have A17 := zA.mk A170; clear A170; by_cases c18 : t277 ≤ a3_0
      · rw [if_pos c18] at H
        have c18b0 : decide (t277 ≤ a3_0) = true := decide_eq_true c18
        clear c18; have H' := zA.mk H
        clear H; try go_wp2
        have n0_ := zA.mk (Kd.R_drew HO_9.out); have n1_ := zA.mk (zD BK272.out); have n2_ := zA.mk (zD BK273.out); have n3_ := zA.mk (zH HB.out); clear HO_9; clear BK272; clear BK273; clear HB; have HO_9 := n0_; have BK272 := n1_; have BK273 := n2_; have HB := n3_; clear n0_ n1_ n2_ n3_; refine start_ (n := 9) (S := fun w' => w'.cell? ⟨gb272, 0, none⟩ = some (.slice A0_0 l0_0.length c0_0) ∧ w'.cell? ⟨gb272, 1, none⟩ = some (.slice A0_1 l0_1.length c0_1) ∧ w'.cell? ⟨gb273, 0, none⟩ = some (.int .i64 a3_0) ∧ w'.cell? ⟨gb273, 1, none⟩ = some (.int .i64 a3_1) ∧ w'.cell? ⟨gb273, 2, none⟩ = some (.int .u8 a3_2) ∧ w'.cell? ⟨gb273, 3, none⟩ = some (.int .i64 a3_3) ∧ w'.cell? ⟨gb273, 4, none⟩ = some (.int .i64 a3_4) ∧ w'.cell? ⟨gb273, 5, none⟩ = some (.float .f64 a3_5)) (ds := []) #[false, false, false, false, false, false, false, false, false] (by kernel_rfl) rfl rfl ⟨(zG BK272.out 0).trans rfl, (zG BK272.out 1).trans rfl, (zG BK273.out 0).trans rfl, (zG BK273.out 1).trans rfl, (zG BK273.out 2).trans rfl, (zG BK273.out 3).trans rfl, (zG BK273.out 4).trans rfl, (zG BK273.out 5).trans rfl⟩ (fun hHeld => ?_); refine with_tabW stanzaref13_First.tab7 stanzaref13_First.bits7 (fun HT_ HW_ => ?_)
        generalize wr.drew = w19 at HO_9 BK272 BK273 HB hHeld ⊢
        refine pure_ (i := 1) (N := some 25) (v := ?_) (a' := ?_) #[false, true, false, false, false, false, false, false, false] rfl rfl (any_of HT_.out (by kernel_rfl)) (fun _ _ _ h => h) (Or.inl ⟨by rfl, ?_⟩) ?_ ?_
        rotate_left
        · intro w'
          go_simp
          with_reducible rfl
        rotate_left
        · simp only [Act.put, sA_, sB_, sC_, i64_w, i32_w]
          rfl
        refine pure_ (i := 2) (N := some 26) (v := ?_) (a' := ?_) #[false, true, true, false, false, false, false, false, false] rfl rfl (any_of HT_.out (by kernel_rfl)) (fun _ _ _ h => h) (Or.inl ⟨by rfl, ?_⟩) ?_ ?_
        rotate_left
        · intro w'
          go_simp
          with_reducible rfl
        rotate_left
        · simp only [Act.put, sA_, sB_, sC_, i64_w, i32_w]
          rfl
        refine pure_ (i := 3) (N := some 27) (v := ?_) (a' := ?_) #[false, true, true, true, false, false, false, false, false] rfl rfl (any_of HT_.out (by kernel_rfl)) (fun _ _ _ h => h) (Or.inl ⟨by rfl, ?_⟩) ?_ ?_
        rotate_left
        · intro w'
          go_simp
          with_reducible rfl
        rotate_left
        · simp only [Act.put, sA_, sB_, sC_, i64_w, i32_w]
          rfl
        refine pure_ (i := 6) (N := some 30) (v := ?_) (a' := ?_) #[false, true, true, true, false, false, true, false, false] rfl rfl (any_of HT_.out (by kernel_rfl)) (fun _ _ _ h => h) (Or.inl ⟨by rfl, ?_⟩) ?_ ?_
        rotate_left
        · intro w'
          go_simp
          with_reducible rfl
        rotate_left
        · simp only [Act.put, sA_, sB_, sC_, i64_w, i32_w]
          rfl
        refine take_ (i := 0) (N := some 24) (v := ?_) (a' := ?_) #[true, true, true, true, false, false, true, false, false] rfl rfl (take_ofW HT_.out HW_.out (by kernel_rfl)) (fun _ _ _ h => h) (Or.inl ⟨by rfl, ?_⟩) hHeld ?_ ?_
        rotate_left
        · rintro w' ⟨s0, s1, s2, s3, s4, s5, s6, s7⟩
          go_simp
          with_reducible rfl
        rotate_left
        · simp only [Act.put, sA_, sB_, sC_, i64_w, i32_w]
          rfl
        refine take_ (i := 4) (N := some 28) (v := ?_) (a' := ?_) #[true, true, true, true, true, false, true, false, false] rfl rfl (take_ofW HT_.out HW_.out (by kernel_rfl)) (fun _ _ _ h => h) (Or.inl ⟨by rfl, ?_⟩) hHeld ?_ ?_
        rotate_left
        · rintro w' ⟨s0, s1, s2, s3, s4, s5, s6, s7⟩
          go_simp
          with_reducible rfl
        rotate_left
        · simp only [Act.put, sA_, sB_, sC_, i64_w, i32_w]
          rfl
        refine take_ (i := 7) (N := some 31) (v := ?_) (a' := ?_) #[true, true, true, true, true, false, true, true, false] rfl rfl (take_ofW HT_.out HW_.out (by kernel_rfl)) (fun _ _ _ h => h) (Or.inl ⟨by rfl, ?_⟩) hHeld ?_ ?_
        rotate_left
        · rintro w' ⟨s0, s1, s2, s3, s4, s5, s6, s7⟩
          go_simp
          with_reducible rfl
        rotate_left
        · simp only [Act.put, sA_, sB_, sC_, i64_w, i32_w]
          rfl
        refine one_ (i := 5) (N := some 29) #[true, true, true, true, true, true, true, true, false] rfl rfl (one_of HT_.out (by kernel_rfl)) (by decide) (fun K hK => ?_)
        refine goes_ Try.func30 (by kernel_rfl) rfl #[.agg #[.slice A0_0 l0_0.length c0_0, .slice A0_1 l0_1.length c0_1], .int .i64 x1_1, .int .i64 x12_2, .int .u8 0, .int .i64 a3_1] (by rfl) rfl rfl (by (try simp only [List.map_toArray, List.map_cons, List.map_nil]); first | done | rfl | (simp only [List.length_drop, List.length_take]; rfl)) ?_
        with_reducible refine (stanzaref13_Cells.calls k2 _ _ l0_0 _ _ l0_1 x1_1 x12_2 0 a3_1 t274 _ ?side1 ?side2 ?side3 ?side4 A9.out).mono ?_
        (case side1 => repeat (first | exact (Kd.C_below HR0_0.out HB.out) | (with_reducible refine Kd.C_alloc ?_ _) | (with_reducible refine Kd.C_drewN ?_ _) | (with_reducible refine Kd.C_drew ?_)))
        (case side2 => exact HC0_0.out)
        (case side3 => repeat (first | exact (Kd.C_below HR0_1.out HB.out) | (with_reducible refine Kd.C_alloc ?_ _) | (with_reducible refine Kd.C_drewN ?_ _) | (with_reducible refine Kd.C_drew ?_)))
        (case side4 => exact HC0_1.out)
        rintro e w20 ⟨rfl, hb⟩
        refine ⟨_, rfl, ?_⟩
        have n0_ := zA.mk (Kd.R_below (by (with_reducible repeat (first | apply Kd.R_alloc | apply Kd.R_drewN | apply Kd.R_drew)); exact HO_9.out) hb)
        have n1_ := zA.mk (zL (g := gb272) (o := .cells #[.slice A0_0 l0_0.length c0_0, .slice A0_1 l0_1.length c0_1] 31 (0, 0)) (by (with_reducible repeat (first | refine zB ?_ _ | refine zD ?_ | refine zC ?_ _)); exact BK272.out) hb)
        have n2_ := zA.mk (zL (g := gb273) (o := .cells #[.int .i64 a3_0, .int .i64 a3_1, .int .u8 a3_2, .int .i64 a3_3, .int .i64 a3_4, .float .f64 a3_5] 35 (0, 0)) (by (with_reducible repeat (first | refine zB ?_ _ | refine zD ?_ | refine zC ?_ _)); exact BK273.out) hb)
        have n3_ := zA.mk (zM (by repeat (first | (with_reducible first | exact HB.out | apply zI | apply zE | apply zH | refine zF ?_ GE272.out | refine zF ?_ GE273.out) | exact HB.out)) hb)
        clear HO_9 BK272 BK273 HB; have HO_9 := n0_; have BK272 := n1_; have BK273 := n2_; have HB := n3_; clear n0_ n1_ n2_ n3_; (try clear hb)
        (try clear hb2)
        (try clear hk)
        (try clear hi)
        refine hK.out _ _ ⟨(zG BK272.out 0).trans rfl, (zG BK272.out 1).trans rfl, (zG BK273.out 0).trans rfl, (zG BK273.out 1).trans rfl, (zG BK273.out 2).trans rfl, (zG BK273.out 3).trans rfl, (zG BK273.out 4).trans rfl, (zG BK273.out 5).trans rfl⟩ (fun hHeld => ?_)
        clear hK K; refine norm_ (a' := ?_) ?_ ?_
        rotate_left
        · show Act.put _ (some 29) _ = _
          simp only [Act.put, sA_, sB_, sC_, i64_w, i32_w]; rfl
        refine pure_ (i := 8) (N := some 32) (v := ?_) (a' := ?_) #[true, true, true, true, true, true, true, true, true] rfl rfl (any_of HT_.out (by kernel_rfl)) (fun _ _ _ h => h) (Or.inl ⟨by rfl, ?_⟩) ?_ ?_
        rotate_left
        · intro w'
          go_simp
          with_reducible rfl
        rotate_left
        · simp only [Act.put, sA_, sB_, sC_, i64_w, i32_w]
          rfl
        refine done_ (done_of HT_.out (by kernel_rfl)) ?_
        try go_wp2
        have n0_ := zA.mk (Kd.R_drew HO_9.out); have n1_ := zA.mk (zD BK272.out); have n2_ := zA.mk (zD BK273.out); have n3_ := zA.mk (zH HB.out); clear HO_9; clear BK272; clear BK273; clear HB; have HO_9 := n0_; have BK272 := n1_; have BK273 := n2_; have HB := n3_; clear n0_ n1_ n2_ n3_; have p275 : 0 ≤ (x12_2 : Int) := of_decide_eq_true (by first | (with_reducible assumption) | assumption)
        have q275 : x12_2 < (l0_1.length : Int) := of_decide_eq_true (by first | (with_reducible assumption) | assumption)
        obtain ⟨ad275, e275, hx275_0⟩ := Kd.at_int HR0_1.out x12_2 p275 q275; have hw275_0 := hx275_0; cases e275
        replace hx275_0 := (HB.out.cell (World.block_lt_of_cell? w _ hx275_0)).trans hx275_0; replace p275 := eq_true p275; replace q275 := eq_true q275; have p276 : 0 ≤ (x12_2 : Int) := of_decide_eq_true (by first | (with_reducible assumption) | assumption)
        have q276 : x12_2 < (l0_1.length : Int) := of_decide_eq_true (by first | (with_reducible assumption) | assumption)
        obtain ⟨ad276, e276, hx276_0⟩ := Kd.at_int HR0_1.out x12_2 p276 q276; have hw276_0 := hx276_0; obtain rfl : ad275 = ad276 := (by injection e276)
        replace hx276_0 := (HB.out.cell (World.block_lt_of_cell? w _ hx276_0)).trans hx276_0; replace p276 := eq_true p276; replace q276 := eq_true q276; refine start_ (n := 22) (S := fun w' => w'.cell? ⟨gb272, 0, none⟩ = some (.slice A0_0 l0_0.length c0_0) ∧ w'.cell? ⟨gb272, 1, none⟩ = some (.slice (some ad275) l0_1.length c0_1) ∧ w'.cell? ⟨gb273, 0, none⟩ = some (.int .i64 a3_0) ∧ w'.cell? ⟨gb273, 1, none⟩ = some (.int .i64 a3_1) ∧ w'.cell? ⟨gb273, 2, none⟩ = some (.int .u8 a3_2) ∧ w'.cell? ⟨gb273, 3, none⟩ = some (.int .i64 a3_3) ∧ w'.cell? ⟨gb273, 4, none⟩ = some (.int .i64 a3_4) ∧ w'.cell? ⟨gb273, 5, none⟩ = some (.float .f64 a3_5) ∧ w'.cell? (ad275.add (x12_2).toNat) = some (.int .u8 (rd l0_1 x12_2)) ∧ w'.cell? (ad275.add (x12_2).toNat) = some (.int .u8 (rd l0_1 x12_2))) (ds := []) #[false, false, false, false, false, false, false, false, false, false, false, false, false, false, false, false, false, false, false, false, false, false] (by kernel_rfl) rfl rfl ⟨(zG BK272.out 0).trans rfl, (zG BK272.out 1).trans rfl, (zG BK273.out 0).trans rfl, (zG BK273.out 1).trans rfl, (zG BK273.out 2).trans rfl, (zG BK273.out 3).trans rfl, (zG BK273.out 4).trans rfl, (zG BK273.out 5).trans rfl, ((HB.out.cell (World.block_lt_of_cell? w _ hw275_0)).trans hw275_0), ((HB.out.cell (World.block_lt_of_cell? w _ hw276_0)).trans hw276_0)⟩ (fun hHeld => ?_); refine with_tabW stanzaref13_First.tab9 stanzaref13_First.bits9 (fun HT_ HW_ => ?_)
        generalize w20.drew = w21 at HO_9 BK272 BK273 HB hx275_0 hx276_0 hHeld ⊢
        refine pure_ (i := 0) (N := some 34) (v := ?_) (a' := ?_) (tf_ 1 22) rfl rfl (any_of HT_.out (by kernel_rfl)) (fun _ _ _ h => h) (Or.inl ⟨by rfl, ?_⟩) ?_ ?_
        rotate_left
        · intro w'
          go_simp
          with_reducible rfl
        rotate_left
        · simp only [Act.put, sA_, sB_, sC_, i64_w, i32_w]
          rfl
        refine pure_ (i := 2) (N := some 36) (v := ?_) (a' := ?_) #[true, false, true, false, false, false, false, false, false, false, false, false, false, false, false, false, false, false, false, false, false, false] rfl rfl (any_of HT_.out (by kernel_rfl)) (fun _ _ _ h => h) (Or.inl ⟨by rfl, ?_⟩) ?_ ?_
        rotate_left
        · intro w'
          go_simp
          with_reducible rfl
        rotate_left
        · simp only [Act.put, sA_, sB_, sC_, i64_w, i32_w]
          rfl
        refine take_ (i := 1) (N := some 35) (v := ?_) (a' := ?_) (tf_ 3 22) rfl rfl (take_ofW HT_.out HW_.out (by kernel_rfl)) (fun _ _ _ h => h) (Or.inl ⟨by rfl, ?_⟩) hHeld ?_ ?_
        rotate_left
        · rintro w' ⟨s0, s1, s2, s3, s4, s5, s6, s7, s8, s9⟩
          go_simp
          with_reducible rfl
        rotate_left
        · simp only [Act.put, sA_, sB_, sC_, i64_w, i32_w]
          rfl
        refine pure_ (i := 3) (N := some 37) (v := ?_) (a' := ?_) (tf_ 4 22) rfl rfl (any_of HT_.out (by kernel_rfl)) (fun _ _ _ h => h) (Or.inl ⟨by rfl, ?_⟩) ?_ ?_
        rotate_left
        · intro w'
          go_simp
          with_reducible rfl
        rotate_left
        · simp only [Act.put, sA_, sB_, sC_, i64_w, i32_w]
          rfl
        refine take_ (i := 4) (N := some 38) (v := ?_) (a' := ?_) (tf_ 5 22) rfl rfl (take_ofW HT_.out HW_.out (by kernel_rfl)) (fun _ _ _ h => h) (Or.inl ⟨by rfl, ?_⟩) hHeld ?_ ?_
        rotate_left
        · rintro w' ⟨s0, s1, s2, s3, s4, s5, s6, s7, s8, s9⟩
          go_simp
          with_reducible rfl
        rotate_left
        · simp only [Act.put, sA_, sB_, sC_, i64_w, i32_w]
          rfl
        refine pure_ (i := 5) (N := some 39) (v := ?_) (a' := ?_) (tf_ 6 22) rfl rfl (any_of HT_.out (by kernel_rfl)) (fun _ _ _ h => h) (Or.inl ⟨by rfl, ?_⟩) ?_ ?_
        rotate_left
        · intro w'
          go_simp
          with_reducible rfl
        rotate_left
        · simp only [Act.put, sA_, sB_, sC_, i64_w, i32_w]
          rfl
        refine pure_ (i := 6) (N := some 40) (v := ?_) (a' := ?_) (tf_ 7 22) rfl rfl (any_of HT_.out (by kernel_rfl)) (fun _ _ _ h => h) (Or.inl ⟨by rfl, ?_⟩) ?_ ?_
        rotate_left
        · intro w'
          go_simp
          with_reducible rfl
        rotate_left
        · simp only [Act.put, sA_, sB_, sC_, i64_w, i32_w]
          rfl
        refine pure_ (i := 8) (N := some 42) (v := ?_) (a' := ?_) #[true, true, true, true, true, true, true, false, true, false, false, false, false, false, false, false, false, false, false, false, false, false] rfl rfl (any_of HT_.out (by kernel_rfl)) (fun _ _ _ h => h) (Or.inl ⟨by rfl, ?_⟩) ?_ ?_
        rotate_left
        · intro w'
          go_simp
          with_reducible rfl
        rotate_left
        · simp only [Act.put, sA_, sB_, sC_, i64_w, i32_w]
          rfl
        refine pure_ (i := 9) (N := some 43) (v := ?_) (a' := ?_) #[true, true, true, true, true, true, true, false, true, true, false, false, false, false, false, false, false, false, false, false, false, false] rfl rfl (any_of HT_.out (by kernel_rfl)) (fun _ _ _ h => h) (Or.inl ⟨by rfl, ?_⟩) ?_ ?_
        rotate_left
        · intro w'
          go_simp
          with_reducible rfl
        rotate_left
        · simp only [Act.put, sA_, sB_, sC_, i64_w, i32_w]
          rfl
        refine pure_ (i := 10) (N := some 44) (v := ?_) (a' := ?_) #[true, true, true, true, true, true, true, false, true, true, true, false, false, false, false, false, false, false, false, false, false, false] rfl rfl (any_of HT_.out (by kernel_rfl)) (fun _ _ _ h => h) (Or.inl ⟨by rfl, ?_⟩) ?_ ?_
        rotate_left
        · intro w'
          go_simp
          with_reducible rfl
        rotate_left
        · simp only [Act.put, sA_, sB_, sC_, i64_w, i32_w]
          rfl
        refine pure_ (i := 12) (N := some 46) (v := ?_) (a' := ?_) #[true, true, true, true, true, true, true, false, true, true, true, false, true, false, false, false, false, false, false, false, false, false] rfl rfl (any_of HT_.out (by kernel_rfl)) (fun _ _ _ h => h) (Or.inl ⟨by rfl, ?_⟩) ?_ ?_
        rotate_left
        · intro w'
          go_simp
          with_reducible rfl
        rotate_left
        · simp only [Act.put, sA_, sB_, sC_, i64_w, i32_w]
          rfl
        refine pure_ (i := 15) (N := some 49) (v := ?_) (a' := ?_) #[true, true, true, true, true, true, true, false, true, true, true, false, true, false, false, true, false, false, false, false, false, false] rfl rfl (any_of HT_.out (by kernel_rfl)) (fun _ _ _ h => h) (Or.inl ⟨by rfl, ?_⟩) ?_ ?_
        rotate_left
        · intro w'
          go_simp
          with_reducible rfl
        rotate_left
        · simp only [Act.put, sA_, sB_, sC_, i64_w, i32_w]
          rfl
        refine pure_ (i := 18) (N := some 52) (v := ?_) (a' := ?_) #[true, true, true, true, true, true, true, false, true, true, true, false, true, false, false, true, false, false, true, false, false, false] rfl rfl (any_of HT_.out (by kernel_rfl)) (fun _ _ _ h => h) (Or.inl ⟨by rfl, ?_⟩) ?_ ?_
        rotate_left
        · intro w'
          go_simp
          with_reducible rfl
        rotate_left
        · simp only [Act.put, sA_, sB_, sC_, i64_w, i32_w]
          rfl
        refine take_ (i := 7) (N := some 41) (v := ?_) (a' := ?_) #[true, true, true, true, true, true, true, true, true, true, true, false, true, false, false, true, false, false, true, false, false, false] rfl rfl (take_ofW HT_.out HW_.out (by kernel_rfl)) (fun _ _ _ h => h) (Or.inl ⟨by rfl, ?_⟩) hHeld ?_ ?_
        rotate_left
        · rintro w' ⟨s0, s1, s2, s3, s4, s5, s6, s7, s8, s9⟩
          go_simp
          with_reducible rfl
        rotate_left
        · simp only [Act.put, sA_, sB_, sC_, i64_w, i32_w]
          rfl
        refine take_ (i := 11) (N := some 45) (v := ?_) (a' := ?_) #[true, true, true, true, true, true, true, true, true, true, true, true, true, false, false, true, false, false, true, false, false, false] rfl rfl (take_ofW HT_.out HW_.out (by kernel_rfl)) (fun _ _ _ h => h) (Or.inl ⟨by rfl, ?_⟩) hHeld ?_ ?_
        rotate_left
        · rintro w' ⟨s0, s1, s2, s3, s4, s5, s6, s7, s8, s9⟩
          go_simp
          with_reducible rfl
        rotate_left
        · simp only [Act.put, sA_, sB_, sC_, i64_w, i32_w]
          rfl
        refine pure_ (i := 13) (N := some 47) (v := ?_) (a' := ?_) #[true, true, true, true, true, true, true, true, true, true, true, true, true, true, false, true, false, false, true, false, false, false] rfl rfl (any_of HT_.out (by kernel_rfl)) (fun _ _ _ h => h) (Or.inl ⟨by rfl, ?_⟩) ?_ ?_
        rotate_left
        · intro w'
          go_simp
          with_reducible rfl
        rotate_left
        · simp only [Act.put, sA_, sB_, sC_, i64_w, i32_w]
          rfl
        refine take_ (i := 14) (N := some 48) (v := ?_) (a' := ?_) #[true, true, true, true, true, true, true, true, true, true, true, true, true, true, true, true, false, false, true, false, false, false] rfl rfl (take_ofW HT_.out HW_.out (by kernel_rfl)) (fun _ _ _ h => h) (Or.inl ⟨by rfl, ?_⟩) hHeld ?_ ?_
        rotate_left
        · rintro w' ⟨s0, s1, s2, s3, s4, s5, s6, s7, s8, s9⟩
          go_simp
          with_reducible rfl
        rotate_left
        · simp only [Act.put, sA_, sB_, sC_, i64_w, i32_w]
          rfl
        refine take_ (i := 16) (N := some 50) (v := ?_) (a' := ?_) #[true, true, true, true, true, true, true, true, true, true, true, true, true, true, true, true, true, false, true, false, false, false] rfl rfl (take_ofW HT_.out HW_.out (by kernel_rfl)) (fun _ _ _ h => h) (Or.inl ⟨by rfl, ?_⟩) hHeld ?_ ?_
        rotate_left
        · rintro w' ⟨s0, s1, s2, s3, s4, s5, s6, s7, s8, s9⟩
          go_simp
          with_reducible rfl
        rotate_left
        · simp only [Act.put, sA_, sB_, sC_, i64_w, i32_w]
          rfl
        refine take_ (i := 19) (N := some 53) (v := ?_) (a' := ?_) #[true, true, true, true, true, true, true, true, true, true, true, true, true, true, true, true, true, false, true, true, false, false] rfl rfl (take_ofW HT_.out HW_.out (by kernel_rfl)) (fun _ _ _ h => h) (Or.inl ⟨by rfl, ?_⟩) hHeld ?_ ?_
        rotate_left
        · rintro w' ⟨s0, s1, s2, s3, s4, s5, s6, s7, s8, s9⟩
          go_simp
          with_reducible rfl
        rotate_left
        · simp only [Act.put, sA_, sB_, sC_, i64_w, i32_w]
          rfl
        refine one_ (i := 17) (N := some 51) #[true, true, true, true, true, true, true, true, true, true, true, true, true, true, true, true, true, true, true, true, false, false] rfl rfl (one_of HT_.out (by kernel_rfl)) (by decide) (fun K hK => ?_)
        refine goes_ Try.func30 (by kernel_rfl) rfl #[.agg #[.slice A0_0 l0_0.length c0_0, .slice (some ad275) l0_1.length c0_1], .int .i64 x1_1, .int .i64 x12_2, .int .u8 (rd l0_1 x12_2), .int .i64 a3_1] (by rfl) rfl rfl (by (try simp only [List.map_toArray, List.map_cons, List.map_nil]); first | done | rfl | (simp only [List.length_drop, List.length_take]; rfl)) ?_
        with_reducible refine (stanzaref13_Cells.calls k2 _ _ l0_0 _ _ l0_1 x1_1 x12_2 (rd l0_1 x12_2) a3_1 t277 _ ?side1 ?side2 ?side3 ?side4 A17.out).mono ?_
        (case side1 => repeat (first | exact (Kd.C_below HR0_0.out HB.out) | (with_reducible refine Kd.C_alloc ?_ _) | (with_reducible refine Kd.C_drewN ?_ _) | (with_reducible refine Kd.C_drew ?_)))
        (case side2 => exact HC0_0.out)
        (case side3 => repeat (first | exact (Kd.C_below HR0_1.out HB.out) | (with_reducible refine Kd.C_alloc ?_ _) | (with_reducible refine Kd.C_drewN ?_ _) | (with_reducible refine Kd.C_drew ?_)))
        (case side4 => exact HC0_1.out)
        rintro e w22 ⟨rfl, hb⟩
        refine ⟨_, rfl, ?_⟩
        have n0_ := zA.mk (Kd.R_below (by (with_reducible repeat (first | apply Kd.R_alloc | apply Kd.R_drewN | apply Kd.R_drew)); exact HO_9.out) hb)
        have n1_ := zA.mk (zL (g := gb272) (o := .cells #[.slice A0_0 l0_0.length c0_0, .slice (some ad275) l0_1.length c0_1] 31 (0, 0)) (by (with_reducible repeat (first | refine zB ?_ _ | refine zD ?_ | refine zC ?_ _)); exact BK272.out) hb)
        have n2_ := zA.mk (zL (g := gb273) (o := .cells #[.int .i64 a3_0, .int .i64 a3_1, .int .u8 a3_2, .int .i64 a3_3, .int .i64 a3_4, .float .f64 a3_5] 35 (0, 0)) (by (with_reducible repeat (first | refine zB ?_ _ | refine zD ?_ | refine zC ?_ _)); exact BK273.out) hb)
        have n3_ := zA.mk (zM (by repeat (first | (with_reducible first | exact HB.out | apply zI | apply zE | apply zH | refine zF ?_ GE272.out | refine zF ?_ GE273.out) | exact HB.out)) hb)
        clear HO_9 BK272 BK273 HB; have HO_9 := n0_; have BK272 := n1_; have BK273 := n2_; have HB := n3_; clear n0_ n1_ n2_ n3_; (try clear hb)
        (try clear hb2)
        (try clear hk)
        (try clear hi)
        refine hK.out _ _ ⟨(zG BK272.out 0).trans rfl, (zG BK272.out 1).trans rfl, (zG BK273.out 0).trans rfl, (zG BK273.out 1).trans rfl, (zG BK273.out 2).trans rfl, (zG BK273.out 3).trans rfl, (zG BK273.out 4).trans rfl, (zG BK273.out 5).trans rfl, ((HB.out.cell (World.block_lt_of_cell? w _ hw275_0)).trans hw275_0), ((HB.out.cell (World.block_lt_of_cell? w _ hw276_0)).trans hw276_0)⟩ (fun hHeld => ?_)
        clear hK K; refine norm_ (a' := ?_) ?_ ?_
        rotate_left
        · show Act.put _ (some 51) _ = _
          simp only [Act.put, sA_, sB_, sC_, i64_w, i32_w]; rfl
        refine pure_ (i := 20) (N := some 54) (v := ?_) (a' := ?_) (tf_ 21 22) rfl rfl (any_of HT_.out (by kernel_rfl)) (fun _ _ _ h => h) (Or.inl ⟨by rfl, ?_⟩) ?_ ?_
        rotate_left
        · intro w'
          go_simp
          with_reducible rfl
        rotate_left
        · simp only [Act.put, sA_, sB_, sC_, i64_w, i32_w]
          rfl
        refine pure_ (i := 21) (N := some 55) (v := ?_) (a' := ?_) #[true, true, true, true, true, true, true, true, true, true, true, true, true, true, true, true, true, true, true, true, true, true] rfl rfl (any_of HT_.out (by kernel_rfl)) (fun _ _ _ h => h) (Or.inl ⟨by rfl, ?_⟩) ?_ ?_
        rotate_left
        · intro w'
          go_simp
          with_reducible rfl
        rotate_left
        · simp only [Act.put, sA_, sB_, sC_, i64_w, i32_w]
          rfl
        refine done_ (done_of HT_.out (by kernel_rfl)) ?_
        try go_wp2
        go_roundg k2
        case measure => have := HK1.out; have := HK2.out; omega
        case rel => exact ⟨(x12_2), (x12_2), (wrap64 (x12_2 + 1)), (by first | rfl | (simp; done) | (simp [*]; done)), (by first | rfl | (simp; done) | (simp [*]; done)), (by first | rfl | (simp; done) | (simp [*]; done)), H', ⟨by have := HK1.out; have := HK2.out; omega⟩, ⟨by (with_reducible repeat (first | apply Kd.R_alloc | apply Kd.R_drewN | apply Kd.R_drew)); exact HO_9.out⟩, ⟨by (with_reducible repeat (first | refine zB ?_ _ | refine zD ?_ | refine zC ?_ _)); exact BK272.out⟩, ⟨by (with_reducible repeat (first | refine zB ?_ _ | refine zD ?_ | refine zC ?_ _)); exact BK273.out⟩, ⟨by repeat (first | (with_reducible first | exact HB.out | apply zI | apply zE | apply zH | refine zF ?_ GE272.out | refine zF ?_ GE273.out) | exact HB.out)⟩⟩
      rw [if_neg c18] at H; have c18b0 : decide (t277 ≤ a3_0) = false := decide_eq_false c18
      clear c18; have H' := zA.mk H
      clear H; try go_wp2
      have n0_ := zA.mk (Kd.R_drew HO_9.out); have n1_ := zA.mk (zD BK272.out); have n2_ := zA.mk (zD BK273.out); have n3_ := zA.mk (zH HB.out); clear HO_9; clear BK272; clear BK273; clear HB; have HO_9 := n0_; have BK272 := n1_; have BK273 := n2_; have HB := n3_; clear n0_ n1_ n2_ n3_; refine start_ (n := 9) (S := fun w' => w'.cell? ⟨gb272, 0, none⟩ = some (.slice A0_0 l0_0.length c0_0) ∧ w'.cell? ⟨gb272, 1, none⟩ = some (.slice A0_1 l0_1.length c0_1) ∧ w'.cell? ⟨gb273, 0, none⟩ = some (.int .i64 a3_0) ∧ w'.cell? ⟨gb273, 1, none⟩ = some (.int .i64 a3_1) ∧ w'.cell? ⟨gb273, 2, none⟩ = some (.int .u8 a3_2) ∧ w'.cell? ⟨gb273, 3, none⟩ = some (.int .i64 a3_3) ∧ w'.cell? ⟨gb273, 4, none⟩ = some (.int .i64 a3_4) ∧ w'.cell? ⟨gb273, 5, none⟩ = some (.float .f64 a3_5)) (ds := []) #[false, false, false, false, false, false, false, false, false] (by kernel_rfl) rfl rfl ⟨(zG BK272.out 0).trans rfl, (zG BK272.out 1).trans rfl, (zG BK273.out 0).trans rfl, (zG BK273.out 1).trans rfl, (zG BK273.out 2).trans rfl, (zG BK273.out 3).trans rfl, (zG BK273.out 4).trans rfl, (zG BK273.out 5).trans rfl⟩ (fun hHeld => ?_); refine with_tabW stanzaref13_First.tab7 stanzaref13_First.bits7 (fun HT_ HW_ => ?_)
      generalize wr.drew = w23 at HO_9 BK272 BK273 HB hHeld ⊢
      refine pure_ (i := 1) (N := some 25) (v := ?_) (a' := ?_) #[false, true, false, false, false, false, false, false, false] rfl rfl (any_of HT_.out (by kernel_rfl)) (fun _ _ _ h => h) (Or.inl ⟨by rfl, ?_⟩) ?_ ?_
      rotate_left
      · intro w'
        go_simp
        with_reducible rfl
      rotate_left
      · simp only [Act.put, sA_, sB_, sC_, i64_w, i32_w]
        rfl
      refine pure_ (i := 2) (N := some 26) (v := ?_) (a' := ?_) #[false, true, true, false, false, false, false, false, false] rfl rfl (any_of HT_.out (by kernel_rfl)) (fun _ _ _ h => h) (Or.inl ⟨by rfl, ?_⟩) ?_ ?_
      rotate_left
      · intro w'
        go_simp
        with_reducible rfl
      rotate_left
      · simp only [Act.put, sA_, sB_, sC_, i64_w, i32_w]
        rfl
      refine pure_ (i := 3) (N := some 27) (v := ?_) (a' := ?_) #[false, true, true, true, false, false, false, false, false] rfl rfl (any_of HT_.out (by kernel_rfl)) (fun _ _ _ h => h) (Or.inl ⟨by rfl, ?_⟩) ?_ ?_
      rotate_left
      · intro w'
        go_simp
        with_reducible rfl
      rotate_left
      · simp only [Act.put, sA_, sB_, sC_, i64_w, i32_w]
        rfl
      refine pure_ (i := 6) (N := some 30) (v := ?_) (a' := ?_) #[false, true, true, true, false, false, true, false, false] rfl rfl (any_of HT_.out (by kernel_rfl)) (fun _ _ _ h => h) (Or.inl ⟨by rfl, ?_⟩) ?_ ?_
      rotate_left
      · intro w'
        go_simp
        with_reducible rfl
      rotate_left
      · simp only [Act.put, sA_, sB_, sC_, i64_w, i32_w]
        rfl
      refine take_ (i := 0) (N := some 24) (v := ?_) (a' := ?_) #[true, true, true, true, false, false, true, false, false] rfl rfl (take_ofW HT_.out HW_.out (by kernel_rfl)) (fun _ _ _ h => h) (Or.inl ⟨by rfl, ?_⟩) hHeld ?_ ?_
      rotate_left
      · rintro w' ⟨s0, s1, s2, s3, s4, s5, s6, s7⟩
        go_simp
        with_reducible rfl
      rotate_left
      · simp only [Act.put, sA_, sB_, sC_, i64_w, i32_w]
        rfl
      refine take_ (i := 4) (N := some 28) (v := ?_) (a' := ?_) #[true, true, true, true, true, false, true, false, false] rfl rfl (take_ofW HT_.out HW_.out (by kernel_rfl)) (fun _ _ _ h => h) (Or.inl ⟨by rfl, ?_⟩) hHeld ?_ ?_
      rotate_left
      · rintro w' ⟨s0, s1, s2, s3, s4, s5, s6, s7⟩
        go_simp
        with_reducible rfl
      rotate_left
      · simp only [Act.put, sA_, sB_, sC_, i64_w, i32_w]
        rfl
      refine take_ (i := 7) (N := some 31) (v := ?_) (a' := ?_) #[true, true, true, true, true, false, true, true, false] rfl rfl (take_ofW HT_.out HW_.out (by kernel_rfl)) (fun _ _ _ h => h) (Or.inl ⟨by rfl, ?_⟩) hHeld ?_ ?_
      rotate_left
      · rintro w' ⟨s0, s1, s2, s3, s4, s5, s6, s7⟩
        go_simp
        with_reducible rfl
      rotate_left
      · simp only [Act.put, sA_, sB_, sC_, i64_w, i32_w]
        rfl
      refine one_ (i := 5) (N := some 29) #[true, true, true, true, true, true, true, true, false] rfl rfl (one_of HT_.out (by kernel_rfl)) (by decide) (fun K hK => ?_)
      refine goes_ Try.func30 (by kernel_rfl) rfl #[.agg #[.slice A0_0 l0_0.length c0_0, .slice A0_1 l0_1.length c0_1], .int .i64 x1_1, .int .i64 x12_2, .int .u8 0, .int .i64 a3_1] (by rfl) rfl rfl (by (try simp only [List.map_toArray, List.map_cons, List.map_nil]); first | done | rfl | (simp only [List.length_drop, List.length_take]; rfl)) ?_
      with_reducible refine (stanzaref13_Cells.calls k2 _ _ l0_0 _ _ l0_1 x1_1 x12_2 0 a3_1 t274 _ ?side1 ?side2 ?side3 ?side4 A9.out).mono ?_
      (case side1 => repeat (first | exact (Kd.C_below HR0_0.out HB.out) | (with_reducible refine Kd.C_alloc ?_ _) | (with_reducible refine Kd.C_drewN ?_ _) | (with_reducible refine Kd.C_drew ?_)))
      (case side2 => exact HC0_0.out)
      (case side3 => repeat (first | exact (Kd.C_below HR0_1.out HB.out) | (with_reducible refine Kd.C_alloc ?_ _) | (with_reducible refine Kd.C_drewN ?_ _) | (with_reducible refine Kd.C_drew ?_)))
      (case side4 => exact HC0_1.out)
      rintro e w24 ⟨rfl, hb⟩
      refine ⟨_, rfl, ?_⟩
      have n0_ := zA.mk (Kd.R_below (by (with_reducible repeat (first | apply Kd.R_alloc | apply Kd.R_drewN | apply Kd.R_drew)); exact HO_9.out) hb)
      have n1_ := zA.mk (zL (g := gb272) (o := .cells #[.slice A0_0 l0_0.length c0_0, .slice A0_1 l0_1.length c0_1] 31 (0, 0)) (by (with_reducible repeat (first | refine zB ?_ _ | refine zD ?_ | refine zC ?_ _)); exact BK272.out) hb)
      have n2_ := zA.mk (zL (g := gb273) (o := .cells #[.int .i64 a3_0, .int .i64 a3_1, .int .u8 a3_2, .int .i64 a3_3, .int .i64 a3_4, .float .f64 a3_5] 35 (0, 0)) (by (with_reducible repeat (first | refine zB ?_ _ | refine zD ?_ | refine zC ?_ _)); exact BK273.out) hb)
      have n3_ := zA.mk (zM (by repeat (first | (with_reducible first | exact HB.out | apply zI | apply zE | apply zH | refine zF ?_ GE272.out | refine zF ?_ GE273.out) | exact HB.out)) hb)
      clear HO_9 BK272 BK273 HB; have HO_9 := n0_; have BK272 := n1_; have BK273 := n2_; have HB := n3_; clear n0_ n1_ n2_ n3_; (try clear hb)
      (try clear hb2)
      (try clear hk)
      (try clear hi)
      refine hK.out _ _ ⟨(zG BK272.out 0).trans rfl, (zG BK272.out 1).trans rfl, (zG BK273.out 0).trans rfl, (zG BK273.out 1).trans rfl, (zG BK273.out 2).trans rfl, (zG BK273.out 3).trans rfl, (zG BK273.out 4).trans rfl, (zG BK273.out 5).trans rfl⟩ (fun hHeld => ?_)
      clear hK K; refine norm_ (a' := ?_) ?_ ?_
      rotate_left
      · show Act.put _ (some 29) _ = _
        simp only [Act.put, sA_, sB_, sC_, i64_w, i32_w]; rfl
      refine pure_ (i := 8) (N := some 32) (v := ?_) (a' := ?_) #[true, true, true, true, true, true, true, true, true] rfl rfl (any_of HT_.out (by kernel_rfl)) (fun _ _ _ h => h) (Or.inl ⟨by rfl, ?_⟩) ?_ ?_
      rotate_left
      · intro w'
        go_simp
        with_reducible rfl
      rotate_left
      · simp only [Act.put, sA_, sB_, sC_, i64_w, i32_w]
        rfl
      refine done_ (done_of HT_.out (by kernel_rfl)) ?_
      try go_wp2
      have n0_ := zA.mk (Kd.R_drew HO_9.out); have n1_ := zA.mk (zD BK272.out); have n2_ := zA.mk (zD BK273.out); have n3_ := zA.mk (zH HB.out); clear HO_9; clear BK272; clear BK273; clear HB; have HO_9 := n0_; have BK272 := n1_; have BK273 := n2_; have HB := n3_; clear n0_ n1_ n2_ n3_; have p275 : 0 ≤ (x12_2 : Int) := of_decide_eq_true (by first | (with_reducible assumption) | assumption)
      have q275 : x12_2 < (l0_1.length : Int) := of_decide_eq_true (by first | (with_reducible assumption) | assumption)
      obtain ⟨ad275, e275, hx275_0⟩ := Kd.at_int HR0_1.out x12_2 p275 q275; have hw275_0 := hx275_0; cases e275
      replace hx275_0 := (HB.out.cell (World.block_lt_of_cell? w _ hx275_0)).trans hx275_0; replace p275 := eq_true p275; replace q275 := eq_true q275; have p276 : 0 ≤ (x12_2 : Int) := of_decide_eq_true (by first | (with_reducible assumption) | assumption)
      have q276 : x12_2 < (l0_1.length : Int) := of_decide_eq_true (by first | (with_reducible assumption) | assumption)
      obtain ⟨ad276, e276, hx276_0⟩ := Kd.at_int HR0_1.out x12_2 p276 q276; have hw276_0 := hx276_0; obtain rfl : ad275 = ad276 := (by injection e276)
      replace hx276_0 := (HB.out.cell (World.block_lt_of_cell? w _ hx276_0)).trans hx276_0; replace p276 := eq_true p276; replace q276 := eq_true q276; refine start_ (n := 22) (S := fun w' => w'.cell? ⟨gb272, 0, none⟩ = some (.slice A0_0 l0_0.length c0_0) ∧ w'.cell? ⟨gb272, 1, none⟩ = some (.slice (some ad275) l0_1.length c0_1) ∧ w'.cell? ⟨gb273, 0, none⟩ = some (.int .i64 a3_0) ∧ w'.cell? ⟨gb273, 1, none⟩ = some (.int .i64 a3_1) ∧ w'.cell? ⟨gb273, 2, none⟩ = some (.int .u8 a3_2) ∧ w'.cell? ⟨gb273, 3, none⟩ = some (.int .i64 a3_3) ∧ w'.cell? ⟨gb273, 4, none⟩ = some (.int .i64 a3_4) ∧ w'.cell? ⟨gb273, 5, none⟩ = some (.float .f64 a3_5) ∧ w'.cell? (ad275.add (x12_2).toNat) = some (.int .u8 (rd l0_1 x12_2)) ∧ w'.cell? (ad275.add (x12_2).toNat) = some (.int .u8 (rd l0_1 x12_2))) (ds := []) #[false, false, false, false, false, false, false, false, false, false, false, false, false, false, false, false, false, false, false, false, false, false] (by kernel_rfl) rfl rfl ⟨(zG BK272.out 0).trans rfl, (zG BK272.out 1).trans rfl, (zG BK273.out 0).trans rfl, (zG BK273.out 1).trans rfl, (zG BK273.out 2).trans rfl, (zG BK273.out 3).trans rfl, (zG BK273.out 4).trans rfl, (zG BK273.out 5).trans rfl, ((HB.out.cell (World.block_lt_of_cell? w _ hw275_0)).trans hw275_0), ((HB.out.cell (World.block_lt_of_cell? w _ hw276_0)).trans hw276_0)⟩ (fun hHeld => ?_); refine with_tabW stanzaref13_First.tab9 stanzaref13_First.bits9 (fun HT_ HW_ => ?_)
      generalize w24.drew = w25 at HO_9 BK272 BK273 HB hx275_0 hx276_0 hHeld ⊢
      refine pure_ (i := 0) (N := some 34) (v := ?_) (a' := ?_) (tf_ 1 22) rfl rfl (any_of HT_.out (by kernel_rfl)) (fun _ _ _ h => h) (Or.inl ⟨by rfl, ?_⟩) ?_ ?_
      rotate_left
      · intro w'
        go_simp
        with_reducible rfl
      rotate_left
      · simp only [Act.put, sA_, sB_, sC_, i64_w, i32_w]
        rfl
      refine pure_ (i := 2) (N := some 36) (v := ?_) (a' := ?_) #[true, false, true, false, false, false, false, false, false, false, false, false, false, false, false, false, false, false, false, false, false, false] rfl rfl (any_of HT_.out (by kernel_rfl)) (fun _ _ _ h => h) (Or.inl ⟨by rfl, ?_⟩) ?_ ?_
      rotate_left
      · intro w'
        go_simp
        with_reducible rfl
      rotate_left
      · simp only [Act.put, sA_, sB_, sC_, i64_w, i32_w]
        rfl
      refine take_ (i := 1) (N := some 35) (v := ?_) (a' := ?_) (tf_ 3 22) rfl rfl (take_ofW HT_.out HW_.out (by kernel_rfl)) (fun _ _ _ h => h) (Or.inl ⟨by rfl, ?_⟩) hHeld ?_ ?_
      rotate_left
      · rintro w' ⟨s0, s1, s2, s3, s4, s5, s6, s7, s8, s9⟩
        go_simp
        with_reducible rfl
      rotate_left
      · simp only [Act.put, sA_, sB_, sC_, i64_w, i32_w]
        rfl
      refine pure_ (i := 3) (N := some 37) (v := ?_) (a' := ?_) (tf_ 4 22) rfl rfl (any_of HT_.out (by kernel_rfl)) (fun _ _ _ h => h) (Or.inl ⟨by rfl, ?_⟩) ?_ ?_
      rotate_left
      · intro w'
        go_simp
        with_reducible rfl
      rotate_left
      · simp only [Act.put, sA_, sB_, sC_, i64_w, i32_w]
        rfl
      refine take_ (i := 4) (N := some 38) (v := ?_) (a' := ?_) (tf_ 5 22) rfl rfl (take_ofW HT_.out HW_.out (by kernel_rfl)) (fun _ _ _ h => h) (Or.inl ⟨by rfl, ?_⟩) hHeld ?_ ?_
      rotate_left
      · rintro w' ⟨s0, s1, s2, s3, s4, s5, s6, s7, s8, s9⟩
        go_simp
        with_reducible rfl
      rotate_left
      · simp only [Act.put, sA_, sB_, sC_, i64_w, i32_w]
        rfl
      refine pure_ (i := 5) (N := some 39) (v := ?_) (a' := ?_) (tf_ 6 22) rfl rfl (any_of HT_.out (by kernel_rfl)) (fun _ _ _ h => h) (Or.inl ⟨by rfl, ?_⟩) ?_ ?_
      rotate_left
      · intro w'
        go_simp
        with_reducible rfl
      rotate_left
      · simp only [Act.put, sA_, sB_, sC_, i64_w, i32_w]
        rfl
      refine pure_ (i := 6) (N := some 40) (v := ?_) (a' := ?_) (tf_ 7 22) rfl rfl (any_of HT_.out (by kernel_rfl)) (fun _ _ _ h => h) (Or.inl ⟨by rfl, ?_⟩) ?_ ?_
      rotate_left
      · intro w'
        go_simp
        with_reducible rfl
      rotate_left
      · simp only [Act.put, sA_, sB_, sC_, i64_w, i32_w]
        rfl
      refine pure_ (i := 8) (N := some 42) (v := ?_) (a' := ?_) #[true, true, true, true, true, true, true, false, true, false, false, false, false, false, false, false, false, false, false, false, false, false] rfl rfl (any_of HT_.out (by kernel_rfl)) (fun _ _ _ h => h) (Or.inl ⟨by rfl, ?_⟩) ?_ ?_
      rotate_left
      · intro w'
        go_simp
        with_reducible rfl
      rotate_left
      · simp only [Act.put, sA_, sB_, sC_, i64_w, i32_w]
        rfl
      refine pure_ (i := 9) (N := some 43) (v := ?_) (a' := ?_) #[true, true, true, true, true, true, true, false, true, true, false, false, false, false, false, false, false, false, false, false, false, false] rfl rfl (any_of HT_.out (by kernel_rfl)) (fun _ _ _ h => h) (Or.inl ⟨by rfl, ?_⟩) ?_ ?_
      rotate_left
      · intro w'
        go_simp
        with_reducible rfl
      rotate_left
      · simp only [Act.put, sA_, sB_, sC_, i64_w, i32_w]
        rfl
      refine pure_ (i := 10) (N := some 44) (v := ?_) (a' := ?_) #[true, true, true, true, true, true, true, false, true, true, true, false, false, false, false, false, false, false, false, false, false, false] rfl rfl (any_of HT_.out (by kernel_rfl)) (fun _ _ _ h => h) (Or.inl ⟨by rfl, ?_⟩) ?_ ?_
      rotate_left
      · intro w'
        go_simp
        with_reducible rfl
      rotate_left
      · simp only [Act.put, sA_, sB_, sC_, i64_w, i32_w]
        rfl
      refine pure_ (i := 12) (N := some 46) (v := ?_) (a' := ?_) #[true, true, true, true, true, true, true, false, true, true, true, false, true, false, false, false, false, false, false, false, false, false] rfl rfl (any_of HT_.out (by kernel_rfl)) (fun _ _ _ h => h) (Or.inl ⟨by rfl, ?_⟩) ?_ ?_
      rotate_left
      · intro w'
        go_simp
        with_reducible rfl
      rotate_left
      · simp only [Act.put, sA_, sB_, sC_, i64_w, i32_w]
        rfl
      refine pure_ (i := 15) (N := some 49) (v := ?_) (a' := ?_) #[true, true, true, true, true, true, true, false, true, true, true, false, true, false, false, true, false, false, false, false, false, false] rfl rfl (any_of HT_.out (by kernel_rfl)) (fun _ _ _ h => h) (Or.inl ⟨by rfl, ?_⟩) ?_ ?_
      rotate_left
      · intro w'
        go_simp
        with_reducible rfl
      rotate_left
      · simp only [Act.put, sA_, sB_, sC_, i64_w, i32_w]
        rfl
      refine pure_ (i := 18) (N := some 52) (v := ?_) (a' := ?_) #[true, true, true, true, true, true, true, false, true, true, true, false, true, false, false, true, false, false, true, false, false, false] rfl rfl (any_of HT_.out (by kernel_rfl)) (fun _ _ _ h => h) (Or.inl ⟨by rfl, ?_⟩) ?_ ?_
      rotate_left
      · intro w'
        go_simp
        with_reducible rfl
      rotate_left
      · simp only [Act.put, sA_, sB_, sC_, i64_w, i32_w]
        rfl
      refine take_ (i := 7) (N := some 41) (v := ?_) (a' := ?_) #[true, true, true, true, true, true, true, true, true, true, true, false, true, false, false, true, false, false, true, false, false, false] rfl rfl (take_ofW HT_.out HW_.out (by kernel_rfl)) (fun _ _ _ h => h) (Or.inl ⟨by rfl, ?_⟩) hHeld ?_ ?_
      rotate_left
      · rintro w' ⟨s0, s1, s2, s3, s4, s5, s6, s7, s8, s9⟩
        go_simp
        with_reducible rfl
      rotate_left
      · simp only [Act.put, sA_, sB_, sC_, i64_w, i32_w]
        rfl
      refine take_ (i := 11) (N := some 45) (v := ?_) (a' := ?_) #[true, true, true, true, true, true, true, true, true, true, true, true, true, false, false, true, false, false, true, false, false, false] rfl rfl (take_ofW HT_.out HW_.out (by kernel_rfl)) (fun _ _ _ h => h) (Or.inl ⟨by rfl, ?_⟩) hHeld ?_ ?_
      rotate_left
      · rintro w' ⟨s0, s1, s2, s3, s4, s5, s6, s7, s8, s9⟩
        go_simp
        with_reducible rfl
      rotate_left
      · simp only [Act.put, sA_, sB_, sC_, i64_w, i32_w]
        rfl
      refine pure_ (i := 13) (N := some 47) (v := ?_) (a' := ?_) #[true, true, true, true, true, true, true, true, true, true, true, true, true, true, false, true, false, false, true, false, false, false] rfl rfl (any_of HT_.out (by kernel_rfl)) (fun _ _ _ h => h) (Or.inl ⟨by rfl, ?_⟩) ?_ ?_
      rotate_left
      · intro w'
        go_simp
        with_reducible rfl
      rotate_left
      · simp only [Act.put, sA_, sB_, sC_, i64_w, i32_w]
        rfl
      refine take_ (i := 14) (N := some 48) (v := ?_) (a' := ?_) #[true, true, true, true, true, true, true, true, true, true, true, true, true, true, true, true, false, false, true, false, false, false] rfl rfl (take_ofW HT_.out HW_.out (by kernel_rfl)) (fun _ _ _ h => h) (Or.inl ⟨by rfl, ?_⟩) hHeld ?_ ?_
      rotate_left
      · rintro w' ⟨s0, s1, s2, s3, s4, s5, s6, s7, s8, s9⟩
        go_simp
        with_reducible rfl
      rotate_left
      · simp only [Act.put, sA_, sB_, sC_, i64_w, i32_w]
        rfl
      refine take_ (i := 16) (N := some 50) (v := ?_) (a' := ?_) #[true, true, true, true, true, true, true, true, true, true, true, true, true, true, true, true, true, false, true, false, false, false] rfl rfl (take_ofW HT_.out HW_.out (by kernel_rfl)) (fun _ _ _ h => h) (Or.inl ⟨by rfl, ?_⟩) hHeld ?_ ?_
      rotate_left
      · rintro w' ⟨s0, s1, s2, s3, s4, s5, s6, s7, s8, s9⟩
        go_simp
        with_reducible rfl
      rotate_left
      · simp only [Act.put, sA_, sB_, sC_, i64_w, i32_w]
        rfl
      refine take_ (i := 19) (N := some 53) (v := ?_) (a' := ?_) #[true, true, true, true, true, true, true, true, true, true, true, true, true, true, true, true, true, false, true, true, false, false] rfl rfl (take_ofW HT_.out HW_.out (by kernel_rfl)) (fun _ _ _ h => h) (Or.inl ⟨by rfl, ?_⟩) hHeld ?_ ?_
      rotate_left
      · rintro w' ⟨s0, s1, s2, s3, s4, s5, s6, s7, s8, s9⟩
        go_simp
        with_reducible rfl
      rotate_left
      · simp only [Act.put, sA_, sB_, sC_, i64_w, i32_w]
        rfl
      refine one_ (i := 17) (N := some 51) #[true, true, true, true, true, true, true, true, true, true, true, true, true, true, true, true, true, true, true, true, false, false] rfl rfl (one_of HT_.out (by kernel_rfl)) (by decide) (fun K hK => ?_)
      refine goes_ Try.func30 (by kernel_rfl) rfl #[.agg #[.slice A0_0 l0_0.length c0_0, .slice (some ad275) l0_1.length c0_1], .int .i64 x1_1, .int .i64 x12_2, .int .u8 (rd l0_1 x12_2), .int .i64 a3_1] (by rfl) rfl rfl (by (try simp only [List.map_toArray, List.map_cons, List.map_nil]); first | done | rfl | (simp only [List.length_drop, List.length_take]; rfl)) ?_
      with_reducible refine (stanzaref13_Cells.calls k2 _ _ l0_0 _ _ l0_1 x1_1 x12_2 (rd l0_1 x12_2) a3_1 t277 _ ?side1 ?side2 ?side3 ?side4 A17.out).mono ?_
      (case side1 => repeat (first | exact (Kd.C_below HR0_0.out HB.out) | (with_reducible refine Kd.C_alloc ?_ _) | (with_reducible refine Kd.C_drewN ?_ _) | (with_reducible refine Kd.C_drew ?_)))
      (case side2 => exact HC0_0.out)
      (case side3 => repeat (first | exact (Kd.C_below HR0_1.out HB.out) | (with_reducible refine Kd.C_alloc ?_ _) | (with_reducible refine Kd.C_drewN ?_ _) | (with_reducible refine Kd.C_drew ?_)))
      (case side4 => exact HC0_1.out)
      rintro e w26 ⟨rfl, hb⟩
      refine ⟨_, rfl, ?_⟩
      have n0_ := zA.mk (Kd.R_below (by (with_reducible repeat (first | apply Kd.R_alloc | apply Kd.R_drewN | apply Kd.R_drew)); exact HO_9.out) hb)
      have n1_ := zA.mk (zL (g := gb272) (o := .cells #[.slice A0_0 l0_0.length c0_0, .slice (some ad275) l0_1.length c0_1] 31 (0, 0)) (by (with_reducible repeat (first | refine zB ?_ _ | refine zD ?_ | refine zC ?_ _)); exact BK272.out) hb)
      have n2_ := zA.mk (zL (g := gb273) (o := .cells #[.int .i64 a3_0, .int .i64 a3_1, .int .u8 a3_2, .int .i64 a3_3, .int .i64 a3_4, .float .f64 a3_5] 35 (0, 0)) (by (with_reducible repeat (first | refine zB ?_ _ | refine zD ?_ | refine zC ?_ _)); exact BK273.out) hb)
      have n3_ := zA.mk (zM (by repeat (first | (with_reducible first | exact HB.out | apply zI | apply zE | apply zH | refine zF ?_ GE272.out | refine zF ?_ GE273.out) | exact HB.out)) hb)
      clear HO_9 BK272 BK273 HB; have HO_9 := n0_; have BK272 := n1_; have BK273 := n2_; have HB := n3_; clear n0_ n1_ n2_ n3_; (try clear hb)
      (try clear hb2)
      (try clear hk)
      (try clear hi)
      refine hK.out _ _ ⟨(zG BK272.out 0).trans rfl, (zG BK272.out 1).trans rfl, (zG BK273.out 0).trans rfl, (zG BK273.out 1).trans rfl, (zG BK273.out 2).trans rfl, (zG BK273.out 3).trans rfl, (zG BK273.out 4).trans rfl, (zG BK273.out 5).trans rfl, ((HB.out.cell (World.block_lt_of_cell? w _ hw275_0)).trans hw275_0), ((HB.out.cell (World.block_lt_of_cell? w _ hw276_0)).trans hw276_0)⟩ (fun hHeld => ?_)
      clear hK K; refine norm_ (a' := ?_) ?_ ?_
      rotate_left
      · show Act.put _ (some 51) _ = _
        simp only [Act.put, sA_, sB_, sC_, i64_w, i32_w]; rfl
      refine pure_ (i := 20) (N := some 54) (v := ?_) (a' := ?_) (tf_ 21 22) rfl rfl (any_of HT_.out (by kernel_rfl)) (fun _ _ _ h => h) (Or.inl ⟨by rfl, ?_⟩) ?_ ?_
      rotate_left
      · intro w'
        go_simp
        with_reducible rfl
      rotate_left
      · simp only [Act.put, sA_, sB_, sC_, i64_w, i32_w]
        rfl
      refine pure_ (i := 21) (N := some 55) (v := ?_) (a' := ?_) #[true, true, true, true, true, true, true, true, true, true, true, true, true, true, true, true, true, true, true, true, true, true] rfl rfl (any_of HT_.out (by kernel_rfl)) (fun _ _ _ h => h) (Or.inl ⟨by rfl, ?_⟩) ?_ ?_
      rotate_left
      · intro w'
        go_simp
        with_reducible rfl
      rotate_left
      · simp only [Act.put, sA_, sB_, sC_, i64_w, i32_w]
        rfl
      refine done_ (done_of HT_.out (by kernel_rfl)) ?_
      try go_wp2
      go_roundg k2
      case measure => have := HK1.out; have := HK2.out; omega
      case rel => exact ⟨(x10_2), (x12_2), (wrap64 (x12_2 + 1)), (by first | rfl | (simp; done) | (simp [*]; done)), (by first | rfl | (simp; done) | (simp [*]; done)), (by first | rfl | (simp; done) | (simp [*]; done)), H', ⟨by have := HK1.out; have := HK2.out; omega⟩, ⟨by (with_reducible repeat (first | apply Kd.R_alloc | apply Kd.R_drewN | apply Kd.R_drew)); exact HO_9.out⟩, ⟨by (with_reducible repeat (first | refine zB ?_ _ | refine zD ?_ | refine zC ?_ _)); exact BK272.out⟩, ⟨by (with_reducible repeat (first | refine zB ?_ _ | refine zD ?_ | refine zC ?_ _)); exact BK273.out⟩, ⟨by repeat (first | (with_reducible first | exact HB.out | apply zI | apply zE | apply zH | refine zF ?_ GE272.out | refine zF ?_ GE273.out) | exact HB.out)⟩⟩
end Go.Proofs.Ytfeidhmkmbgnoaa.F
end
