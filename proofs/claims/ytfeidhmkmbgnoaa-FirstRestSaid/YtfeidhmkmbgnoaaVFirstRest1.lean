/- Printed by a program: Lean functions that answer as the Go functions do, and the proofs of it. -/
import Derived.Test.YtfeidhmkmbgnoaaXFirstRest0
import Derived.Test.YtfeidhmkmbgnoaaVFirstRest0
section
namespace Go.Proofs.Ytfeidhmkmbgnoaa.F
open Go.RowKit Go.Proofs.YtfeidhmkmbgnoaaW.PrintWords Go.Proofs.YtfeidhmkmbgnoaaW.PrintLast Go.Proofs.YtfeidhmkmbgnoaaW.PrintMore
attribute [local go_sem] max2_int min2_int max_two min_two max_three min_three max_four min_four   -- for this text's walks alone
set_option linter.unusedVariables false
set_option linter.unusedSimpArgs false
mutual
def l4_FirstRest.l0 : Nat → List (S49) → Int → Int → Int → Int → Int → Int → Int → Nat → Option (Bool)
 | 0, _, _, _, _, _, _, _, _, _ => none
 | k + 1, x0, x17, x18, x245000, x245001, x245002, x245003, x245004, x245005 => if x18 < x17 then (if 0 ≤ x18 then (if x18 < (x0.length : Int) then (if (Int.tmod ((rd_T49 x0 x18).f3) 4) = 2 then ((some (([] : List (S49)) : List (S49))).bind fun y247 => (if x18 ≤ (x0.length : Int) then ((some (x0.take (x18 : Int).toNat : List (S49))).bind fun y250 => (if y247.length + y250.length < 35184372088832 then ((some (y247 ++ y250 : List (S49))).bind fun y254 => (if 0 ≤ (wrap64 (x18 + 1)) then (if (wrap64 (x18 + 1)) ≤ (x0.length : Int) then ((some (x0.drop ((wrap64 (x18 + 1)) : Int).toNat : List (S49))).bind fun y257 => (if y254.length + y257.length < 35184372088832 then ((l4_FirstRest.f k (y254 ++ y257) x245000 x245001 x245002 x245003 x245004 x245005).bind fun t264 => (some t264)) else (none))) else (none)) else (none))) else (none))) else (none))) else (l4_FirstRest.l0 k x0 x17 (wrap64 (x18 + 1)) x245000 x245001 x245002 x245003 x245004 x245005)) else (none)) else (none)) else ((h3_Para.f k x0).bind fun bt265 => ((h3_Config.f x245000 x245001 x245002 x245003 x245004 x245005).bind fun bt271 => ((first_Break.f k bt265.1 bt265.2 0 (bt265.1.length : Int) bt271.1 bt271.2.1 bt271.2.2.1 bt271.2.2.2.1 bt271.2.2.2.2.1 bt271.2.2.2.2.2).bind fun t279 => (l4_FirstRest.l1 k (bt265.1.length : Int) t279 (t279.length : Int) 0 bt265.1 bt265.2 bt271.1 bt271.2.1 bt271.2.2.1 bt271.2.2.2.1 bt271.2.2.2.2.1 bt271.2.2.2.2.2))))
def l4_FirstRest.l1 : Nat → Int → List (S45) → Int → Int → List (S61) → List Int → Int → Int → Int → Int → Int → Nat → Option (Bool)
 | 0, _, _, _, _, _, _, _, _, _, _, _, _ => none
 | k + 1, x8, x9, x54, x55, x278000, x278001, x279000, x279001, x279002, x279003, x279004, x279005 => if x55 < x54 then (if 0 ≤ x55 then (if x55 < (x9.length : Int) then ((first_Break.f k x278000 x278001 ((rd_T45 x9 x55).f0) x8 x279000 x279001 x279002 x279003 x279004 x279005).bind fun t283 => (if x55 ≤ (x9.length : Int) then ((r3_SameLines.f k t283 (x9.drop (x55 : Int).toNat)).bind fun t290 => (if t290 = true then (l4_FirstRest.l1 k x8 x9 x54 (wrap64 (x55 + 1)) x278000 x278001 x279000 x279001 x279002 x279003 x279004 x279005) else (some false))) else (none))) else (none)) else (none)) else (some true)
def l4_FirstRest.f : Nat → List (S49) → Int → Int → Int → Int → Int → Nat → Option (Bool)
 | 0, _, _, _, _, _, _, _ => none
 | k + 1, l0, a1_0, a1_1, a1_2, a1_3, a1_4, a1_5 => (l4_Awake.f k).bind fun t245 => (if t245 = true then (if (l0.length : Int) > 200 then (some true) else (l4_FirstRest.l0 k l0 (l0.length : Int) 0 a1_0 a1_1 a1_2 a1_3 a1_4 a1_5)) else (some false))
end
theorem l4_FirstRest.mono_l : ∀ k, (∀ y0 y1 y2 y3 y4 y5 y6, LeO (l4_FirstRest.f k y0 y1 y2 y3 y4 y5 y6) (l4_FirstRest.f (k + 1) y0 y1 y2 y3 y4 y5 y6)) ∧ (∀ y0 y1 y2 y3 y4 y5 y6 y7 y8, LeO (l4_FirstRest.l0 k y0 y1 y2 y3 y4 y5 y6 y7 y8) (l4_FirstRest.l0 (k + 1) y0 y1 y2 y3 y4 y5 y6 y7 y8)) ∧ (∀ y0 y1 y2 y3 y4 y5 y6 y7 y8 y9 y10 y11, LeO (l4_FirstRest.l1 k y0 y1 y2 y3 y4 y5 y6 y7 y8 y9 y10 y11) (l4_FirstRest.l1 (k + 1) y0 y1 y2 y3 y4 y5 y6 y7 y8 y9 y10 y11))
 | 0 => ⟨fun _ _ _ _ _ _ _ r h => by simp [l4_FirstRest.f] at h, fun _ _ _ _ _ _ _ _ _ r h => by simp [l4_FirstRest.l0] at h, fun _ _ _ _ _ _ _ _ _ _ _ _ r h => by simp [l4_FirstRest.l1] at h⟩
 | k + 1 => by
  obtain ⟨ih0, ih1, ih2⟩ := l4_FirstRest.mono_l k; refine ⟨?_, ?_, ?_⟩
  ·intro y0 y1 y2 y3 y4 y5 y6
   unfold l4_FirstRest.f
   repeat' (with_reducible first | exact ih0 _ _ _ _ _ _ _ | exact ih1 _ _ _ _ _ _ _ _ _ | exact ih2 _ _ _ _ _ _ _ _ _ _ _ _ | exact first_Break.mono _ _ _ _ _ _ _ _ _ _ _ | exact h3_Para.mono _ _ | exact l4_Awake.mono _ | exact r3_SameLines.mono _ _ _ | exact LeO.refl _ | exact LeO.none _ | refine LeO.ite ?_ ?_ | refine LeO.bind ?_ (fun _ => ?_))
  ·intro y0 y1 y2 y3 y4 y5 y6 y7 y8
   unfold l4_FirstRest.l0
   repeat' (with_reducible first | exact ih0 _ _ _ _ _ _ _ | exact ih1 _ _ _ _ _ _ _ _ _ | exact ih2 _ _ _ _ _ _ _ _ _ _ _ _ | exact first_Break.mono _ _ _ _ _ _ _ _ _ _ _ | exact h3_Para.mono _ _ | exact l4_Awake.mono _ | exact r3_SameLines.mono _ _ _ | exact LeO.refl _ | exact LeO.none _ | refine LeO.ite ?_ ?_ | refine LeO.bind ?_ (fun _ => ?_))
  ·intro y0 y1 y2 y3 y4 y5 y6 y7 y8 y9 y10 y11
   unfold l4_FirstRest.l1
   repeat' (with_reducible first | exact ih0 _ _ _ _ _ _ _ | exact ih1 _ _ _ _ _ _ _ _ _ | exact ih2 _ _ _ _ _ _ _ _ _ _ _ _ | exact first_Break.mono _ _ _ _ _ _ _ _ _ _ _ | exact h3_Para.mono _ _ | exact l4_Awake.mono _ | exact r3_SameLines.mono _ _ _ | exact LeO.refl _ | exact LeO.none _ | refine LeO.ite ?_ ?_ | refine LeO.bind ?_ (fun _ => ?_))
theorem l4_FirstRest.mono : ∀ a0 a1 a2 a3 a4 a5 a6 k, LeO (l4_FirstRest.f k a0 a1 a2 a3 a4 a5 a6) (l4_FirstRest.f (k + 1) a0 a1 a2 a3 a4 a5 a6) := by
 intro a0 a1 a2 a3 a4 a5 a6 k
 obtain ⟨ih0, ih1, ih2⟩ := l4_FirstRest.mono_l k; exact ih0 a0 a1 a2 a3 a4 a5 a6
def l4_FirstRest.T9 : Bool × List (List Nat × List Nat) := (true, [([], []), ([], []), ([], []), ([1, 2], [1, 2]), ([0, 3], [0, 3]), ([], []), ([], []), ([6], [6]), ([5, 7], [5, 7]), ([4, 8, 4], [4, 8]), ([9, 9, 0, 1, 2, 3, 4, 5, 6, 7, 8, 9], [1, 5, 9])])
def l4_FirstRest.B9 : List Nat := [0, 0, 0, 6, 15, 0, 0, 64, 224, 511, 1023]
theorem l4_FirstRest.tab9 : rtab .any (opsOf Try.f6 9) = l4_FirstRest.T9 := by kernel_rfl
theorem l4_FirstRest.bits9 : waitsOk l4_FirstRest.T9.2 l4_FirstRest.B9 = true := by kernel_rfl
def l4_FirstRest.T12 : Bool × List (List Nat × List Nat) := (true, [([], []), ([0], [0]), ([], []), ([2, 1], [2]), ([], []), ([], []), ([4, 1, 3, 0, 1, 4, 5], [1, 4]), ([5, 3, 6, 0, 1, 2, 3, 4, 5, 6], [3, 5])])
def l4_FirstRest.B12 : List Nat := [0, 1, 0, 7, 0, 0, 63, 127]
theorem l4_FirstRest.tab12 : rtab .any (opsOf Try.f6 12) = l4_FirstRest.T12 := by kernel_rfl
theorem l4_FirstRest.bits12 : waitsOk l4_FirstRest.T12.2 l4_FirstRest.B12 = true := by kernel_rfl
def l4_FirstRest.T18 : Bool × List (List Nat × List Nat) := (true, [([], []), ([], []), ([], []), ([1, 2], [1, 2]), ([3], [3]), ([4], [4]), ([], []), ([], []), ([0, 5, 6, 7], [0, 5, 6, 7]), ([], []), ([], []), ([9, 10], [9, 10]), ([8, 11, 8], [8, 11]), ([12], [12])])
def l4_FirstRest.B18 : List Nat := [0, 0, 0, 6, 14, 30, 0, 0, 255, 0, 0, 1536, 4095, 8191]
theorem l4_FirstRest.tab18 : rtab .any (opsOf Try.f6 18) = l4_FirstRest.T18 := by kernel_rfl
theorem l4_FirstRest.bits18 : waitsOk l4_FirstRest.T18.2 l4_FirstRest.B18 = true := by kernel_rfl
set_option maxHeartbeats 8000000 in
set_option maxRecDepth 100000 in
theorem l4_FirstRest.calls (k : Nat) : ∀ (A0 : Option Addr) (c0 : Nat) (l0 : List (S49)) (a1_0 : Int) (a1_1 : Int) (a1_2 : Int) (a1_3 : Int) (a1_4 : Int) (a1_5 : Nat) (r : Bool) (w : World) (hr0 : Kd.C k49 w A0 l0.length l0) (hc0 : l0.length ≤ c0) (h : l4_FirstRest.f k l0 a1_0 a1_1 a1_2 a1_3 a1_4 a1_5 = some r) (hrt_ : zA (r = true)),
  Calls Try.prog 6 #[.slice A0 l0.length c0, .agg #[.int .u8 a1_0, .int .u8 a1_1, .int .u8 a1_2, .int .u16 a1_3, .int .u16 a1_4, .float .f64 a1_5]] w fun e w' => e = .returned (.bool r) ∧ Below w.heap.size w w' := by
 induction k using Nat.strongRecOn with
 | _ k ih =>
 intro A0 c0 l0 a1_0 a1_1 a1_2 a1_3 a1_4 a1_5 r w hr0 hc0 h hrt_
 cases k with
 | zero => exact absurd h (by simp [l4_FirstRest.f])
 | succ k =>
 simp only [l4_FirstRest.f] at h; have hu26 := Try.underlying26; have hu31 := Try.underlying31; have hu35 := Try.underlying35; have HR0 := zA.mk hr0; have HC0 := zA.mk hc0; clear hr0 hc0; have HB := zA.mk (Below.refl w.heap.size w); have H : ((l4_Awake.f k).bind fun t245 => (if t245 = true then (if (l0.length : Int) > 200 then (some true) else (l4_FirstRest.l0 k l0 (l0.length : Int) 0 a1_0 a1_1 a1_2 a1_3 a1_4 a1_5)) else (some false))) = some r := h
 clear h; replace H := Option.bind_eq_some_iff.mp H; obtain ⟨t245, A30, H⟩ := H; replace H : (if t245 = true then (if (l0.length : Int) > 200 then (some true) else (l4_FirstRest.l0 k l0 (l0.length : Int) 0 a1_0 a1_1 a1_2 a1_3 a1_4 a1_5)) else (some false)) = some r := H; have A3 := zA.mk A30; clear A30; by_cases c4 : t245 = true
 rotate_left
 ·replace c4 := Bool.eq_false_iff.mpr c4
  subst c4; have H1 : (some false) = some r := by rw [if_neg (show ¬ (false = true) by decide)] at H; exact H
  clear H; have H := H1; clear H1; exact absurd ((Option.some.inj H).trans hrt_.out) (by decide)
 subst c4; have H1 : (if (l0.length : Int) > 200 then (some true) else (l4_FirstRest.l0 k l0 (l0.length : Int) 0 a1_0 a1_1 a1_2 a1_3 a1_4 a1_5)) = some r := by rw [if_pos rfl] at H; exact H
 clear H; have H := H1; clear H1; by_cases c5 : (l0.length : Int) > 200
 ·rw [if_pos c5] at H
  have c5b0 : decide (200 < (l0.length : Int)) = true := decide_eq_true c5
  have c5b1 : decide (200 < l0.length) = true := decide_eq_true (by omega)
  clear c5; obtain rfl := Option.some.inj H
  go_enter Try.func6, Try.ntmps6
  go_wp2_with (first | ((with_reducible refine gate_dst (N := 3) rfl ?_); refine box_event ?hg (N := 3) ?hd (cs := #[.int .u8 a1_0, .int .u8 a1_1, .int .u8 a1_2, .int .u16 a1_3, .int .u16 a1_4, .float .f64 a1_5]) (t := 26) ?hr ?_; (case hd => rfl); (case hg => rfl); (case hr => first | (go_simp; done) | (go_simp; rfl)); intro gb244 hg w6 hbox hb; have n0_ := zA.mk (below_step (aL HB) hb); have n1_ := zA.mk (hbox); have n2_ := zA.mk ((by rw [hg]; exact (below_size (aL HB)) : w.heap.size ≤ gb244)); have n3_ := zA.mk ((by rw [hg]; exact (below_size (aL HB)) : w.heap.size ≤ gb244)); clear HB; have HB := n0_; have BK244 := n1_; have GW244 := n2_; have GE244 := n3_; clear n0_ n1_ n2_ n3_; clear hb hbox hg) | ((with_reducible refine gate_callee (f := 12) rfl ?_); refine goesL_ (some 11) rfl rfl Try.func12 (by kernel_rfl) rfl #[] rfl aT ?_; (with_reducible refine (l4_Awake.calls k  true _ A3.out (by first | exact ⟨rfl⟩ | exact hrt_)).mono ?_); rintro e w7 ⟨rfl, hb⟩; refine ⟨_, rfl, ?_⟩; have n0_ := zA.mk (blk_below (g := gb244) (o := .cells #[.int .u8 a1_0, .int .u8 a1_1, .int .u8 a1_2, .int .u16 a1_3, .int .u16 a1_4, .float .f64 a1_5] 26 (0, 0)) (aB BK244) hb); have n1_ := zA.mk (below_step (aL HB) hb); clear BK244; clear HB; have BK244 := n0_; have HB := n1_; clear n0_ n1_; (try clear hb); (try clear hb2); (try clear hk); (try clear hi)))
  go_ret
  exact ⟨aX, aL HB⟩
 rw [if_neg c5] at H; have c5b0 : decide (200 < (l0.length : Int)) = false := decide_eq_false c5
 have c5b1 : decide (200 < l0.length) = false := decide_eq_false (by omega)
 clear c5; have H' := zA.mk H
 clear H; go_enter Try.func6, Try.ntmps6
 go_wp2_with (first | ((with_reducible refine gate_dst (N := 3) rfl ?_); refine box_event ?hg (N := 3) ?hd (cs := #[.int .u8 a1_0, .int .u8 a1_1, .int .u8 a1_2, .int .u16 a1_3, .int .u16 a1_4, .float .f64 a1_5]) (t := 26) ?hr ?_; (case hd => rfl); (case hg => rfl); (case hr => first | (go_simp; done) | (go_simp; rfl)); intro gb244 hg w8 hbox hb; have n0_ := zA.mk (below_step (aL HB) hb); have n1_ := zA.mk (hbox); have n2_ := zA.mk ((by rw [hg]; exact (below_size (aL HB)) : w.heap.size ≤ gb244)); have n3_ := zA.mk ((by rw [hg]; exact (below_size (aL HB)) : w.heap.size ≤ gb244)); clear HB; have HB := n0_; have BK244 := n1_; have GW244 := n2_; have GE244 := n3_; clear n0_ n1_ n2_ n3_; clear hb hbox hg) | ((with_reducible refine gate_callee (f := 12) rfl ?_); refine goesL_ (some 11) rfl rfl Try.func12 (by kernel_rfl) rfl #[] rfl aT ?_; (with_reducible refine (l4_Awake.calls k  true _ A3.out (by first | exact ⟨rfl⟩ | exact hrt_)).mono ?_); rintro e w9 ⟨rfl, hb⟩; refine ⟨_, rfl, ?_⟩; have n0_ := zA.mk (blk_below (g := gb244) (o := .cells #[.int .u8 a1_0, .int .u8 a1_1, .int .u8 a1_2, .int .u16 a1_3, .int .u16 a1_4, .float .f64 a1_5] 26 (0, 0)) (aB BK244) hb); have n1_ := zA.mk (below_step (aL HB) hb); clear BK244; clear HB; have BK244 := n0_; have HB := n1_; clear n0_ n1_; (try clear hb); (try clear hb2); (try clear hk); (try clear hi)))
 go_loopg [18, 0] k (fun kq v18 v0 w' => ∃ (x18_1 : Int), v18 = .int .i64 x18_1 ∧ v0 = .slice A0 l0.length c0 ∧ zA (l4_FirstRest.l0 kq l0 (l0.length : Int) x18_1 a1_0 a1_1 a1_2 a1_3 a1_4 a1_5 = some r) ∧ zA (kq ≤ k) ∧ zA (w'.heap[gb244]? = some (.cells #[.int .u8 a1_0, .int .u8 a1_1, .int .u8 a1_2, .int .u16 a1_3, .int .u16 a1_4, .float .f64 a1_5] 26 (0, 0))) ∧ zA (Below w.heap.size w w'))
 case atStart => exact ⟨(0), aZ, rfl, H', ⟨Nat.le_refl _⟩, ⟨aB BK244⟩, ⟨aL HB⟩⟩
 clear H'; try clear c1
 try clear p2
 try clear c4
 try clear c5
 try clear c5b0
 try clear c5b1
 try clear c6
 obtain ⟨x18_1, rfl, rfl, HA, HK1, BK244, HB⟩ := hrel; cases gk with
 | zero => exact absurd HA.out (by simp [l4_FirstRest.l0])
 | succ k1 =>
  have H := HA.out; clear HA; simp only [l4_FirstRest.l0] at H; by_cases c10 : x18_1 < (l0.length : Int)
  ·rw [if_pos c10] at H
   have c10b0 : decide (x18_1 < (l0.length : Int)) = true := decide_eq_true c10
   clear c10; by_cases c11 : 0 ≤ x18_1
   rotate_left
   ·rw [if_neg c11] at H
    exact absurd H (by simp)
   rw [if_pos c11] at H; have c11b0 : decide (0 ≤ x18_1) = true := decide_eq_true c11
   clear c11; by_cases c12 : x18_1 < (l0.length : Int)
   rotate_left
   ·rw [if_neg c12] at H
    exact absurd H (by simp)
   rw [if_pos c12] at H; have c12b0 : decide (x18_1 < (l0.length : Int)) = true := decide_eq_true c12
   clear c12; by_cases c13 : (Int.tmod ((rd_T49 l0 x18_1).f3) 4) = 2
   rotate_left
   ·rw [if_neg c13] at H
    have c13b0 : ((Int.tmod ((rd_T49 l0 x18_1).f3) 4) == 2) = false := beq_eq_false_iff_ne.mpr c13
    have c13b1 : ((Int.tmod ((rd_T49 l0 x18_1).f3) 4) != 2) = true := bne_iff_ne.mpr c13
    have H' := zA.mk H
    clear H; have p246 : 0 ≤ (x18_1 : Int) := aD
    have q246 : x18_1 < (l0.length : Int) := aD
    obtain ⟨ad246, e246, hx246_0, hx246_1, hx246_2, hx246_3⟩ := at_T49 HR0.out x18_1 p246 q246; cases e246
    replace hx246_0 := (HB.out.cell (World.block_lt_of_cell? w _ hx246_0)).trans hx246_0; replace hx246_1 := (HB.out.cell (World.block_lt_of_cell? w _ hx246_1)).trans hx246_1; replace hx246_2 := (HB.out.cell (World.block_lt_of_cell? w _ hx246_2)).trans hx246_2; replace hx246_3 := (HB.out.cell (World.block_lt_of_cell? w _ hx246_3)).trans hx246_3; replace p246 := eq_true p246; replace q246 := eq_true q246; go_wp2
    go_roundg k1
    case measure => have := HK1.out; omega
    case rel => exact ⟨(wrap64 (x18_1 + 1)), aZ, rfl, H', ⟨by have := HK1.out; omega⟩, ⟨aB BK244⟩, ⟨aL HB⟩⟩
   rw [if_pos c13] at H; have c13b0 : ((Int.tmod ((rd_T49 l0 x18_1).f3) 4) == 2) = true := beq_iff_eq.mpr c13
   have c13b1 : ((Int.tmod ((rd_T49 l0 x18_1).f3) 4) != 2) = false := bne_eq_false_iff_eq.mpr c13
   clear c13; obtain ⟨y247, hy247⟩ : ∃ y_ : List (S49), y_ = (([] : List (S49))) := ⟨_, rfl⟩; replace H : (if x18_1 ≤ (l0.length : Int) then ((some (l0.take (x18_1 : Int).toNat : List (S49))).bind fun y250 => (if y247.length + y250.length < 35184372088832 then ((some (y247 ++ y250 : List (S49))).bind fun y254 => (if 0 ≤ (wrap64 (x18_1 + 1)) then (if (wrap64 (x18_1 + 1)) ≤ (l0.length : Int) then ((some (l0.drop ((wrap64 (x18_1 + 1)) : Int).toNat : List (S49))).bind fun y257 => (if y254.length + y257.length < 35184372088832 then ((l4_FirstRest.f k1 (y254 ++ y257) a1_0 a1_1 a1_2 a1_3 a1_4 a1_5).bind fun t264 => (some t264)) else (none))) else (none)) else (none))) else (none))) else (none)) = some r := by first | (rw [hy247]; with_reducible exact H) | (have H2_ := (Option.bind_some _ _).symm.trans H; rw [hy247]; with_reducible exact H2_) | (have H2_ := (Option.bind_some _ _).symm.trans H; with_reducible exact H2_) | with_reducible exact H | (rw [hy247]; exact H) | exact H
   have Ny247 := zA.mk hy247; clear hy247; have c14b0 := eq_true (aD : 0 ≤ x18_1); by_cases c15 : x18_1 ≤ (l0.length : Int)
   rotate_left
   ·rw [if_neg c15] at H
    exact absurd H (by simp)
   rw [if_pos c15] at H; have c15b0 := eq_true c15; have c15b1 : decide (x18_1 ≤ (l0.length : Int)) = true := decide_eq_true c15
   clear c15; obtain ⟨y250, hy250⟩ : ∃ y_ : List (S49), y_ = (l0.take (x18_1 : Int).toNat) := ⟨_, rfl⟩; replace H : (if y247.length + y250.length < 35184372088832 then ((some (y247 ++ y250 : List (S49))).bind fun y254 => (if 0 ≤ (wrap64 (x18_1 + 1)) then (if (wrap64 (x18_1 + 1)) ≤ (l0.length : Int) then ((some (l0.drop ((wrap64 (x18_1 + 1)) : Int).toNat : List (S49))).bind fun y257 => (if y254.length + y257.length < 35184372088832 then ((l4_FirstRest.f k1 (y254 ++ y257) a1_0 a1_1 a1_2 a1_3 a1_4 a1_5).bind fun t264 => (some t264)) else (none))) else (none)) else (none))) else (none)) = some r := by first | (rw [hy250]; with_reducible exact H) | (have H2_ := (Option.bind_some _ _).symm.trans H; rw [hy250]; with_reducible exact H2_) | (have H2_ := (Option.bind_some _ _).symm.trans H; with_reducible exact H2_) | with_reducible exact H | (rw [hy250]; exact H) | exact H
   have Ny250 := zA.mk hy250; clear hy250; by_cases c16 : y247.length + y250.length < 35184372088832
   rotate_left
   ·rw [if_neg c16] at H
    exact absurd H (by simp)
   rw [if_pos c16] at H; have LMc16 := zA.mk c16; clear c16; obtain ⟨y254, hy254⟩ : ∃ y_ : List (S49), y_ = (y247 ++ y250) := ⟨_, rfl⟩; replace H : (if 0 ≤ (wrap64 (x18_1 + 1)) then (if (wrap64 (x18_1 + 1)) ≤ (l0.length : Int) then ((some (l0.drop ((wrap64 (x18_1 + 1)) : Int).toNat : List (S49))).bind fun y257 => (if y254.length + y257.length < 35184372088832 then ((l4_FirstRest.f k1 (y254 ++ y257) a1_0 a1_1 a1_2 a1_3 a1_4 a1_5).bind fun t264 => (some t264)) else (none))) else (none)) else (none)) = some r := by first | (rw [hy254]; with_reducible exact H) | (have H2_ := (Option.bind_some _ _).symm.trans H; rw [hy254]; with_reducible exact H2_) | (have H2_ := (Option.bind_some _ _).symm.trans H; with_reducible exact H2_) | with_reducible exact H | (rw [hy254]; exact H) | exact H
   have Ny254 := zA.mk hy254; clear hy254; obtain ⟨ji17, hji17⟩ : ∃ j_ : Int, (wrap64 (x18_1 + 1)) = j_ := ⟨_, rfl⟩; replace H : (if 0 ≤ (ji17) then (if (ji17) ≤ (l0.length : Int) then ((some (l0.drop ((ji17) : Int).toNat : List (S49))).bind fun y257 => (if y254.length + y257.length < 35184372088832 then ((l4_FirstRest.f k1 (y254 ++ y257) a1_0 a1_1 a1_2 a1_3 a1_4 a1_5).bind fun t264 => (some t264)) else (none))) else (none)) else (none)) = some r := by first | (rw [hji17] at H; exact H) | (simp only [hji17] at H ⊢; exact H)
   have hji17w : (IntKind.i64.wrap (x18_1 + 1)) = ji17 := (i64_w _).trans hji17
   by_cases c18 : 0 ≤ (ji17)
   rotate_left
   ·rw [if_neg c18] at H
    exact absurd H (by simp)
   rw [if_pos c18] at H; have c18b0 := eq_true c18; have c18b1 : decide (0 ≤ (ji17)) = true := decide_eq_true c18
   clear c18; by_cases c19 : (ji17) ≤ (l0.length : Int)
   rotate_left
   ·rw [if_neg c19] at H
    exact absurd H (by simp)
   rw [if_pos c19] at H; have c19b0 := eq_true c19; have c19b1 : decide ((ji17) ≤ (l0.length : Int)) = true := decide_eq_true c19
   clear c19; obtain ⟨y257, hy257⟩ : ∃ y_ : List (S49), y_ = (l0.drop ((ji17) : Int).toNat) := ⟨_, rfl⟩; replace H : (if y254.length + y257.length < 35184372088832 then ((l4_FirstRest.f k1 (y254 ++ y257) a1_0 a1_1 a1_2 a1_3 a1_4 a1_5).bind fun t264 => (some t264)) else (none)) = some r := by first | (rw [hy257]; with_reducible exact H) | (have H2_ := (Option.bind_some _ _).symm.trans H; rw [hy257]; with_reducible exact H2_) | (have H2_ := (Option.bind_some _ _).symm.trans H; with_reducible exact H2_) | with_reducible exact H | (rw [hy257]; exact H) | exact H
   have Ny257 := zA.mk hy257; clear hy257; by_cases c20 : y254.length + y257.length < 35184372088832
   rotate_left
   ·rw [if_neg c20] at H
    exact absurd H (by simp)
   rw [if_pos c20] at H; have LMc20 := zA.mk c20; clear c20; obtain ⟨y261, hy261⟩ : ∃ y_ : List (S49), y_ = (y254 ++ y257) := ⟨_, rfl⟩; replace H : ((l4_FirstRest.f k1 y261 a1_0 a1_1 a1_2 a1_3 a1_4 a1_5).bind fun t264 => (some t264)) = some r := by first | (rw [hy261]; with_reducible exact H) | (have H2_ := (Option.bind_some _ _).symm.trans H; rw [hy261]; with_reducible exact H2_) | (have H2_ := (Option.bind_some _ _).symm.trans H; with_reducible exact H2_) | with_reducible exact H | (rw [hy261]; exact H) | exact H
   have Ny261 := zA.mk hy261; clear hy261; replace H := Option.bind_eq_some_iff.mp H; obtain ⟨t264, A210, H⟩ := H; replace H : (some t264) = some r := H; have A21 := zA.mk A210; clear A210; obtain rfl := Option.some.inj H
   have p246 : 0 ≤ (x18_1 : Int) := aD
   have q246 : x18_1 < (l0.length : Int) := aD
   obtain ⟨ad246, e246, hx246_0, hx246_1, hx246_2, hx246_3⟩ := at_T49 HR0.out x18_1 p246 q246; cases e246
   replace hx246_0 := (HB.out.cell (World.block_lt_of_cell? w _ hx246_0)).trans hx246_0; replace hx246_1 := (HB.out.cell (World.block_lt_of_cell? w _ hx246_1)).trans hx246_1; replace hx246_2 := (HB.out.cell (World.block_lt_of_cell? w _ hx246_2)).trans hx246_2; replace hx246_3 := (HB.out.cell (World.block_lt_of_cell? w _ hx246_3)).trans hx246_3; replace p246 := eq_true p246; replace q246 := eq_true q246; try go_wp2
   have n0_ := zA.mk (zD BK244.out); have n1_ := zA.mk (below_drew1 HB.out); clear BK244; clear HB; have BK244 := n0_; have HB := n1_; clear n0_ n1_; have q23 : (x18_1 : Int) ≤ ((l0.length : Int) : Int) := aD
   obtain ⟨i023, hi023, _, hsz23, _⟩ := info_parts info49; have hroom23 : l0.length ≤ c0 := HC0.out
   have hC23 : Kd.C k49 _ (some ad246) l0.length l0 := HR0.out
   have hcut23 := cut_to (P := Try.prog) 22 49 .i64 Try.underlying22 hi023 (some ad246) l0.length c0 x18_1 (aD) q23 hroom23; have hr23 := Kd.C_take (m := (x18_1 : Int).toNat) hC23 (by omega)
   have hy23 : y250.length = (x18_1 : Int).toNat := (by rw [Ny250.out, List.length_take]; omega)
   rw [← Ny250.out] at hr23; rw [← hy23] at hcut23; have HR253 := zA.mk hr23; have HC253 := zA.mk (show y250.length ≤ c0 from by omega)
   clear hr23 hC23 hroom23 hi023 hsz23; have KY23 := zA.mk hy23; clear hy23; replace q23 := eq_true q23; have q24 : ((ji17) : Int) ≤ ((l0.length : Int) : Int) := aD
   obtain ⟨i024, hi024, _, hsz24, _⟩ := info_parts info49; have hroom24 : l0.length ≤ c0 := HC0.out
   have hC24 : Kd.C k49 _ (some ad246) l0.length l0 := HR0.out
   have q024 : (0 : Int) ≤ ((ji17) : Int) := aD
   have hcut24 := cut_from (P := Try.prog) 22 49 .i64 Try.underlying22 hi024 4 hsz24 (some ad246) l0.length c0 (ji17) q024 q24; have hr24 := Kd.C_drop (m := ((ji17) : Int).toNat) (c := c0) hC24 (by omega) hroom24
   obtain ⟨A24, hA24⟩ : ∃ A1, A1 = (if c0 = ((ji17) : Int).toNat then (some ad246) else ((some ad246) : Option Addr).map (·.add (((ji17) : Int).toNat * 4))) := ⟨_, rfl⟩
   obtain ⟨c24, hc24⟩ : ∃ c1, c1 = c0 - ((ji17) : Int).toNat := ⟨_, rfl⟩; have hy24 : y257.length = l0.length - ((ji17) : Int).toNat := (by rw [Ny257.out, List.length_drop] <;> omega)
   rw [show (l0).drop ((ji17) : Int).toNat = y257 from Ny257.out.symm] at hr24; replace hr24 : Kd.C k49 _ A24 y257.length y257 := (by rw [hA24]; exact hr24)
   rw [← hy24, ← hA24, ← hc24] at hcut24; have HR260 := zA.mk hr24; have HC260 := zA.mk (show y257.length ≤ c24 from by rw [hy24, hc24]; exact Nat.sub_le_sub_right hroom24 _)
   clear hr24 hC24 hroom24 hi024 hsz24 hc24; have KY24 := zA.mk hy24; have KA24 := zA.mk hA24; clear hy24 hA24; replace q24 := eq_true q24; refine start_ (n := 11) (S := fun w' => True) (ds := []) #[false, false, false, false, false, false, false, false, false, false, false] (by kernel_rfl) rfl rfl trivial (fun hHeld => ?_); refine with_tabW l4_FirstRest.tab9 l4_FirstRest.bits9 (fun HT_ HW_ => ?_)
   generalize wr.drew = w22 at BK244 HB HR253 HR260 hHeld ⊢
   refine aP 1 (some 29) #[false, true, false, false, false, false, false, false, false, false, false] HT_ ?_
   refine aP 2 (some 30) #[false, true, true, false, false, false, false, false, false, false, false] HT_ ?_
   refine aP 3 (some 31) #[false, true, true, true, false, false, false, false, false, false, false] HT_ ?_
   refine aP 5 (some 33) #[false, true, true, true, false, true, false, false, false, false, false] HT_ ?_
   refine aP 6 (some 34) #[false, true, true, true, false, true, true, false, false, false, false] HT_ ?_
   refine aP 7 (some 35) #[false, true, true, true, false, true, true, true, false, false, false] HT_ ?_
   refine aP 8 (some 36) #[false, true, true, true, false, true, true, true, true, false, false] HT_ ?_
   refine one_ (i := 0) (N := some 28) #[true, true, true, true, false, true, true, true, true, false, false] rfl rfl (one_of HT_.out (by kernel_rfl)) (by decide) (fun K hK => ?_)
   refine Kd.R_lit_step k49 _ 49 ?hg (N := 28) ?hd (xs := ([] : List (S49))) (inner := []) (ok := fun _ => True) (okp := fun _ => True) ?hr ?hp (fun _ hk => hk) trivial (Below.refl _ _) (Nat.le_refl _) (by simp) ?_; (case hd => rfl); (case hg => rfl); (case hr => first | (go_simp; done) | (go_simp; rfl)); (case hp => exact (Reps.none _ _))
   intro v248 w25 ho26 hb hg_ hnew_
   clear hg_ hnew_; (first | rw [← Ny247.out] at ho26 | (simp only [Int.reduceToNat] at ho26; rw [← Ny247.out] at ho26))
   have n0_ := zA.mk (Kd.zP ho26 (below_size (aL HB))); have n1_ := zA.mk (blk_below (g := gb244) (o := .cells #[.int .u8 a1_0, .int .u8 a1_1, .int .u8 a1_2, .int .u16 a1_3, .int .u16 a1_4, .float .f64 a1_5] 26 (0, 0)) (aB BK244) hb); have n2_ := zA.mk (below_step (aL HB) hb); clear BK244; clear HB; have HO249 := n0_; have BK244 := n1_; have HB := n2_; clear n0_ n1_ n2_; clear hb ho26; refine hK.out _ _ trivial (fun hHeld => ?_)
   clear hK K; refine norm_ (a' := ?_) ?_ ?_
   rotate_left
   ·show Act.put _ (some 28) _ = _
    simp only [Act.put, sA_, sB_, sC_, i64_w, i32_w]; rfl
   refine one_ (i := 4) (N := some 32) #[true, true, true, true, true, true, true, true, true, false, false] rfl rfl (one_of HT_.out (by kernel_rfl)) (by decide) (fun K hK => ?_)
   refine Kd.R_append_rows_step k49 (w0 := w) w.heap.size (by rfl) (.tmp 28) (.tmp 31) 22 49 (.agg #[(.int .u8 0), (.int .u8 0), (.int .u8 0), (.int .u8 0)]) 4 rfl Try.underlying22 info49 rfl (by decide) (by omega) v248 y247 y250 _ _ _ (fun _ => True) (fun _ => False) rfl rfl ?aO ?aR (fun _ _ h => h) (fun _ h => h.elim) ?aF ?aB ?aS ?aL ?_
   (case aR => exact aA HR253 HB)
   (case aB => exact (aL HB))
   (case aF => exact (fun _ _ => trivial))
   (case aO => exact (aR HO249))
   (case aS => exact (below_size (aL HB)))
   (case aL => have := LMc16.out; omega)
   intro v255 w27 ho hb hg hat
   rw [← Ny254.out] at ho; have n0_ := zA.mk (blk_grown (g := gb244) (o := .cells #[.int .u8 a1_0, .int .u8 a1_1, .int .u8 a1_2, .int .u16 a1_3, .int .u16 a1_4, .float .f64 a1_5] 26 (0, 0)) (aB BK244) hg (Kd.R_ne HO249.out BK244.out (by decide)))
   have n1_ := zA.mk (hb); have n2_ := zA.mk (ho); clear BK244; clear HB; clear HO249; have BK244 := n0_; have HB := n1_; have HO256 := n2_; clear n0_ n1_ n2_; clear ho hb hg hat; refine hK.out _ _ trivial (fun hHeld => ?_)
   clear hK K; refine norm_ (a' := ?_) ?_ ?_
   rotate_left
   ·show Act.put _ (some 32) _ = _
    simp only [Act.put, sA_, sB_, sC_, i64_w, i32_w]; rfl
   refine one_ (i := 9) (N := some 37) #[true, true, true, true, true, true, true, true, true, true, false] rfl rfl (one_of HT_.out (by kernel_rfl)) (by decide) (fun K hK => ?_)
   refine Kd.R_append_rows_step k49 (w0 := w) w.heap.size (by rfl) (.tmp 32) (.tmp 36) 22 49 (.agg #[(.int .u8 0), (.int .u8 0), (.int .u8 0), (.int .u8 0)]) 4 rfl Try.underlying22 info49 rfl (by decide) (by omega) v255 y254 y257 _ _ _ (fun _ => True) (fun _ => False) rfl rfl ?aO ?aR (fun _ _ h => h) (fun _ h => h.elim) ?aF ?aB ?aS ?aL ?_
   (case aR => exact aA HR260 HB)
   (case aB => exact (aL HB))
   (case aF => exact (fun _ _ => trivial))
   (case aO => exact (aR HO256))
   (case aS => exact (below_size (aL HB)))
   (case aL => have := LMc20.out; omega)
   intro v262 w28 ho hb hg hat
   rw [← Ny261.out] at ho; have n0_ := zA.mk (blk_grown (g := gb244) (o := .cells #[.int .u8 a1_0, .int .u8 a1_1, .int .u8 a1_2, .int .u16 a1_3, .int .u16 a1_4, .float .f64 a1_5] 26 (0, 0)) (aB BK244) hg (Kd.R_ne HO256.out BK244.out (by decide)))
   have n1_ := zA.mk (hb); have n2_ := zA.mk (ho); clear BK244; clear HB; clear HO256; have BK244 := n0_; have HB := n1_; have HO263 := n2_; clear n0_ n1_ n2_; clear ho hb hg hat; refine hK.out _ _ trivial (fun hHeld => ?_)
   clear hK K; refine norm_ (a' := ?_) ?_ ?_
   rotate_left
   ·show Act.put _ (some 37) _ = _
    simp only [Act.put, sA_, sB_, sC_, i64_w, i32_w]; rfl
   refine aP 10 (some 0) #[true, true, true, true, true, true, true, true, true, true, true] HT_ ?_
   refine done_ (done_of HT_.out (by kernel_rfl)) ?_
   obtain ⟨hcz29_0, hcz29_1, hcz29_2, hcz29_3, hcz29_4, hcz29_5, hfz29_0, hfz29_1, hfz29_2, hfz29_3, hfz29_4, hfz29_5⟩ := aC6 BK244; obtain ⟨Ao30, co30, eo30⟩ := Kd.zO HO263.out; subst eo30; try go_wp2_with (first | ((with_reducible refine gate_callee (f := 6) rfl ?_); refine goesL_ (some 40) rfl rfl Try.func6 (by kernel_rfl) rfl #[.slice Ao30 y261.length co30, .agg #[.int .u8 a1_0, .int .u8 a1_1, .int .u8 a1_2, .int .u16 a1_3, .int .u16 a1_4, .float .f64 a1_5]] rfl aT ?_; (with_reducible refine (ih k1 (by have := HK1.out; omega) _ _ y261 a1_0 a1_1 a1_2 a1_3 a1_4 a1_5 t264 _ ?side1 ?side2 A21.out (by first | exact ⟨rfl⟩ | exact hrt_)).mono ?_); (case side1 => exact aF HO263); (case side2 => exact (Kd.zL HO263.out).2.1); rintro e w31 ⟨rfl, hb⟩; refine ⟨_, rfl, ?_⟩; have n0_ := zA.mk (Kd.zM (aR HO263) hb); have n1_ := zA.mk (blk_below (g := gb244) (o := .cells #[.int .u8 a1_0, .int .u8 a1_1, .int .u8 a1_2, .int .u16 a1_3, .int .u16 a1_4, .float .f64 a1_5] 26 (0, 0)) (aB BK244) hb); have n2_ := zA.mk (below_step (aL HB) hb); clear HO263; clear BK244; clear HB; have HO263 := n0_; have BK244 := n1_; have HB := n2_; clear n0_ n1_ n2_; (try clear hb); (try clear hb2); (try clear hk); (try clear hi)))
   go_ret
   exact ⟨by first | rfl | (simp [errW_none, errW_some] <;> rfl) | (simp only [← hji17]; first | rfl | (simp [errW_none, errW_some] <;> rfl)) | (simp [*, errW_none, errW_some] <;> rfl), aL HB⟩
  rw [if_neg c10] at H; have c10b0 : decide (x18_1 < (l0.length : Int)) = false := decide_eq_false c10
  clear c10; replace H := Option.bind_eq_some_iff.mp H; obtain ⟨⟨t265, t268⟩, A320, H⟩ := H; replace H : ((h3_Config.f a1_0 a1_1 a1_2 a1_3 a1_4 a1_5).bind fun bt271 => ((first_Break.f k1 t265 t268 0 (t265.length : Int) bt271.1 bt271.2.1 bt271.2.2.1 bt271.2.2.2.1 bt271.2.2.2.2.1 bt271.2.2.2.2.2).bind fun t279 => (l4_FirstRest.l1 k1 (t265.length : Int) t279 (t279.length : Int) 0 t265 t268 bt271.1 bt271.2.1 bt271.2.2.1 bt271.2.2.2.1 bt271.2.2.2.2.1 bt271.2.2.2.2.2))) = some r := H
  have A32 := zA.mk A320; clear A320; replace H := Option.bind_eq_some_iff.mp H; obtain ⟨⟨t271, t272, t273, t274, t275, t276⟩, A330, H⟩ := H; replace H : ((first_Break.f k1 t265 t268 0 (t265.length : Int) t271 t272 t273 t274 t275 t276).bind fun t279 => (l4_FirstRest.l1 k1 (t265.length : Int) t279 (t279.length : Int) 0 t265 t268 t271 t272 t273 t274 t275 t276)) = some r := H
  have A33 := zA.mk A330; clear A330; replace H := Option.bind_eq_some_iff.mp H; obtain ⟨t279, A340, H⟩ := H; replace H : (l4_FirstRest.l1 k1 (t265.length : Int) t279 (t279.length : Int) 0 t265 t268 t271 t272 t273 t274 t275 t276) = some r := H; have A34 := zA.mk A340; clear A340; have H' := zA.mk H
  clear H; try go_wp2
  have n0_ := zA.mk (zD BK244.out); have n1_ := zA.mk (below_drew1 HB.out); clear BK244; clear HB; have BK244 := n0_; have HB := n1_; clear n0_ n1_; refine start_ (n := 8) (S := fun w' => w'.cell? ⟨gb244, 0, none⟩ = some (.int .u8 a1_0) ∧ w'.cell? ⟨gb244, 1, none⟩ = some (.int .u8 a1_1) ∧ w'.cell? ⟨gb244, 2, none⟩ = some (.int .u8 a1_2) ∧ w'.cell? ⟨gb244, 3, none⟩ = some (.int .u16 a1_3) ∧ w'.cell? ⟨gb244, 4, none⟩ = some (.int .u16 a1_4) ∧ w'.cell? ⟨gb244, 5, none⟩ = some (.float .f64 a1_5)) (ds := []) #[false, false, false, false, false, false, false, false] (by kernel_rfl) rfl rfl ⟨(blk_cell BK244.out 0).trans rfl, (blk_cell BK244.out 1).trans rfl, (blk_cell BK244.out 2).trans rfl, (blk_cell BK244.out 3).trans rfl, (blk_cell BK244.out 4).trans rfl, (blk_cell BK244.out 5).trans rfl⟩ (fun hHeld => ?_); refine with_tabW l4_FirstRest.tab12 l4_FirstRest.bits12 (fun HT_ HW_ => ?_)
  generalize wr.drew = w35 at BK244 HB hHeld ⊢
  refine aP 0 (some 42) (tf_ 1 8) HT_ ?_
  refine take_ (i := 2) (N := some 44) (v := ?_) (a' := ?_) #[true, false, true, false, false, false, false, false] rfl rfl (take_ofW HT_.out HW_.out (by kernel_rfl)) (fun _ _ _ h => h) (Or.inl ⟨by rfl, ?_⟩) hHeld ?_ ?_
  rotate_left
  ·rintro w' ⟨s0, s1, s2, s3, s4, s5⟩
   go_simp
   with_reducible rfl
  rotate_left
  ·simp only [Act.put, sA_, sB_, sC_, i64_w, i32_w]
   rfl
  refine join_ (σ := Value × Value × Nat × Nat) 2 #[true, true, true, true, true, true, false, false] (fun s_ => [(43, .agg #[s_.1, s_.2.1]), (45, .agg #[.int .i64 t271, .int .i64 t272, .int .u8 t273, .int .i64 t274, .int .i64 t275, .float .f64 t276]), (6, .pointer (some ⟨s_.2.2.1, 0, none⟩)), (7, .pointer (some ⟨s_.2.2.2, 0, none⟩))]) (fun s_ w' => (w'.cell? ⟨gb244, 0, none⟩ = some (.int .u8 a1_0) ∧ w'.cell? ⟨gb244, 1, none⟩ = some (.int .u8 a1_1) ∧ w'.cell? ⟨gb244, 2, none⟩ = some (.int .u8 a1_2) ∧ w'.cell? ⟨gb244, 3, none⟩ = some (.int .u16 a1_3) ∧ w'.cell? ⟨gb244, 4, none⟩ = some (.int .u16 a1_4) ∧ w'.cell? ⟨gb244, 5, none⟩ = some (.float .f64 a1_5)) ∧ (Kd.R k61 61 w' w.heap.size (fun _ => True) s_.1 t265) ∧ (Kd.R (Kd.int .u8) 43 w' w.heap.size (fun _ => True) s_.2.1 t268) ∧ (w'.heap[gb244]? = some (.cells #[.int .u8 a1_0, .int .u8 a1_1, .int .u8 a1_2, .int .u16 a1_3, .int .u16 a1_4, .float .f64 a1_5] 26 (0, 0))) ∧ (w'.heap[s_.2.2.1]? = some (.cells #[.slice none 0 0, .slice none 0 0] 31 (0, 0))) ∧ (w'.heap[s_.2.2.2]? = some (.cells #[.int .i64 0, .int .i64 0, .int .u8 0, .int .i64 0, .int .i64 0, .float .f64 0] 35 (0, 0))) ∧ (w.heap.size ≤ s_.2.2.1) ∧ (w.heap.size ≤ s_.2.2.1) ∧ (gb244 ≠ s_.2.2.1) ∧ (s_.2.2.1 ≠ gb244) ∧ (s_.2.2.2 ≠ s_.2.2.1) ∧ (s_.2.2.1 ≠ s_.2.2.2) ∧ (w.heap.size ≤ s_.2.2.2) ∧ (w.heap.size ≤ s_.2.2.2) ∧ (gb244 ≠ s_.2.2.2) ∧ (s_.2.2.2 ≠ gb244) ∧ (Below w.heap.size w w')) ?_ ?_
  rotate_left
  ·intro hJ1_3_4_5
   refine par4_ (fuel := 2) (l' := #[true, true, true, true, true, true, false, false]) (i1 := 1) (i3 := 3) (i4 := 4) (i5 := 5) (σ := Value × Value) (cs4 := #[.slice none 0 0, .slice none 0 0]) (t4 := 31) (cs5 := #[.int .i64 0, .int .i64 0, .int .u8 0, .int .i64 0, .int .i64 0, .float .f64 0]) (t5 := 35) (fun s_ => .agg #[s_.1, s_.2]) (.agg #[.int .i64 t271, .int .i64 t272, .int .u8 t273, .int .i64 t274, .int .i64 t275, .float .f64 t276]) (par4_of HT_.out (by kernel_rfl)) rfl rfl rfl rfl rfl rfl rfl rfl rfl rfl (by decide) rfl (fun w_ => (w_.cell? ⟨gb244, 0, none⟩ = some (.int .u8 a1_0) ∧ w_.cell? ⟨gb244, 1, none⟩ = some (.int .u8 a1_1) ∧ w_.cell? ⟨gb244, 2, none⟩ = some (.int .u8 a1_2) ∧ w_.cell? ⟨gb244, 3, none⟩ = some (.int .u16 a1_3) ∧ w_.cell? ⟨gb244, 4, none⟩ = some (.int .u16 a1_4) ∧ w_.cell? ⟨gb244, 5, none⟩ = some (.float .f64 a1_5)) ∧ (w_.heap[gb244]? = some (.cells #[.int .u8 a1_0, .int .u8 a1_1, .int .u8 a1_2, .int .u16 a1_3, .int .u16 a1_4, .float .f64 a1_5] 26 (0, 0))) ∧ (Below w.heap.size w w_)) ?pgrow (fun _ hP_ => hP_.1) (fun s_ w_ => (Kd.R k61 61 w_ w.heap.size (fun _ => True) s_.1 t265) ∧ (Kd.R (Kd.int .u8) 43 w_ w.heap.size (fun _ => True) s_.2 t268)) ?pF (fun g_ => (w.heap.size ≤ g_) ∧ (gb244 ≠ g_) ∧ (g_ ≠ gb244)) ?pNew ?pc1 ?pc3 ?pc4 ?pc5 ?pPhi ?pcont
   case pgrow =>
    intro w0_ w1_ hP_ hb_; obtain ⟨hS_, k0_, k1_⟩ := hP_; have BK244 := zA.mk (by first | exact Kd.zM k0_ hb_ | exact blk_below k0_ hb_ | exact below_step k0_ hb_); have HB := zA.mk (by first | exact Kd.zM k1_ hb_ | exact blk_below k1_ hb_ | exact below_step k1_ hb_)
    exact ⟨⟨(blk_cell BK244.out 0).trans rfl, (blk_cell BK244.out 1).trans rfl, (blk_cell BK244.out 2).trans rfl, (blk_cell BK244.out 3).trans rfl, (blk_cell BK244.out 4).trans rfl, (blk_cell BK244.out 5).trans rfl⟩, BK244.out, HB.out⟩
   case pF => intro s_ w0_ w1_ hP_ hb_; obtain ⟨f0_, f1_⟩ := hP_; exact ⟨(by first | exact Kd.zM f0_ hb_ | exact blk_below f0_ hb_ | exact below_step f0_ hb_), (by first | exact Kd.zM f1_ hb_ | exact blk_below f1_ hb_ | exact below_step f1_ hb_)⟩
   case pNew => intro w0_ hP_; obtain ⟨hS_, k0_, k1_⟩ := hP_; (try have l0_ := blk_lt k0_); (try have m0_ := below_size k0_); (try have l1_ := blk_lt k1_); (try have m1_ := below_size k1_); refine ⟨?_, ?_, ?_⟩ <;> omega
   case pc1 =>
    intro a_ W_ K_ hev_ hP_ h_; obtain ⟨hS_, k0_, k1_⟩ := hP_; have BK244 := zA.mk k0_; have HB := zA.mk k1_
    refine goes_ Try.func13 (by kernel_rfl) rfl #[.slice A0 l0.length c0] (by rfl) rfl rfl (by simp only [List.map_toArray, List.map_cons, List.map_nil]; first | rfl | (simp (disch := decide) only [hev_]; rfl) | (rw [hev_ _ (by decide) (by decide) (by decide) (by decide)]; rfl)) ?_
    with_reducible refine (h3_Para.calls k1 _ _ l0 t265 t268 _ ?side1 ?side2 A32.out).mono ?_
    (case side1 => exact aA HR0 HB)
    (case side2 => exact HC0.out)
    rintro e w36 ⟨v266, v269, rfl, ho0, ho1, hb⟩
    refine ⟨_, rfl, ?_⟩
    exact h_ (v266, v269) _ hb ⟨(Kd.zP ho0 (below_size (aL HB))), (Kd.zP ho1 (below_size (aL HB)))⟩
   case pc3 =>
    intro a_ W_ K_ hev_ hP_ h_; obtain ⟨hS_, k0_, k1_⟩ := hP_; have BK244 := zA.mk k0_; have HB := zA.mk k1_
    refine goes_ Try.func14 (by kernel_rfl) rfl #[.agg #[.int .u8 a1_0, .int .u8 a1_1, .int .u8 a1_2, .int .u16 a1_3, .int .u16 a1_4, .float .f64 a1_5]] (by rfl) rfl rfl (by simp only [List.map_toArray, List.map_cons, List.map_nil]; first | rfl | (simp (disch := decide) only [hev_]; rfl) | (rw [hev_ _ (by decide) (by decide) (by decide) (by decide)]; rfl)) ?_
    with_reducible refine (h3_Config.calls a1_0 a1_1 a1_2 a1_3 a1_4 a1_5 t271 t272 t273 t274 t275 t276 _ A33.out).mono ?_
    rintro e w38 ⟨rfl, hb⟩
    refine ⟨_, rfl, ?_⟩
    exact h_ _ hb
   case pc4 => intro a_ W_; first | (go_simp; done) | (go_simp; rfl)
   case pc5 => intro a_ W_; first | (go_simp; done) | (go_simp; rfl)
   case pPhi => exact ⟨hHeld, BK244.out, HB.out⟩
   case pcont => intro s_ gb277 gb278 w40 hP_ hF_ y4_ y5_ x4_ x5_ he_; obtain ⟨hS_, k0_, k1_⟩ := hP_; obtain ⟨v266, v269⟩ := s_; obtain ⟨f0_, f1_⟩ := hF_; exact hJ1_3_4_5 (v266, v269, gb277, gb278) _ ⟨hS_, f0_, f1_, k0_, y4_, y5_, x4_.1, x4_.1, x4_.2.1, x4_.2.2, (Ne.symm he_), he_, x5_.1, x5_.1, x5_.2.1, x5_.2.2, k1_⟩
  rintro ⟨v266, v269, gb277, gb278⟩ w40 ⟨hS_, h0_, h1_, h2_, h3_, h4_, h5_, h6_, h7_, h8_, h9_, h10_, h11_, h12_, h13_, h14_, h15_⟩
  have n0_ : zA (Kd.R k61 61 w40 w.heap.size (fun _ => True) v266 t265) := ⟨h0_⟩
  have n1_ : zA (Kd.R (Kd.int .u8) 43 w40 w.heap.size (fun _ => True) v269 t268) := ⟨h1_⟩
  have n2_ : zA (w40.heap[gb244]? = some (.cells #[.int .u8 a1_0, .int .u8 a1_1, .int .u8 a1_2, .int .u16 a1_3, .int .u16 a1_4, .float .f64 a1_5] 26 (0, 0))) := ⟨h2_⟩
  have n3_ : zA (w40.heap[gb277]? = some (.cells #[.slice none 0 0, .slice none 0 0] 31 (0, 0))) := ⟨h3_⟩
  have n4_ : zA (w40.heap[gb278]? = some (.cells #[.int .i64 0, .int .i64 0, .int .u8 0, .int .i64 0, .int .i64 0, .float .f64 0] 35 (0, 0))) := ⟨h4_⟩
  have n5_ : zA (w.heap.size ≤ gb277) := ⟨h5_⟩
  have n6_ : zA (w.heap.size ≤ gb277) := ⟨h6_⟩
  have n7_ : zA (gb244 ≠ gb277) := ⟨h7_⟩
  have n8_ : zA (gb277 ≠ gb244) := ⟨h8_⟩
  have n9_ : zA (gb278 ≠ gb277) := ⟨h9_⟩
  have n10_ : zA (gb277 ≠ gb278) := ⟨h10_⟩
  have n11_ : zA (w.heap.size ≤ gb278) := ⟨h11_⟩
  have n12_ : zA (w.heap.size ≤ gb278) := ⟨h12_⟩
  have n13_ : zA (gb244 ≠ gb278) := ⟨h13_⟩
  have n14_ : zA (gb278 ≠ gb244) := ⟨h14_⟩
  have n15_ : zA (Below w.heap.size w w40) := ⟨h15_⟩
  clear BK244 HB h0_ h1_ h2_ h3_ h4_ h5_ h6_ h7_ h8_ h9_ h10_ h11_ h12_ h13_ h14_ h15_; have HO267 := n0_; have HO270 := n1_; have BK244 := n2_; have BK277 := n3_; have BK278 := n4_; have GW277 := n5_; have GE277 := n6_; have NB244_277 := n7_; have NB277_244 := n8_; have NB278_277 := n9_; have NB277_278 := n10_; have GW278 := n11_; have GE278 := n12_; have NB244_278 := n13_; have NB278_244 := n14_; have HB := n15_; clear n0_ n1_ n2_ n3_ n4_ n5_ n6_ n7_ n8_ n9_ n10_ n11_ n12_ n13_ n14_ n15_; have hHeld : w40.cell? ⟨gb244, 0, none⟩ = some (.int .u8 a1_0) ∧ w40.cell? ⟨gb244, 1, none⟩ = some (.int .u8 a1_1) ∧ w40.cell? ⟨gb244, 2, none⟩ = some (.int .u8 a1_2) ∧ w40.cell? ⟨gb244, 3, none⟩ = some (.int .u16 a1_3) ∧ w40.cell? ⟨gb244, 4, none⟩ = some (.int .u16 a1_4) ∧ w40.cell? ⟨gb244, 5, none⟩ = some (.float .f64 a1_5) := hS_
  obtain ⟨Ao41, co41, eo41⟩ := Kd.zO HO267.out; (first | subst eo41 | (injection eo41 with f1_ f2_ f3_; have f4_ := f1_.symm; have f5_ := f3_.symm; clear f1_ f2_ f3_; subst f4_; subst f5_))
  obtain ⟨Ao43, co43, eo43⟩ := Kd.zO HO270.out; (first | subst eo43 | (injection eo43 with f1_ f2_ f3_; have f4_ := f1_.symm; have f5_ := f3_.symm; clear f1_ f2_ f3_; subst f4_; subst f5_))
  refine norm_ (a' := ?_) ?_ ?_
  rotate_left
  ·simp only [putAll, Act.put, sA_, sB_, sC_]
   rfl
  refine one_ (i := 6) (N := none) #[true, true, true, true, true, true, true, false] rfl rfl (one_of HT_.out (by kernel_rfl)) (by decide) (fun K hK => ?_)
  have hs42 : w40.cell? ⟨gb277, 0, none⟩ = some (.slice none 0 0) := (blk_cell BK277.out 0).trans rfl
  have hfs42 := blk_frozen BK277.out 0; have hns42_0 := NB244_277.out; have hns42_2 := NB278_277.out; have hms42_0 := NB277_244.out; have hms42_2 := NB277_278.out; have hs44 : w40.cell? ⟨gb277, 1, none⟩ = some (.slice none 0 0) := (blk_cell BK277.out 1).trans rfl
  have hfs44 := blk_frozen BK277.out 1; have hns44_0 := NB244_277.out; have hns44_2 := NB278_277.out; have hms44_0 := NB277_244.out; have hms44_2 := NB277_278.out; refine skip_ (w1 := ?_) (by rfl) rfl ?_ ?_
  rotate_left
  ·go_simp
   rfl
  refine hK.out _ _ ⟨((cell_far (p := ⟨gb277, _, none⟩) NB244_277.out _).trans (((cell_far (p := ⟨gb277, _, none⟩) NB244_277.out _).trans (hHeld.1)))), ((cell_far (p := ⟨gb277, _, none⟩) NB244_277.out _).trans (((cell_far (p := ⟨gb277, _, none⟩) NB244_277.out _).trans (hHeld.2.1)))), ((cell_far (p := ⟨gb277, _, none⟩) NB244_277.out _).trans (((cell_far (p := ⟨gb277, _, none⟩) NB244_277.out _).trans (hHeld.2.2.1)))), ((cell_far (p := ⟨gb277, _, none⟩) NB244_277.out _).trans (((cell_far (p := ⟨gb277, _, none⟩) NB244_277.out _).trans (hHeld.2.2.2.1)))), ((cell_far (p := ⟨gb277, _, none⟩) NB244_277.out _).trans (((cell_far (p := ⟨gb277, _, none⟩) NB244_277.out _).trans (hHeld.2.2.2.2.1)))), ((cell_far (p := ⟨gb277, _, none⟩) NB244_277.out _).trans (((cell_far (p := ⟨gb277, _, none⟩) NB244_277.out _).trans (hHeld.2.2.2.2.2))))⟩ (fun hHeld => ?_)
  clear hK K; refine one_ (i := 7) (N := none) #[true, true, true, true, true, true, true, true] rfl rfl (one_of HT_.out (by kernel_rfl)) (by decide) (fun K hK => ?_)
  have hs45 : w40.cell? ⟨gb278, 0, none⟩ = some (.int .i64 0) := (blk_cell BK278.out 0).trans rfl
  have hfs45 := blk_frozen BK278.out 0; have hns45_0 := NB244_278.out; have hns45_1 := NB277_278.out; have hms45_0 := NB278_244.out; have hms45_1 := NB278_277.out; have hs46 : w40.cell? ⟨gb278, 1, none⟩ = some (.int .i64 0) := (blk_cell BK278.out 1).trans rfl
  have hfs46 := blk_frozen BK278.out 1; have hns46_0 := NB244_278.out; have hns46_1 := NB277_278.out; have hms46_0 := NB278_244.out; have hms46_1 := NB278_277.out; have hs47 : w40.cell? ⟨gb278, 2, none⟩ = some (.int .u8 0) := (blk_cell BK278.out 2).trans rfl
  have hfs47 := blk_frozen BK278.out 2; have hns47_0 := NB244_278.out; have hns47_1 := NB277_278.out; have hms47_0 := NB278_244.out; have hms47_1 := NB278_277.out; have hs48 : w40.cell? ⟨gb278, 3, none⟩ = some (.int .i64 0) := (blk_cell BK278.out 3).trans rfl
  have hfs48 := blk_frozen BK278.out 3; have hns48_0 := NB244_278.out; have hns48_1 := NB277_278.out; have hms48_0 := NB278_244.out; have hms48_1 := NB278_277.out; have hs49 : w40.cell? ⟨gb278, 4, none⟩ = some (.int .i64 0) := (blk_cell BK278.out 4).trans rfl
  have hfs49 := blk_frozen BK278.out 4; have hns49_0 := NB244_278.out; have hns49_1 := NB277_278.out; have hms49_0 := NB278_244.out; have hms49_1 := NB278_277.out; have hs50 : w40.cell? ⟨gb278, 5, none⟩ = some (.float .f64 0) := (blk_cell BK278.out 5).trans rfl
  have hfs50 := blk_frozen BK278.out 5; have hns50_0 := NB244_278.out; have hns50_1 := NB277_278.out; have hms50_0 := NB278_244.out; have hms50_1 := NB278_277.out; refine skip_ (w1 := ?_) (by rfl) rfl ?_ ?_
  rotate_left
  ·go_simp
   rfl
  refine hK.out _ _ ⟨((cell_far (p := ⟨gb278, _, none⟩) NB244_278.out _).trans (((cell_far (p := ⟨gb278, _, none⟩) NB244_278.out _).trans (((cell_far (p := ⟨gb278, _, none⟩) NB244_278.out _).trans (((cell_far (p := ⟨gb278, _, none⟩) NB244_278.out _).trans (((cell_far (p := ⟨gb278, _, none⟩) NB244_278.out _).trans (((cell_far (p := ⟨gb278, _, none⟩) NB244_278.out _).trans (hHeld.1)))))))))))), ((cell_far (p := ⟨gb278, _, none⟩) NB244_278.out _).trans (((cell_far (p := ⟨gb278, _, none⟩) NB244_278.out _).trans (((cell_far (p := ⟨gb278, _, none⟩) NB244_278.out _).trans (((cell_far (p := ⟨gb278, _, none⟩) NB244_278.out _).trans (((cell_far (p := ⟨gb278, _, none⟩) NB244_278.out _).trans (((cell_far (p := ⟨gb278, _, none⟩) NB244_278.out _).trans (hHeld.2.1)))))))))))), ((cell_far (p := ⟨gb278, _, none⟩) NB244_278.out _).trans (((cell_far (p := ⟨gb278, _, none⟩) NB244_278.out _).trans (((cell_far (p := ⟨gb278, _, none⟩) NB244_278.out _).trans (((cell_far (p := ⟨gb278, _, none⟩) NB244_278.out _).trans (((cell_far (p := ⟨gb278, _, none⟩) NB244_278.out _).trans (((cell_far (p := ⟨gb278, _, none⟩) NB244_278.out _).trans (hHeld.2.2.1)))))))))))), ((cell_far (p := ⟨gb278, _, none⟩) NB244_278.out _).trans (((cell_far (p := ⟨gb278, _, none⟩) NB244_278.out _).trans (((cell_far (p := ⟨gb278, _, none⟩) NB244_278.out _).trans (((cell_far (p := ⟨gb278, _, none⟩) NB244_278.out _).trans (((cell_far (p := ⟨gb278, _, none⟩) NB244_278.out _).trans (((cell_far (p := ⟨gb278, _, none⟩) NB244_278.out _).trans (hHeld.2.2.2.1)))))))))))), ((cell_far (p := ⟨gb278, _, none⟩) NB244_278.out _).trans (((cell_far (p := ⟨gb278, _, none⟩) NB244_278.out _).trans (((cell_far (p := ⟨gb278, _, none⟩) NB244_278.out _).trans (((cell_far (p := ⟨gb278, _, none⟩) NB244_278.out _).trans (((cell_far (p := ⟨gb278, _, none⟩) NB244_278.out _).trans (((cell_far (p := ⟨gb278, _, none⟩) NB244_278.out _).trans (hHeld.2.2.2.2.1)))))))))))), ((cell_far (p := ⟨gb278, _, none⟩) NB244_278.out _).trans (((cell_far (p := ⟨gb278, _, none⟩) NB244_278.out _).trans (((cell_far (p := ⟨gb278, _, none⟩) NB244_278.out _).trans (((cell_far (p := ⟨gb278, _, none⟩) NB244_278.out _).trans (((cell_far (p := ⟨gb278, _, none⟩) NB244_278.out _).trans (((cell_far (p := ⟨gb278, _, none⟩) NB244_278.out _).trans (hHeld.2.2.2.2.2))))))))))))⟩ (fun hHeld => ?_)
  clear hK K; refine done_ (done_of HT_.out (by kernel_rfl)) ?_
  have hnb51 := NB277_244.out; have hnc51 := NB244_277.out; have hnb52 := NB277_278.out; have hnc52 := NB278_277.out; obtain ⟨hcz53_0, hcz53_1, hfz53_0, hfz53_1⟩ := aC2 BK277; have hnb54 := NB278_244.out; have hnc54 := NB244_278.out; obtain ⟨hcz55_0, hcz55_1, hcz55_2, hcz55_3, hcz55_4, hcz55_5, hfz55_0, hfz55_1, hfz55_2, hfz55_3, hfz55_4, hfz55_5⟩ := aC6 BK278; try go_wp2_with (first | ((with_reducible refine gate_callee (f := 17) rfl ?_); refine goesL_ (some 52) rfl rfl Try.func17 (by kernel_rfl) rfl #[.agg #[.slice Ao41 t265.length co41, .slice Ao43 t268.length co43], .int .i64 0, .int .i64 (t265.length : Int), .agg #[.int .i64 t271, .int .i64 t272, .int .u8 t273, .int .i64 t274, .int .i64 t275, .float .f64 t276]] rfl aT ?_; (with_reducible refine (first_Break.calls k1 _ _ t265 _ _ t268 0 (t265.length : Int) t271 t272 t273 t274 t275 t276 t279 _ ?side1 ?side2 ?side3 ?side4 A34.out).mono ?_); (case side1 => refine (Kd.zL (e := 61) (base := w.heap.size) (ok := fun k_ => True) (n := t265.length) (c := co41) ?_).2.2; exact (by (with_reducible repeat (first | apply Kd.zE | apply Kd.zF | apply Kd.zG)); exact (Kd.zQ (Kd.zQ (Kd.zN (p := ⟨gb278, 5, none⟩) (Kd.zN (p := ⟨gb278, 4, none⟩) (Kd.zN (p := ⟨gb278, 3, none⟩) (Kd.zN (p := ⟨gb278, 2, none⟩) (Kd.zN (p := ⟨gb278, 1, none⟩) (Kd.zN (p := ⟨gb278, 0, none⟩) (Kd.zN (p := ⟨gb277, 1, none⟩) (Kd.zN (p := ⟨gb277, 0, none⟩) (Kd.zR (Kd.zR HO267.out BK277.out (by decide)) BK278.out (by decide)) (fun _ hk => hk.1.2) (.slice Ao41 t265.length co41)) (fun _ hk => hk.1.2) (.slice Ao43 t268.length co43)) (fun _ hk => hk.2) (.int .i64 t271)) (fun _ hk => hk.2) (.int .i64 t272)) (fun _ hk => hk.2) (.int .u8 t273)) (fun _ hk => hk.2) (.int .i64 t274)) (fun _ hk => hk.2) (.int .i64 t275)) (fun _ hk => hk.2) (.float .f64 t276)) (fun _ h_ => h_.1)) (fun _ h_ => h_.1)))); (case side2 => exact (Kd.zL HO267.out).2.1); (case side3 => refine (Kd.zL (e := 43) (base := w.heap.size) (ok := fun k_ => True) (n := t268.length) (c := co43) ?_).2.2; exact (by (with_reducible repeat (first | apply Kd.zE | apply Kd.zF | apply Kd.zG)); exact (Kd.zQ (Kd.zQ (Kd.zN (p := ⟨gb278, 5, none⟩) (Kd.zN (p := ⟨gb278, 4, none⟩) (Kd.zN (p := ⟨gb278, 3, none⟩) (Kd.zN (p := ⟨gb278, 2, none⟩) (Kd.zN (p := ⟨gb278, 1, none⟩) (Kd.zN (p := ⟨gb278, 0, none⟩) (Kd.zN (p := ⟨gb277, 1, none⟩) (Kd.zN (p := ⟨gb277, 0, none⟩) (Kd.zR (Kd.zR HO270.out BK277.out (by decide)) BK278.out (by decide)) (fun _ hk => hk.1.2) (.slice Ao41 t265.length co41)) (fun _ hk => hk.1.2) (.slice Ao43 t268.length co43)) (fun _ hk => hk.2) (.int .i64 t271)) (fun _ hk => hk.2) (.int .i64 t272)) (fun _ hk => hk.2) (.int .u8 t273)) (fun _ hk => hk.2) (.int .i64 t274)) (fun _ hk => hk.2) (.int .i64 t275)) (fun _ hk => hk.2) (.float .f64 t276)) (fun _ h_ => h_.1)) (fun _ h_ => h_.1)))); (case side4 => exact (Kd.zL HO270.out).2.1); rintro e w56 ⟨v280, rfl, ho0, hb⟩; refine ⟨_, rfl, ?_⟩; have n0_ := zA.mk (Kd.zM (by (with_reducible repeat (first | apply Kd.zE | apply Kd.zF | apply Kd.zG)); exact (Kd.zQ (Kd.zQ (Kd.zN (p := ⟨gb278, 5, none⟩) (Kd.zN (p := ⟨gb278, 4, none⟩) (Kd.zN (p := ⟨gb278, 3, none⟩) (Kd.zN (p := ⟨gb278, 2, none⟩) (Kd.zN (p := ⟨gb278, 1, none⟩) (Kd.zN (p := ⟨gb278, 0, none⟩) (Kd.zN (p := ⟨gb277, 1, none⟩) (Kd.zN (p := ⟨gb277, 0, none⟩) (Kd.zR (Kd.zR HO267.out BK277.out (by decide)) BK278.out (by decide)) (fun _ hk => hk.1.2) (.slice Ao41 t265.length co41)) (fun _ hk => hk.1.2) (.slice Ao43 t268.length co43)) (fun _ hk => hk.2) (.int .i64 t271)) (fun _ hk => hk.2) (.int .i64 t272)) (fun _ hk => hk.2) (.int .u8 t273)) (fun _ hk => hk.2) (.int .i64 t274)) (fun _ hk => hk.2) (.int .i64 t275)) (fun _ hk => hk.2) (.float .f64 t276)) (fun _ h_ => h_.1)) (fun _ h_ => h_.1))) hb); have n1_ := zA.mk (Kd.zM (by (with_reducible repeat (first | apply Kd.zE | apply Kd.zF | apply Kd.zG)); exact (Kd.zQ (Kd.zQ (Kd.zN (p := ⟨gb278, 5, none⟩) (Kd.zN (p := ⟨gb278, 4, none⟩) (Kd.zN (p := ⟨gb278, 3, none⟩) (Kd.zN (p := ⟨gb278, 2, none⟩) (Kd.zN (p := ⟨gb278, 1, none⟩) (Kd.zN (p := ⟨gb278, 0, none⟩) (Kd.zN (p := ⟨gb277, 1, none⟩) (Kd.zN (p := ⟨gb277, 0, none⟩) (Kd.zR (Kd.zR HO270.out BK277.out (by decide)) BK278.out (by decide)) (fun _ hk => hk.1.2) (.slice Ao41 t265.length co41)) (fun _ hk => hk.1.2) (.slice Ao43 t268.length co43)) (fun _ hk => hk.2) (.int .i64 t271)) (fun _ hk => hk.2) (.int .i64 t272)) (fun _ hk => hk.2) (.int .u8 t273)) (fun _ hk => hk.2) (.int .i64 t274)) (fun _ hk => hk.2) (.int .i64 t275)) (fun _ hk => hk.2) (.float .f64 t276)) (fun _ h_ => h_.1)) (fun _ h_ => h_.1))) hb); have n2_ := zA.mk (Kd.zP ho0 (below_size (aL HB))); have n3_ := zA.mk (blk_below (g := gb244) (o := .cells #[.int .u8 a1_0, .int .u8 a1_1, .int .u8 a1_2, .int .u16 a1_3, .int .u16 a1_4, .float .f64 a1_5] 26 (0, 0)) (aB BK244) hb); have n4_ := zA.mk (blk_below (g := gb277) (o := .cells #[.slice Ao41 t265.length co41, .slice Ao43 t268.length co43] 31 (0, 0)) (by (with_reducible repeat (first | refine zB ?_ _ | refine zD ?_ | refine zC ?_ _)); refine blk_far ?_ NB277_278.out _; (with_reducible repeat (first | refine zB ?_ _ | refine zD ?_ | refine zC ?_ _)); refine blk_far ?_ NB277_278.out _; (with_reducible repeat (first | refine zB ?_ _ | refine zD ?_ | refine zC ?_ _)); refine blk_far ?_ NB277_278.out _; (with_reducible repeat (first | refine zB ?_ _ | refine zD ?_ | refine zC ?_ _)); refine blk_far ?_ NB277_278.out _; (with_reducible repeat (first | refine zB ?_ _ | refine zD ?_ | refine zC ?_ _)); refine blk_far ?_ NB277_278.out _; (with_reducible repeat (first | refine zB ?_ _ | refine zD ?_ | refine zC ?_ _)); refine blk_far ?_ NB277_278.out _; (with_reducible repeat (first | refine zB ?_ _ | refine zD ?_ | refine zC ?_ _)); refine blk_put (cs := #[.slice Ao41 t265.length co41, .slice none 0 0]) ?_ 1 _ rfl; (with_reducible repeat (first | refine zB ?_ _ | refine zD ?_ | refine zC ?_ _)); refine blk_put (cs := #[.slice none 0 0, .slice none 0 0]) ?_ 0 _ rfl; (with_reducible repeat (first | refine zB ?_ _ | refine zD ?_ | refine zC ?_ _)); exact BK277.out) hb); have n5_ := zA.mk (blk_below (g := gb278) (o := .cells #[.int .i64 t271, .int .i64 t272, .int .u8 t273, .int .i64 t274, .int .i64 t275, .float .f64 t276] 35 (0, 0)) (by (with_reducible repeat (first | refine zB ?_ _ | refine zD ?_ | refine zC ?_ _)); refine blk_put (cs := #[.int .i64 t271, .int .i64 t272, .int .u8 t273, .int .i64 t274, .int .i64 t275, .float .f64 0]) ?_ 5 _ rfl; (with_reducible repeat (first | refine zB ?_ _ | refine zD ?_ | refine zC ?_ _)); refine blk_put (cs := #[.int .i64 t271, .int .i64 t272, .int .u8 t273, .int .i64 t274, .int .i64 0, .float .f64 0]) ?_ 4 _ rfl; (with_reducible repeat (first | refine zB ?_ _ | refine zD ?_ | refine zC ?_ _)); refine blk_put (cs := #[.int .i64 t271, .int .i64 t272, .int .u8 t273, .int .i64 0, .int .i64 0, .float .f64 0]) ?_ 3 _ rfl; (with_reducible repeat (first | refine zB ?_ _ | refine zD ?_ | refine zC ?_ _)); refine blk_put (cs := #[.int .i64 t271, .int .i64 t272, .int .u8 0, .int .i64 0, .int .i64 0, .float .f64 0]) ?_ 2 _ rfl; (with_reducible repeat (first | refine zB ?_ _ | refine zD ?_ | refine zC ?_ _)); refine blk_put (cs := #[.int .i64 t271, .int .i64 0, .int .u8 0, .int .i64 0, .int .i64 0, .float .f64 0]) ?_ 1 _ rfl; (with_reducible repeat (first | refine zB ?_ _ | refine zD ?_ | refine zC ?_ _)); refine blk_put (cs := #[.int .i64 0, .int .i64 0, .int .u8 0, .int .i64 0, .int .i64 0, .float .f64 0]) ?_ 0 _ rfl; (with_reducible repeat (first | refine zB ?_ _ | refine zD ?_ | refine zC ?_ _)); refine blk_far ?_ NB278_277.out _; (with_reducible repeat (first | refine zB ?_ _ | refine zD ?_ | refine zC ?_ _)); refine blk_far ?_ NB278_277.out _; (with_reducible repeat (first | refine zB ?_ _ | refine zD ?_ | refine zC ?_ _)); exact BK278.out) hb); have n6_ := zA.mk (below_step (aL HB) hb); clear HO267; clear HO270; clear BK244; clear BK277; clear BK278; clear HB; have HO267 := n0_; have HO270 := n1_; have HO281 := n2_; have BK244 := n3_; have BK277 := n4_; have BK278 := n5_; have HB := n6_; clear n0_ n1_ n2_ n3_ n4_ n5_ n6_; (try clear hb); (try clear hb2); (try clear hk); (try clear hi); (try clear ho0); obtain ⟨Ao57, co57, eo57⟩ := Kd.zO HO281.out; subst eo57))
  go_loopg [55] k1 (fun kq v55 w' => ∃ (x55_2 : Int), v55 = .int .i64 x55_2 ∧ zA (l4_FirstRest.l1 kq (t265.length : Int) t279 (t279.length : Int) x55_2 t265 t268 t271 t272 t273 t274 t275 t276 = some r) ∧ zA (kq ≤ k1) ∧ zA (Kd.R k45 45 w' w.heap.size (fun _ => True) (.slice Ao57 t279.length co57) t279) ∧ zA (Kd.R k61 61 w' w.heap.size (fun _ => True) (.slice Ao41 t265.length co41) t265) ∧ zA (Kd.R (Kd.int .u8) 43 w' w.heap.size (fun _ => True) (.slice Ao43 t268.length co43) t268) ∧ zA (w'.heap[gb244]? = some (.cells #[.int .u8 a1_0, .int .u8 a1_1, .int .u8 a1_2, .int .u16 a1_3, .int .u16 a1_4, .float .f64 a1_5] 26 (0, 0))) ∧ zA (w'.heap[gb277]? = some (.cells #[(.slice Ao41 t265.length co41), (.slice Ao43 t268.length co43)] 31 (0, 0))) ∧ zA (w'.heap[gb278]? = some (.cells #[.int .i64 t271, .int .i64 t272, .int .u8 t273, .int .i64 t274, .int .i64 t275, .float .f64 t276] 35 (0, 0))) ∧ zA (Below w.heap.size w w'))
  case atStart => exact ⟨(0), aZ, H', ⟨Nat.le_refl _⟩, ⟨aR HO281⟩, ⟨aR HO267⟩, ⟨aR HO270⟩, ⟨aB BK244⟩, ⟨aB BK277⟩, ⟨aB BK278⟩, ⟨aL HB⟩⟩
  clear H'; try clear c1
  try clear p2
  try clear c5
  try clear c14
  try clear c17
  try clear c51
  try clear c52
  try clear c54
  try clear hcz53_0
  try clear hcz53_1
  try clear hcz55_0
  try clear hcz55_1
  try clear hcz55_2
  try clear hcz55_3
  try clear hcz55_4
  try clear hcz55_5
  try clear hfz53_0
  try clear hfz53_1
  try clear hfz55_0
  try clear hfz55_1
  try clear hfz55_2
  try clear hfz55_3
  try clear hfz55_4
  try clear hfz55_5
  obtain ⟨x55_2, rfl, HA, HK2, HO_9, HO_278000, HO_278001, BK244, BK277, BK278, HB⟩ := hrel; cases gk with
  | zero => exact absurd HA.out (by simp [l4_FirstRest.l1])
  | succ k2 =>
   have H := HA.out; clear HA; simp only [l4_FirstRest.l1] at H; by_cases c58 : x55_2 < (t279.length : Int)
   rotate_left
   ·rw [if_neg c58] at H
    have c58b0 : decide (x55_2 < (t279.length : Int)) = false := decide_eq_false c58
    clear c58; obtain rfl := Option.some.inj H
    go_wp2
    go_ret
    exact ⟨aX, aL HB⟩
   rw [if_pos c58] at H; have c58b0 : decide (x55_2 < (t279.length : Int)) = true := decide_eq_true c58
   clear c58; by_cases c59 : 0 ≤ x55_2
   rotate_left
   ·rw [if_neg c59] at H
    exact absurd H (by simp)
   rw [if_pos c59] at H; have c59b0 : decide (0 ≤ x55_2) = true := decide_eq_true c59
   clear c59; by_cases c60 : x55_2 < (t279.length : Int)
   rotate_left
   ·rw [if_neg c60] at H
    exact absurd H (by simp)
   rw [if_pos c60] at H; have c60b0 : decide (x55_2 < (t279.length : Int)) = true := decide_eq_true c60
   clear c60; replace H := Option.bind_eq_some_iff.mp H; obtain ⟨t283, A610, H⟩ := H; replace H : (if x55_2 ≤ (t279.length : Int) then ((r3_SameLines.f k2 t283 (t279.drop (x55_2 : Int).toNat)).bind fun t290 => (if t290 = true then (l4_FirstRest.l1 k2 (t265.length : Int) t279 (t279.length : Int) (wrap64 (x55_2 + 1)) t265 t268 t271 t272 t273 t274 t275 t276) else (some false))) else (none)) = some r := H
   have A61 := zA.mk A610; clear A610; have c62b0 := eq_true (aD : 0 ≤ x55_2); by_cases c63 : x55_2 ≤ (t279.length : Int)
   rotate_left
   ·rw [if_neg c63] at H
    exact absurd H (by simp)
   rw [if_pos c63] at H; have c63b0 := eq_true c63; have c63b1 : decide (x55_2 ≤ (t279.length : Int)) = true := decide_eq_true c63
   clear c63; obtain ⟨y286, hy286⟩ : ∃ y_ : List (S45), y_ = (t279.drop (x55_2 : Int).toNat) := ⟨_, rfl⟩; replace H : ((r3_SameLines.f k2 t283 y286).bind fun t290 => (if t290 = true then (l4_FirstRest.l1 k2 (t265.length : Int) t279 (t279.length : Int) (wrap64 (x55_2 + 1)) t265 t268 t271 t272 t273 t274 t275 t276) else (some false))) = some r := by first | (rw [hy286]; with_reducible exact H) | (have H2_ := (Option.bind_some _ _).symm.trans H; rw [hy286]; with_reducible exact H2_) | (have H2_ := (Option.bind_some _ _).symm.trans H; with_reducible exact H2_) | with_reducible exact H | (rw [hy286]; exact H) | exact H
   have Ny286 := zA.mk hy286; clear hy286; replace H := Option.bind_eq_some_iff.mp H; obtain ⟨t290, A640, H⟩ := H; replace H : (if t290 = true then (l4_FirstRest.l1 k2 (t265.length : Int) t279 (t279.length : Int) (wrap64 (x55_2 + 1)) t265 t268 t271 t272 t273 t274 t275 t276) else (some false)) = some r := H; have A64 := zA.mk A640; clear A640; by_cases c65 : t290 = true
   rotate_left
   ·replace c65 := Bool.eq_false_iff.mpr c65
    subst c65; have H1 : (some false) = some r := by rw [if_neg (show ¬ (false = true) by decide)] at H; exact H
    clear H; have H := H1; clear H1; exact absurd ((Option.some.inj H).trans hrt_.out) (by decide)
   subst c65; have H1 : (l4_FirstRest.l1 k2 (t265.length : Int) t279 (t279.length : Int) (wrap64 (x55_2 + 1)) t265 t268 t271 t272 t273 t274 t275 t276) = some r := by rw [if_pos rfl] at H; exact H
   clear H; have H := H1; clear H1; have H' := zA.mk H
   clear H; try go_wp2
   have n0_ := zA.mk (Kd.zG HO_9.out); have n1_ := zA.mk (Kd.zG HO_278000.out); have n2_ := zA.mk (Kd.zG HO_278001.out); have n3_ := zA.mk (zD BK244.out); have n4_ := zA.mk (zD BK277.out); have n5_ := zA.mk (zD BK278.out); have n6_ := zA.mk (below_drew1 HB.out); clear HO_9; clear HO_278000; clear HO_278001; clear BK244; clear BK277; clear BK278; clear HB; have HO_9 := n0_; have HO_278000 := n1_; have HO_278001 := n2_; have BK244 := n3_; have BK277 := n4_; have BK278 := n5_; have HB := n6_; clear n0_ n1_ n2_ n3_ n4_ n5_ n6_; have p282 : 0 ≤ (x55_2 : Int) := aD
   have q282 : x55_2 < (t279.length : Int) := aD
   obtain ⟨ad282, e282, hx282_0, hx282_1, hx282_2, hx282_3⟩ := at_T45 (Kd.zL HO_9.out).2.2 x55_2 p282 q282; cases e282
   replace p282 := eq_true p282; replace q282 := eq_true q282; have q67 : (x55_2 : Int) ≤ ((t279.length : Int) : Int) := aD
   obtain ⟨i067, hi067, _, hsz67, _⟩ := info_parts info45; have hroom67 : t279.length ≤ co57 := (Kd.zL HO_9.out).2.1
   have hC67 : Kd.C k45 _ (some ad282) t279.length t279 := (Kd.zL HO_9.out).2.2
   have q067 : (0 : Int) ≤ (x55_2 : Int) := aD
   have hcut67 := cut_from (P := Try.prog) 40 45 .i64 Try.underlying40 hi067 4 hsz67 (some ad282) t279.length co57 x55_2 q067 q67; have hr67 := Kd.C_drop (m := (x55_2 : Int).toNat) (c := co57) hC67 (by omega) hroom67
   obtain ⟨A67, hA67⟩ : ∃ A1, A1 = (if co57 = (x55_2 : Int).toNat then (some ad282) else ((some ad282) : Option Addr).map (·.add ((x55_2 : Int).toNat * 4))) := ⟨_, rfl⟩
   obtain ⟨c67, hc67⟩ : ∃ c1, c1 = co57 - (x55_2 : Int).toNat := ⟨_, rfl⟩; have hy67 : y286.length = t279.length - (x55_2 : Int).toNat := (by rw [Ny286.out, List.length_drop] <;> omega)
   rw [show (t279).drop (x55_2 : Int).toNat = y286 from Ny286.out.symm] at hr67; replace hr67 : Kd.C k45 _ A67 y286.length y286 := (by rw [hA67]; exact hr67)
   rw [← hy67, ← hA67, ← hc67] at hcut67; have HR289 := zA.mk hr67; have HC289 := zA.mk (show y286.length ≤ c67 from by rw [hy67, hc67]; exact Nat.sub_le_sub_right hroom67 _)
   clear hr67 hC67 hroom67 hi067 hsz67 hc67; have KY67 := zA.mk hy67; have KA67 := zA.mk hA67; clear hy67 hA67; have KL67 := zA.mk (show (x55_2 : Int).toNat ≤ t279.length from by omega)
   replace q67 := eq_true q67; refine start_ (n := 14) (S := fun w' => w'.cell? ⟨gb277, 0, none⟩ = some (.slice Ao41 t265.length co41) ∧ w'.cell? ⟨gb277, 1, none⟩ = some (.slice Ao43 t268.length co43) ∧ w'.cell? ⟨gb278, 0, none⟩ = some (.int .i64 t271) ∧ w'.cell? ⟨gb278, 1, none⟩ = some (.int .i64 t272) ∧ w'.cell? ⟨gb278, 2, none⟩ = some (.int .u8 t273) ∧ w'.cell? ⟨gb278, 3, none⟩ = some (.int .i64 t274) ∧ w'.cell? ⟨gb278, 4, none⟩ = some (.int .i64 t275) ∧ w'.cell? ⟨gb278, 5, none⟩ = some (.float .f64 t276) ∧ w'.cell? (ad282.add ((x55_2).toNat * 4)) = some (.int .i64 ((rd_T45 t279 x55_2).f0)) ∧ w'.cell? ⟨(ad282.add ((x55_2).toNat * 4)).block, (ad282.add ((x55_2).toNat * 4)).off + 1, none⟩ = some (.int .i64 ((rd_T45 t279 x55_2).f1)) ∧ w'.cell? ⟨(ad282.add ((x55_2).toNat * 4)).block, (ad282.add ((x55_2).toNat * 4)).off + 2, none⟩ = some (.int .i64 ((rd_T45 t279 x55_2).f2)) ∧ w'.cell? ⟨(ad282.add ((x55_2).toNat * 4)).block, (ad282.add ((x55_2).toNat * 4)).off + 3, none⟩ = some (.int .u8 ((rd_T45 t279 x55_2).f3))) (ds := []) #[false, false, false, false, false, false, false, false, false, false, false, false, false, false] (by kernel_rfl) rfl rfl ⟨(blk_cell BK277.out 0).trans rfl, (blk_cell BK277.out 1).trans rfl, (blk_cell BK278.out 0).trans rfl, (blk_cell BK278.out 1).trans rfl, (blk_cell BK278.out 2).trans rfl, (blk_cell BK278.out 3).trans rfl, (blk_cell BK278.out 4).trans rfl, (blk_cell BK278.out 5).trans rfl, hx282_0, hx282_1, hx282_2, hx282_3⟩ (fun hHeld => ?_); refine with_tabW l4_FirstRest.tab18 l4_FirstRest.bits18 (fun HT_ HW_ => ?_)
   generalize wr.drew = w66 at HO_9 HO_278000 HO_278001 BK244 BK277 BK278 HB HR289 hx282_0 hx282_1 hx282_2 hx282_3 hHeld ⊢
   refine aP 1 (some 59) #[false, true, false, false, false, false, false, false, false, false, false, false, false, false] HT_ ?_
   refine aP 2 (some 60) #[false, true, true, false, false, false, false, false, false, false, false, false, false, false] HT_ ?_
   refine aP 3 (some 61) #[false, true, true, true, false, false, false, false, false, false, false, false, false, false] HT_ ?_
   refine aP 4 (some 62) #[false, true, true, true, true, false, false, false, false, false, false, false, false, false] HT_ ?_
   refine aP 6 (some 64) #[false, true, true, true, true, false, true, false, false, false, false, false, false, false] HT_ ?_
   refine aP 9 (some 67) #[false, true, true, true, true, false, true, false, false, true, false, false, false, false] HT_ ?_
   refine aP 10 (some 68) #[false, true, true, true, true, false, true, false, false, true, true, false, false, false] HT_ ?_
   refine aP 11 (some 69) #[false, true, true, true, true, false, true, false, false, true, true, true, false, false] HT_ ?_
   refine take_ (i := 0) (N := some 58) (v := ?_) (a' := ?_) #[true, true, true, true, true, false, true, false, false, true, true, true, false, false] rfl rfl (take_ofW HT_.out HW_.out (by kernel_rfl)) (fun _ _ _ h => h) (Or.inl ⟨by rfl, ?_⟩) hHeld ?_ ?_
   rotate_left
   ·rintro w' ⟨s0, s1, s2, s3, s4, s5, s6, s7, s8, s9, s10, s11⟩
    go_simp
    with_reducible rfl
   rotate_left
   ·simp only [Act.put, sA_, sB_, sC_, i64_w, i32_w]
    rfl
   refine take_ (i := 5) (N := some 63) (v := ?_) (a' := ?_) #[true, true, true, true, true, true, true, false, false, true, true, true, false, false] rfl rfl (take_ofW HT_.out HW_.out (by kernel_rfl)) (fun _ _ _ h => h) (Or.inl ⟨by rfl, ?_⟩) hHeld ?_ ?_
   rotate_left
   ·rintro w' ⟨s0, s1, s2, s3, s4, s5, s6, s7, s8, s9, s10, s11⟩
    go_simp
    with_reducible rfl
   rotate_left
   ·simp only [Act.put, sA_, sB_, sC_, i64_w, i32_w]
    rfl
   refine take_ (i := 7) (N := some 65) (v := ?_) (a' := ?_) #[true, true, true, true, true, true, true, true, false, true, true, true, false, false] rfl rfl (take_ofW HT_.out HW_.out (by kernel_rfl)) (fun _ _ _ h => h) (Or.inl ⟨by rfl, ?_⟩) hHeld ?_ ?_
   rotate_left
   ·rintro w' ⟨s0, s1, s2, s3, s4, s5, s6, s7, s8, s9, s10, s11⟩
    go_simp
    with_reducible rfl
   rotate_left
   ·simp only [Act.put, sA_, sB_, sC_, i64_w, i32_w]
    rfl
   refine one_ (i := 8) (N := some 66) #[true, true, true, true, true, true, true, true, true, true, true, true, false, false] rfl rfl (one_of HT_.out (by kernel_rfl)) (by decide) (fun K hK => ?_)
   refine goes_ Try.func17 (by kernel_rfl) rfl #[.agg #[.slice Ao41 t265.length co41, .slice Ao43 t268.length co43], .int .i64 ((rd_T45 t279 x55_2).f0), .int .i64 (t265.length : Int), .agg #[.int .i64 t271, .int .i64 t272, .int .u8 t273, .int .i64 t274, .int .i64 t275, .float .f64 t276]] (by rfl) rfl rfl aT ?_
   with_reducible refine (first_Break.calls k2 _ _ t265 _ _ t268 ((rd_T45 t279 x55_2).f0) (t265.length : Int) t271 t272 t273 t274 t275 t276 t283 _ ?side1 ?side2 ?side3 ?side4 A61.out).mono ?_
   (case side1 => exact aF HO_278000)
   (case side2 => exact (Kd.zL HO_278000.out).2.1)
   (case side3 => exact aF HO_278001)
   (case side4 => exact (Kd.zL HO_278001.out).2.1)
   rintro e w68 ⟨v284, rfl, ho0, hb⟩
   have HS8_ := (hb.cell (World.block_lt_of_cell? _ _ (hHeld.2.2.2.2.2.2.2.2.1))).trans (hHeld.2.2.2.2.2.2.2.2.1); have HS9_ := (hb.cell (World.block_lt_of_cell? _ _ (hHeld.2.2.2.2.2.2.2.2.2.1))).trans (hHeld.2.2.2.2.2.2.2.2.2.1); have HS10_ := (hb.cell (World.block_lt_of_cell? _ _ (hHeld.2.2.2.2.2.2.2.2.2.2.1))).trans (hHeld.2.2.2.2.2.2.2.2.2.2.1); have HS11_ := (hb.cell (World.block_lt_of_cell? _ _ (hHeld.2.2.2.2.2.2.2.2.2.2.2))).trans (hHeld.2.2.2.2.2.2.2.2.2.2.2); refine ⟨_, rfl, ?_⟩
   have n0_ := zA.mk (Kd.R_elder' (aR HO_9) (Kd.R_base ho0) hb); have n1_ := zA.mk (Kd.zM (aR HO_278000) hb); have n2_ := zA.mk (Kd.zM (aR HO_278001) hb); have n3_ := zA.mk (Kd.zP (Kd.R_new' ho0 (Kd.R_lt (aR HO_9))) (below_size (aL HB))); have n4_ := zA.mk (blk_below (g := gb244) (o := .cells #[.int .u8 a1_0, .int .u8 a1_1, .int .u8 a1_2, .int .u16 a1_3, .int .u16 a1_4, .float .f64 a1_5] 26 (0, 0)) (aB BK244) hb); have n5_ := zA.mk (blk_below (g := gb277) (o := .cells #[.slice Ao41 t265.length co41, .slice Ao43 t268.length co43] 31 (0, 0)) (aB BK277) hb); have n6_ := zA.mk (blk_below (g := gb278) (o := .cells #[.int .i64 t271, .int .i64 t272, .int .u8 t273, .int .i64 t274, .int .i64 t275, .float .f64 t276] 35 (0, 0)) (aB BK278) hb); have n7_ := zA.mk (Kd.zK (aH HR289) hb); have n8_ := zA.mk (below_step (aL HB) hb); clear HO_9; clear HO_278000; clear HO_278001; clear BK244; clear BK277; clear BK278; clear HR289; clear HB; have HO_9 := n0_; have HO_278000 := n1_; have HO_278001 := n2_; have HO285 := n3_; have BK244 := n4_; have BK277 := n5_; have BK278 := n6_; have HR289 := n7_; have HB := n8_; clear n0_ n1_ n2_ n3_ n4_ n5_ n6_ n7_ n8_; (try clear hb)
   (try clear hb2)
   (try clear hk)
   (try clear hi)
   (try clear ho0)
   obtain ⟨Ao69, co69, eo69⟩ := Kd.zO HO285.out; (first | subst eo69 | (injection eo69 with f1_ f2_ f3_; have f4_ := f1_.symm; have f5_ := f3_.symm; clear f1_ f2_ f3_; subst f4_; subst f5_))
   refine hK.out _ _ ⟨(blk_cell BK277.out 0).trans rfl, (blk_cell BK277.out 1).trans rfl, (blk_cell BK278.out 0).trans rfl, (blk_cell BK278.out 1).trans rfl, (blk_cell BK278.out 2).trans rfl, (blk_cell BK278.out 3).trans rfl, (blk_cell BK278.out 4).trans rfl, (blk_cell BK278.out 5).trans rfl, HS8_, HS9_, HS10_, HS11_⟩ (fun hHeld => ?_)
   clear hK K; refine norm_ (a' := ?_) ?_ ?_
   rotate_left
   ·show Act.put _ (some 66) _ = _
    simp only [Act.put, sA_, sB_, sC_, i64_w, i32_w]; rfl
   refine one_ (i := 12) (N := some 70) #[true, true, true, true, true, true, true, true, true, true, true, true, true, false] rfl rfl (one_of HT_.out (by kernel_rfl)) (by decide) (fun K hK => ?_)
   refine goes_ Try.func16 (by kernel_rfl) rfl #[.slice Ao69 t283.length co69, .slice A67 y286.length c67] (by rfl) rfl rfl aT ?_
   with_reducible refine (r3_SameLines.calls k2 _ _ t283 _ _ y286 true _ ?side1 ?side2 ?side3 ?side4 A64.out).mono ?_
   (case side1 => exact aF HO285)
   (case side2 => exact (Kd.zL HO285.out).2.1)
   (case side3 => exact aH HR289)
   (case side4 => exact HC289.out)
   rintro e w' ⟨rfl, ⟨nd, rfl⟩⟩
   refine ⟨_, rfl, ?_⟩
   refine hK.out _ _ ⟨(blk_cell BK277.out 0).trans rfl, (blk_cell BK277.out 1).trans rfl, (blk_cell BK278.out 0).trans rfl, (blk_cell BK278.out 1).trans rfl, (blk_cell BK278.out 2).trans rfl, (blk_cell BK278.out 3).trans rfl, (blk_cell BK278.out 4).trans rfl, (blk_cell BK278.out 5).trans rfl, hHeld.2.2.2.2.2.2.2.2.1, hHeld.2.2.2.2.2.2.2.2.2.1, hHeld.2.2.2.2.2.2.2.2.2.2.1, hHeld.2.2.2.2.2.2.2.2.2.2.2⟩ (fun hHeld => ?_)
   clear hK K; refine norm_ (a' := ?_) ?_ ?_
   rotate_left
   ·show Act.put _ (some 70) _ = _
    simp only [Act.put, sA_, sB_, sC_, i64_w, i32_w]; rfl
   refine aP 13 (some 71) #[true, true, true, true, true, true, true, true, true, true, true, true, true, true] HT_ ?_
   refine done_ (done_of HT_.out (by kernel_rfl)) ?_
   try go_wp2
   go_roundg k2
   case measure => have := HK1.out; have := HK2.out; omega
   case rel => exact ⟨(wrap64 (x55_2 + 1)), aZ, H', ⟨by have := HK1.out; have := HK2.out; omega⟩, ⟨by (with_reducible repeat (first | apply Kd.zE | apply Kd.zF | apply Kd.zG)); exact Kd.zQ HO_9.out (fun _ hk => trivial)⟩, ⟨aR HO_278000⟩, ⟨aR HO_278001⟩, ⟨aB BK244⟩, ⟨aB BK277⟩, ⟨aB BK278⟩, ⟨aL HB⟩⟩
def l4_FirstRest.Pure : Prop := ∀ (l0 : List (S49)) (a1_0 : Int) (a1_1 : Int) (a1_2 : Int) (a1_3 : Int) (a1_4 : Int) (a1_5 : Nat), (l0.length * 4 ≤ 140737488351232 ∧ ∀ y0 ∈ l0, ((Lit.int .u8 y0.f0).wf = true ∧ ((Lit.int .u8 y0.f1).wf = true ∧ ((Lit.int .u8 y0.f2).wf = true ∧ (Lit.int .u8 y0.f3).wf = true)))) → ((Lit.int .u8 a1_0).wf = true ∧ ((Lit.int .u8 a1_1).wf = true ∧ ((Lit.int .u8 a1_2).wf = true ∧ ((Lit.int .u16 a1_3).wf = true ∧ ((Lit.int .u16 a1_4).wf = true ∧ (Lit.float .f64 a1_5).wf = true))))) → ∃ k, l4_FirstRest.f k l0 a1_0 a1_1 a1_2 a1_3 a1_4 a1_5 = some true
end Go.Proofs.Ytfeidhmkmbgnoaa.F
end
