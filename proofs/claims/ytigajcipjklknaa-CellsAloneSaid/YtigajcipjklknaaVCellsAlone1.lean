/- Printed by a program: Lean functions that answer as the Go functions do, and the proofs of it. -/
import Derived.Test.YtigajcipjklknaaXCellsAlone0
import Derived.Test.YtigajcipjklknaaVCellsAlone0
section
namespace Go.Proofs.Ytigajcipjklknaa.F
open Go.RowKit Go.Proofs.YtigajcipjklknaaW.PrintWords Go.Proofs.YtigajcipjklknaaW.PrintLast Go.Proofs.YtigajcipjklknaaW.PrintMore
attribute [local go_sem] max2_int min2_int max_two min_two max_three min_three max_four min_four   -- for this text's walks alone
set_option linter.unusedVariables false
set_option linter.unusedSimpArgs false
def h3_Words.l0 : Nat → List Int → List Int → Int → Option (List Int)
 | 0, _, _, _ => none
 | k + 1, x0, x3, x4 => if x4 < (x0.length : Int) then ((h3_signs.f).bind fun t166 => (if 0 ≤ x4 then (if 0 ≤ (Int.tmod (wrap64 (rd x0 x4)) 14) then (if (Int.tmod (wrap64 (rd x0 x4)) 14) < (t166.length : Int) then (if x3.length + (rdOf ByteArray.empty t166 (Int.tmod (wrap64 (rd x0 x4)) 14)).size < 140737488355328 then (h3_Words.l0 k x0 (x3 ++ bytesOf (rdOf ByteArray.empty t166 (Int.tmod (wrap64 (rd x0 x4)) 14))) (wrap64 (x4 + 1))) else (none)) else (none)) else (none)) else (none))) else (some x3)
def h3_Words.f (k : Nat) (l0 : List Int) : Option (List Int) := h3_Words.l0 k l0 ([] : List Int) 0
theorem h3_Words.mono_l : ∀ k, (∀ y0 y1 y2, LeO (h3_Words.l0 k y0 y1 y2) (h3_Words.l0 (k + 1) y0 y1 y2))
 | 0 => fun _ _ _ r h => by simp [h3_Words.l0] at h
 | k + 1 => by
  have ih0 := h3_Words.mono_l k
  ·intro y0 y1 y2
   unfold h3_Words.l0
   repeat' (with_reducible first | exact ih0 _ _ _ | exact LeO.refl _ | exact LeO.none _ | refine LeO.ite ?_ ?_ | refine LeO.bind ?_ (fun _ => ?_))
theorem h3_Words.mono : ∀ a0 k, LeO (h3_Words.f k a0) (h3_Words.f (k + 1) a0) := by
 intro a0 k
 have ih0 := h3_Words.mono_l k; unfold h3_Words.f
 repeat' (with_reducible first | exact ih0 _ _ _ | exact LeO.refl _ | exact LeO.none _ | refine LeO.ite ?_ ?_ | refine LeO.bind ?_ (fun _ => ?_))
def h3_Words.T5 : Bool × List (List Nat × List Nat) := (true, [([], []), ([], []), ([], []), ([], []), ([2, 3], [2, 3]), ([4], [4]), ([5], [5]), ([6], [6]), ([1, 7], [1, 7]), ([8], [8]), ([0, 9, 1], [0, 9]), ([10, 10, 0, 1, 2, 3, 4, 5, 6, 7, 8, 9, 10], [0, 10])])
def h3_Words.B5 : List Nat := [0, 0, 0, 0, 12, 28, 60, 124, 254, 510, 1023, 2047]
theorem h3_Words.tab5 : rtab .any (opsOf Try.f15 5) = h3_Words.T5 := by kernel_rfl
theorem h3_Words.bits5 : waitsOk h3_Words.T5.2 h3_Words.B5 = true := by kernel_rfl
set_option maxHeartbeats 8000000 in
set_option maxRecDepth 100000 in
theorem h3_Words.calls (k : Nat) (A0 : Option Addr) (c0 : Nat) (l0 : List Int) (r : List Int) (w : World) (hr0 : Kd.C (Kd.int .u8) w A0 l0.length l0) (hc0 : l0.length ≤ c0) (h : h3_Words.f k l0 = some r) :
  Calls Try.prog 15 #[.slice A0 l0.length c0] w fun e w' => ∃ v0_ : Value, e = .returned (v0_) ∧ Kd.R (Kd.int .u8) 5 w' w.heap.size (fun _ => True) v0_ r ∧ Below w.heap.size w w' := by
 have HR0 := zA.mk hr0; have HC0 := zA.mk hc0; clear hr0 hc0; have HB := zA.mk (Below.refl w.heap.size w); have H : (h3_Words.l0 k l0 ([] : List Int) 0) = some r := h
 clear h; have H' := zA.mk H
 clear H; go_enter Try.func15, Try.ntmps15
 go_wp2
 go_loopg [3, 4] k (fun kq v3 v4 w' => ∃ (x3_1 : List Int) (x4_1 : Int), v4 = .int .i64 x4_1 ∧ zA (h3_Words.l0 kq l0 x3_1 x4_1 = some r) ∧ zA (kq ≤ k) ∧ zA (Kd.R (Kd.int .u8) 5 w' w.heap.size (fun _ => True) v3 x3_1) ∧ zA (Below w.heap.size w w'))
 case atStart => exact ⟨(([] : List Int)), (0), aZ, H', ⟨Nat.le_refl _⟩, ⟨by first | exact Kd.R_nil _ _ _ _ _ | exact Kd.N_nil _ _ _ _ _ | exact Kd.V_nil _ _ _ _ _ | exact Kd.Q_nil _ _ _ _ _ | exact Kd.S_nil _ _ _ _ _⟩, ⟨aL HB⟩⟩
 clear H'; obtain ⟨x3_1, x4_1, rfl, HA, HK1, HO_3, HB⟩ := hrel; cases gk with
 | zero => exact absurd HA.out (by simp [h3_Words.l0])
 | succ k1 =>
  have H := HA.out; clear HA; simp only [h3_Words.l0] at H; by_cases c2 : x4_1 < (l0.length : Int)
  rotate_left
  ·rw [if_neg c2] at H
   have c2b0 : decide (x4_1 < (l0.length : Int)) = false := decide_eq_false c2
   clear c2; obtain rfl := Option.some.inj H
   go_wp2
   go_ret
   exact ⟨_, aX, aR HO_3, aL HB⟩
  rw [if_pos c2] at H; have c2b0 : decide (x4_1 < (l0.length : Int)) = true := decide_eq_true c2
  clear c2; replace H := Option.bind_eq_some_iff.mp H; obtain ⟨t166, A30, H⟩ := H; replace H : (if 0 ≤ x4_1 then (if 0 ≤ (Int.tmod (wrap64 (rd l0 x4_1)) 14) then (if (Int.tmod (wrap64 (rd l0 x4_1)) 14) < (t166.length : Int) then (if x3_1.length + (rdOf ByteArray.empty t166 (Int.tmod (wrap64 (rd l0 x4_1)) 14)).size < 140737488355328 then (h3_Words.l0 k1 l0 (x3_1 ++ bytesOf (rdOf ByteArray.empty t166 (Int.tmod (wrap64 (rd l0 x4_1)) 14))) (wrap64 (x4_1 + 1))) else (none)) else (none)) else (none)) else (none)) = some r := H; have A3 := zA.mk A30; clear A30; by_cases c4 : 0 ≤ x4_1
  rotate_left
  ·rw [if_neg c4] at H
   exact absurd H (by simp)
  rw [if_pos c4] at H; have c4b0 : decide (0 ≤ x4_1) = true := decide_eq_true c4
  clear c4; obtain ⟨ji5, hji5⟩ : ∃ j_ : Int, (Int.tmod (wrap64 (rd l0 x4_1)) 14) = j_ := ⟨_, rfl⟩; replace H : (if 0 ≤ (ji5) then (if (ji5) < (t166.length : Int) then (if x3_1.length + (rdOf ByteArray.empty t166 (ji5)).size < 140737488355328 then (h3_Words.l0 k1 l0 (x3_1 ++ bytesOf (rdOf ByteArray.empty t166 (ji5))) (wrap64 (x4_1 + 1))) else (none)) else (none)) else (none)) = some r := by first | (rw [hji5] at H; exact H) | (simp only [hji5] at H ⊢; exact H)
  (try rw [hji5] at A3)
  by_cases c6 : 0 ≤ (ji5)
  rotate_left
  ·rw [if_neg c6] at H
   exact absurd H (by simp)
  rw [if_pos c6] at H; have c6b0 : decide (0 ≤ (ji5)) = true := decide_eq_true c6
  clear c6; by_cases c7 : (ji5) < (t166.length : Int)
  rotate_left
  ·rw [if_neg c7] at H
   exact absurd H (by simp)
  rw [if_pos c7] at H; have c7b0 : decide ((ji5) < (t166.length : Int)) = true := decide_eq_true c7
  clear c7; by_cases c8 : x3_1.length + (rdOf ByteArray.empty t166 (ji5)).size < 140737488355328
  rotate_left
  ·rw [if_neg c8] at H
   exact absurd H (by simp)
  rw [if_pos c8] at H; have LMc8 := zA.mk c8; clear c8; obtain ⟨y171, hy171⟩ : ∃ y_ : List Int, y_ = (x3_1 ++ bytesOf (rdOf ByteArray.empty t166 (ji5))) := ⟨_, rfl⟩; replace H : (h3_Words.l0 k1 l0 y171 (wrap64 (x4_1 + 1))) = some r := by first | (rw [hy171]; with_reducible exact H) | (have H2_ := (Option.bind_some _ _).symm.trans H; rw [hy171]; with_reducible exact H2_) | (have H2_ := (Option.bind_some _ _).symm.trans H; with_reducible exact H2_) | with_reducible exact H | (rw [hy171]; exact H) | exact H
  have Ny171 := zA.mk hy171; clear hy171; have H' := zA.mk H
  clear H; try go_wp2
  have pi170 : (0 ≤ ((ji5) : Int)) = True := eq_true (aD)
  have qi170 : ((ji5) < (t166.length : Int)) = True := eq_true (aD)
  replace HO_3 := zA.mk (Kd.zD HO_3.out); replace HB := zA.mk (below_drew1 HB.out); have p169 : 0 ≤ (x4_1 : Int) := aD
  have q169 : x4_1 < (l0.length : Int) := aD
  obtain ⟨ad169, e169, hx169_0⟩ := Kd.at_int HR0.out x4_1 p169 q169; have hw169_0 := hx169_0; cases e169
  replace hx169_0 := (HB.out.cell (World.block_lt_of_cell? w _ hx169_0)).trans hx169_0; replace p169 := eq_true p169; replace q169 := eq_true q169; refine start_ (n := 12) (S := fun w' => w'.cell? (ad169.add (x4_1).toNat) = some (.int .u8 (rd l0 x4_1))) (ds := []) #[false, false, false, false, false, false, false, false, false, false, false, false] (by kernel_rfl) rfl rfl (((HB.out.cell (World.block_lt_of_cell? w _ hw169_0)).trans hw169_0)) (fun hHeld => ?_); refine with_tabW h3_Words.tab5 h3_Words.bits5 (fun HT_ HW_ => ?_)
  generalize wr.drew = w9 at HO_3 HB hx169_0 hHeld ⊢
  refine aP 0 (some 11) (tf_ 1 12) HT_ ?_
  refine aP 2 (some 13) (tb_ 5 12) HT_ ?_
  refine aP 3 (some 14) (tb_ 13 12) HT_ ?_
  refine aP 4 (some 15) (tb_ 29 12) HT_ ?_
  refine take_ (i := 5) (N := some 16) (v := ?_) (a' := ?_) (tb_ 61 12) rfl rfl (take_ofW HT_.out HW_.out (by kernel_rfl)) (fun _ _ _ h => h) (Or.inl ⟨by rfl, ?_⟩) hHeld ?_ ?_
  rotate_left
  ·intro w' s0
   go_simp
   with_reducible rfl
  rotate_left
  ·simp only [Act.put, sA_, sB_, sC_, i64_w, i32_w]
   rfl
  refine aP 6 (some 17) (tb_ 125 12) HT_ ?_
  refine aP 7 (some 18) (tb_ 253 12) HT_ ?_
  refine one_ (i := 1) (N := some 12) (tb_ 255 12) rfl rfl (one_of HT_.out (by kernel_rfl)) (by decide) (fun K hK => ?_)
  refine goes_ Try.func34 (by kernel_rfl) rfl #[] (by rfl) rfl rfl aT ?_
  with_reducible refine (h3_signs.calls  t166 _ A3.out).mono ?_
  rintro e w10 ⟨v167, rfl, ho0, hb⟩
  refine ⟨_, rfl, ?_⟩
  replace HO_3 := zA.mk (Kd.zJ (aR HO_3) hb); have HO168 := zA.mk (Kd.zM ho0 (below_size (aL HB))); replace HB := zA.mk (below_step (aL HB) hb); (try clear hb)
  (try clear hb2)
  (try clear hk)
  (try clear hi)
  (try clear ho0)
  obtain ⟨Ao11, co11, eo11⟩ := Kd.zL HO168.out; subst eo11; obtain ⟨ado11, fo11, _⟩ := Kd.at_string (Kd.zI HO168.out).2.2 0 (by decide) (by have h1_ := of_eq_true pi170; have h2_ := of_eq_true qi170; omega)
  cases fo11
  refine hK.out _ _ (((HB.out.cell (World.block_lt_of_cell? w _ hw169_0)).trans hw169_0)) (fun hHeld => ?_)
  clear hK K; refine norm_ (a' := ?_) ?_ ?_
  rotate_left
  ·show Act.put _ (some 12) _ = _
   simp only [Act.put, sA_, sB_, sC_, i64_w, i32_w]; rfl
  refine aP 8 (some 19) (tf_ 9 12) HT_ ?_
  refine one_ (i := 9) (N := some 20) (tb_ 1023 12) rfl rfl (one_of HT_.out (by kernel_rfl)) (by decide) (fun K hK => ?_)
  (have p170 : 0 ≤ ((ji5) : Int) := aD; have q170 : (ji5) < (t166.length : Int) := aD; obtain ⟨ad170, e170, hx170_0⟩ := Kd.at_string (Kd.zI HO168.out).2.2 (ji5) p170 q170; obtain rfl : ado11 = ad170 := (by injection e170))
  refine value_ (w1 := ?_) (v := ?_) (by rfl) rfl ?_ ?_
  rotate_left 2
  ·go_simp
   constructor
   ·rfl
   rfl
  clear hx170_0; refine hK.out _ _ (((HB.out.cell (World.block_lt_of_cell? w _ hw169_0)).trans hw169_0)) (fun hHeld => ?_)
  clear hK K; refine norm_ (a' := ?_) ?_ ?_
  rotate_left
  ·show Act.put _ (some 20) _ = _
   simp only [Act.put, sA_, sB_, sC_, i64_w, i32_w]; rfl
  refine one_ (i := 10) (N := some 21) (tb_ 2047 12) rfl rfl (one_of HT_.out (by kernel_rfl)) (by decide) (fun K hK => ?_)
  refine print_append_str_step (w0 := w) w.heap.size (by rfl) (.tmp 11) _ 22 9 5 rfl Try.underlying22 Try.underlying9 info5 u3 x3_1 (rdOf ByteArray.empty t166 (ji5)) rfl rfl ?aO ?aB ?aS ?aL ?_
  (case aB => exact (aL HB))
  (case aO => exact (Kd.own_of_R (aR HO_3)))
  (case aS => exact (below_size (aL HB)))
  (case aL => have := LMc8.out; omega)
  intro v172 w12 ho0 hb hg
  have ho := Kd.R_of_own (h1 := fun _ => rfl) (ok := fun _ => True) ho0 (fun _ _ => trivial)
  clear ho0; have hat := True.intro; rw [← Ny171.out] at ho; change Kd.R (Kd.int .u8) 5 w12 w.heap.size (fun _ => True) v172 y171 at ho
  replace HO168 := zA.mk (Kd.R_over' (aR HO168) (Kd.R_typed (aR HO_3)) (by decide) hg)
  replace HB := zA.mk (hb); have HO173 := zA.mk (ho); clear HO_3; clear ho hb hg hat; refine hK.out _ _ (((HB.out.cell (World.block_lt_of_cell? w _ hw169_0)).trans hw169_0)) (fun hHeld => ?_)
  clear hK K; refine norm_ (a' := ?_) ?_ ?_
  rotate_left
  ·show Act.put _ (some 21) _ = _
   simp only [Act.put, sA_, sB_, sC_, i64_w, i32_w]; rfl
  refine aP 11 (some 3) (tb_ 4095 12) HT_ ?_
  refine done_ (done_of HT_.out (by kernel_rfl)) ?_
  try go_wp2
  go_roundg k1
  case measure => have := HK1.out; omega
  case rel => exact ⟨(y171), (wrap64 (x4_1 + 1)), aZ, H', ⟨by have := HK1.out; omega⟩, ⟨aR HO173⟩, ⟨aL HB⟩⟩
mutual
def stanzaref01_length.j0 : Nat → Int → Bool → Option (Int)
 | 0, _, _ => none
 | k + 1, x0, x6 => if x6 = true then (some 2) else (if x0 ≥ 224 then (stanzaref01_length.j1 k x0 (decide (x0 ≤ 239))) else (stanzaref01_length.j1 k x0 false))
def stanzaref01_length.j1 : Nat → Int → Bool → Option (Int)
 | 0, _, _ => none
 | k + 1, x0, x13 => if x13 = true then (some 3) else (if x0 ≥ 240 then (if x0 ≤ 244 then (some 4) else (some 0)) else (some 0))
end
def stanzaref01_length.f (k : Nat) (a0 : Int) : Option (Int) := if a0 < 128 then (some 1) else (if a0 ≥ 194 then (stanzaref01_length.j0 k a0 (decide (a0 ≤ 223))) else (stanzaref01_length.j0 k a0 false))
theorem stanzaref01_length.mono_l : ∀ k, (∀ y0 y1, LeO (stanzaref01_length.j0 k y0 y1) (stanzaref01_length.j0 (k + 1) y0 y1)) ∧ (∀ y0 y1, LeO (stanzaref01_length.j1 k y0 y1) (stanzaref01_length.j1 (k + 1) y0 y1))
 | 0 => ⟨fun _ _ r h => by simp [stanzaref01_length.j0] at h, fun _ _ r h => by simp [stanzaref01_length.j1] at h⟩
 | k + 1 => by
  obtain ⟨ih0, ih1⟩ := stanzaref01_length.mono_l k; refine ⟨?_, ?_⟩
  ·intro y0 y1
   unfold stanzaref01_length.j0
   repeat' (with_reducible first | exact ih0 _ _ | exact ih1 _ _ | exact LeO.refl _ | exact LeO.none _ | refine LeO.ite ?_ ?_ | refine LeO.bind ?_ (fun _ => ?_))
  ·intro y0 y1
   unfold stanzaref01_length.j1
   repeat' (with_reducible first | exact ih0 _ _ | exact ih1 _ _ | exact LeO.refl _ | exact LeO.none _ | refine LeO.ite ?_ ?_ | refine LeO.bind ?_ (fun _ => ?_))
theorem stanzaref01_length.mono : ∀ a0 k, LeO (stanzaref01_length.f k a0) (stanzaref01_length.f (k + 1) a0) := by
 intro a0 k
 obtain ⟨ih0, ih1⟩ := stanzaref01_length.mono_l k; unfold stanzaref01_length.f
 repeat' (with_reducible first | exact ih0 _ _ | exact ih1 _ _ | exact LeO.refl _ | exact LeO.none _ | refine LeO.ite ?_ ?_ | refine LeO.bind ?_ (fun _ => ?_))
set_option maxHeartbeats 8000000 in
set_option maxRecDepth 100000 in
theorem stanzaref01_length.calls (k : Nat) (a0 : Int) (r : Int) (w : World) (h : stanzaref01_length.f k a0 = some r) :
  Calls Try.prog 39 #[.int .u8 a0] w fun e w' => e = .returned (.int .i64 r) ∧ Drawn0 w w' := by
 have H : (if a0 < 128 then (some 1) else (if a0 ≥ 194 then (stanzaref01_length.j0 k a0 (decide (a0 ≤ 223))) else (stanzaref01_length.j0 k a0 false))) = some r := h
 clear h; by_cases c2 : a0 < 128
 ·rw [if_pos c2] at H
  have c2b0 : decide (a0 < 128) = true := decide_eq_true c2
  clear c2; obtain rfl := Option.some.inj H
  go_enter Try.func39, Try.ntmps39
  go_wp2
  go_ret
  exact ⟨by first | rfl | (simp; done) | (simp [*]; done), by repeat (first | exact Drawn0.refl _ | apply Drawn0.step)⟩
 rw [if_neg c2] at H; have c2b0 : decide (a0 < 128) = false := decide_eq_false c2
 clear c2; have HC3 := zA.mk H; clear H; go_enter Try.func39, Try.ntmps39
 go_upto_region 3 with (fail)
 go_cut [6] (fun v6 wc => ∃ (kq : Nat) (x6_2 : Bool), v6 = .bool x6_2 ∧ zA (stanzaref01_length.j0 kq a0 x6_2 = some r) ∧ zA (kq ≤ k) ∧ Drawn0 w wc)
 case first =>
  have H := HC3.out; clear HC3; by_cases c4 : a0 ≥ 194
  ·rw [if_pos c4] at H
   have c4b0 : decide (194 ≤ a0) = true := decide_eq_true c4
   clear c4; (first | rw [c4b0] | (simp only [i64_w, i32_w]; rw [c4b0]) | skip)
   have H' := zA.mk H
   clear H; go_wp2
   go_meet
   case rel => exact ⟨_, (decide (a0 ≤ 223)), aZ, H', ⟨by first | omega | exact Nat.le_refl _⟩, by repeat (first | exact Drawn0.refl _ | apply Drawn0.step)⟩
  rw [if_neg c4] at H; have c4b0 : decide (194 ≤ a0) = false := decide_eq_false c4
  clear c4; (first | rw [c4b0] | (simp only [i64_w, i32_w]; rw [c4b0]) | skip)
  have H' := zA.mk H
  clear H; go_wp2
  go_meet
  case rel => exact ⟨_, (false), aZ, H', ⟨by first | omega | exact Nat.le_refl _⟩, by repeat (first | exact Drawn0.refl _ | apply Drawn0.step)⟩
 clear HC3; obtain ⟨kq, x6_2, rfl, HA, HJ2, ⟨mc2, rfl⟩⟩ := hcut; cases kq with
 | zero => exact absurd HA.out (by simp [stanzaref01_length.j0])
 | succ kj2 =>
  have H := HA.out; clear HA; simp only [stanzaref01_length.j0] at H; by_cases c5 : x6_2 = true
  ·subst c5
   have H1 : (some 2) = some r := by rw [if_pos rfl] at H; exact H
   clear H; have H := H1; clear H1; obtain rfl := Option.some.inj H
   go_wp2
   go_ret
   exact ⟨by first | rfl | (simp; done) | (simp [*]; done), by repeat (first | exact Drawn0.refl _ | apply Drawn0.step)⟩
  replace c5 := Bool.eq_false_iff.mpr c5; subst c5; have H1 : (if a0 ≥ 224 then (stanzaref01_length.j1 kj2 a0 (decide (a0 ≤ 239))) else (stanzaref01_length.j1 kj2 a0 false)) = some r := by rw [if_neg (show ¬ (false = true) by decide)] at H; exact H
  clear H; have H := H1; clear H1; have HC6 := zA.mk H; clear H; go_upto_region 5 with (fail)
  go_cut [13] (fun v13 wc => ∃ (kq : Nat) (x13_5 : Bool), v13 = .bool x13_5 ∧ zA (stanzaref01_length.j1 kq a0 x13_5 = some r) ∧ zA (kq ≤ kj2) ∧ Drawn0 w wc)
  case first =>
   have H := HC6.out; clear HC6; by_cases c7 : a0 ≥ 224
   ·rw [if_pos c7] at H
    have c7b0 : decide (224 ≤ a0) = true := decide_eq_true c7
    clear c7; (first | rw [c7b0] | (simp only [i64_w, i32_w]; rw [c7b0]) | skip)
    have H' := zA.mk H
    clear H; go_wp2
    go_meet
    case rel => exact ⟨_, (decide (a0 ≤ 239)), aZ, H', ⟨by have := HJ2.out; first | omega | exact Nat.le_refl _⟩, by repeat (first | exact Drawn0.refl _ | apply Drawn0.step)⟩
   rw [if_neg c7] at H; have c7b0 : decide (224 ≤ a0) = false := decide_eq_false c7
   clear c7; (first | rw [c7b0] | (simp only [i64_w, i32_w]; rw [c7b0]) | skip)
   have H' := zA.mk H
   clear H; go_wp2
   go_meet
   case rel => exact ⟨_, (false), aZ, H', ⟨by have := HJ2.out; first | omega | exact Nat.le_refl _⟩, by repeat (first | exact Drawn0.refl _ | apply Drawn0.step)⟩
  clear HC6; obtain ⟨kq, x13_5, rfl, HA, HJ5, ⟨mc5, rfl⟩⟩ := hcut; cases kq with
  | zero => exact absurd HA.out (by simp [stanzaref01_length.j1])
  | succ kj5 =>
   have H := HA.out; clear HA; simp only [stanzaref01_length.j1] at H; by_cases c8 : x13_5 = true
   ·subst c8
    have H1 : (some 3) = some r := by rw [if_pos rfl] at H; exact H
    clear H; have H := H1; clear H1; obtain rfl := Option.some.inj H
    go_wp2
    go_ret
    exact ⟨by first | rfl | (simp; done) | (simp [*]; done), by repeat (first | exact Drawn0.refl _ | apply Drawn0.step)⟩
   replace c8 := Bool.eq_false_iff.mpr c8; subst c8; have H1 : (if a0 ≥ 240 then (if a0 ≤ 244 then (some 4) else (some 0)) else (some 0)) = some r := by rw [if_neg (show ¬ (false = true) by decide)] at H; exact H
   clear H; have H := H1; clear H1; by_cases c9 : a0 ≥ 240
   rotate_left
   ·rw [if_neg c9] at H
    have c9b0 : decide (240 ≤ a0) = false := decide_eq_false c9
    clear c9; obtain rfl := Option.some.inj H
    go_wp2
    go_ret
    exact ⟨by first | rfl | (simp; done) | (simp [*]; done), by repeat (first | exact Drawn0.refl _ | apply Drawn0.step)⟩
   rw [if_pos c9] at H; have c9b0 : decide (240 ≤ a0) = true := decide_eq_true c9
   clear c9; by_cases c10 : a0 ≤ 244
   ·rw [if_pos c10] at H
    have c10b0 : decide (a0 ≤ 244) = true := decide_eq_true c10
    clear c10; obtain rfl := Option.some.inj H
    go_wp2
    go_ret
    exact ⟨by first | rfl | (simp; done) | (simp [*]; done), by repeat (first | exact Drawn0.refl _ | apply Drawn0.step)⟩
   rw [if_neg c10] at H; have c10b0 : decide (a0 ≤ 244) = false := decide_eq_false c10
   clear c10; obtain rfl := Option.some.inj H
   go_wp2
   go_ret
   exact ⟨by first | rfl | (simp; done) | (simp [*]; done), by repeat (first | exact Drawn0.refl _ | apply Drawn0.step)⟩
mutual
def stanzaref01_Begins.j0 : Nat → List Int → Bool → Option (Bool)
 | 0, _, _ => none
 | k + 1, x0, x15 => if x15 = true then (some false) else (stanzaref01_Begins.l0 k x0 1)
def stanzaref01_Begins.l0 : Nat → List Int → Int → Option (Bool)
 | 0, _, _ => none
 | k + 1, x0, x3 => if x3 < (x0.length : Int) then (if 0 ≤ x3 then (if (rd x0 x3) < 128 then (some false) else (if (rd x0 x3) > 191 then (some false) else (stanzaref01_Begins.l0 k x0 (wrap64 (x3 + 1))))) else (none)) else (if (x0.length : Int) = 1 then (some true) else (if 0 < (x0.length : Int) then (if (rd x0 0) = 224 then (if 1 < (x0.length : Int) then (some (decide ((rd x0 1) ≥ 160))) else (none)) else (if (rd x0 0) = 237 then (if 1 < (x0.length : Int) then (some (decide ((rd x0 1) < 160))) else (none)) else (if (rd x0 0) = 240 then (if 1 < (x0.length : Int) then (some (decide ((rd x0 1) ≥ 144))) else (none)) else (if (rd x0 0) = 244 then (if 1 < (x0.length : Int) then (some (decide ((rd x0 1) < 144))) else (none)) else (some true))))) else (none)))
end
def stanzaref01_Begins.f (k : Nat) (l0 : List Int) : Option (Bool) := if (l0.length : Int) = 0 then (stanzaref01_Begins.j0 k l0 true) else (if 0 < (l0.length : Int) then ((stanzaref01_length.f k (rd l0 0)).bind fun t175 => (stanzaref01_Begins.j0 k l0 (decide ((l0.length : Int) > t175)))) else (none))
theorem stanzaref01_Begins.mono_l : ∀ k, (∀ y0 y1, LeO (stanzaref01_Begins.j0 k y0 y1) (stanzaref01_Begins.j0 (k + 1) y0 y1)) ∧ (∀ y0 y1, LeO (stanzaref01_Begins.l0 k y0 y1) (stanzaref01_Begins.l0 (k + 1) y0 y1))
 | 0 => ⟨fun _ _ r h => by simp [stanzaref01_Begins.j0] at h, fun _ _ r h => by simp [stanzaref01_Begins.l0] at h⟩
 | k + 1 => by
  obtain ⟨ih0, ih1⟩ := stanzaref01_Begins.mono_l k; refine ⟨?_, ?_⟩
  ·intro y0 y1
   unfold stanzaref01_Begins.j0
   repeat' (with_reducible first | exact ih0 _ _ | exact ih1 _ _ | exact stanzaref01_length.mono _ _ | exact LeO.refl _ | exact LeO.none _ | refine LeO.ite ?_ ?_ | refine LeO.bind ?_ (fun _ => ?_))
  ·intro y0 y1
   unfold stanzaref01_Begins.l0
   repeat' (with_reducible first | exact ih0 _ _ | exact ih1 _ _ | exact stanzaref01_length.mono _ _ | exact LeO.refl _ | exact LeO.none _ | refine LeO.ite ?_ ?_ | refine LeO.bind ?_ (fun _ => ?_))
theorem stanzaref01_Begins.mono : ∀ a0 k, LeO (stanzaref01_Begins.f k a0) (stanzaref01_Begins.f (k + 1) a0) := by
 intro a0 k
 obtain ⟨ih0, ih1⟩ := stanzaref01_Begins.mono_l k; unfold stanzaref01_Begins.f
 repeat' (with_reducible first | exact ih0 _ _ | exact ih1 _ _ | exact stanzaref01_length.mono _ _ | exact LeO.refl _ | exact LeO.none _ | refine LeO.ite ?_ ?_ | refine LeO.bind ?_ (fun _ => ?_))
set_option maxHeartbeats 8000000 in
set_option maxRecDepth 100000 in
theorem stanzaref01_Begins.calls (k : Nat) (A0 : Option Addr) (c0 : Nat) (l0 : List Int) (r : Bool) (w : World) (hr0 : Kd.C (Kd.int .u8) w A0 l0.length l0) (hc0 : l0.length ≤ c0) (h : stanzaref01_Begins.f k l0 = some r) :
  Calls Try.prog 38 #[.slice A0 l0.length c0] w fun e w' => e = .returned (.bool r) ∧ Drawn0 w w' := by
 have HR0 := zA.mk hr0; have HC0 := zA.mk hc0; clear hr0 hc0; have H : (if (l0.length : Int) = 0 then (stanzaref01_Begins.j0 k l0 true) else (if 0 < (l0.length : Int) then ((stanzaref01_length.f k (rd l0 0)).bind fun t175 => (stanzaref01_Begins.j0 k l0 (decide ((l0.length : Int) > t175)))) else (none))) = some r := h
 clear h; have HC2 := zA.mk H; clear H; go_enter Try.func38, Try.ntmps38
 go_upto_region 1 with (fail)
 go_cut [15] (fun v15 wc => ∃ (kq : Nat) (x15_1 : Bool), v15 = .bool x15_1 ∧ zA (stanzaref01_Begins.j0 kq l0 x15_1 = some r) ∧ zA (kq ≤ k) ∧ Drawn0 w wc)
 case first =>
  have H := HC2.out; clear HC2; by_cases c3 : (l0.length : Int) = 0
  ·rw [if_pos c3] at H
   have c3b0 : ((l0.length : Int) == 0) = true := beq_iff_eq.mpr c3
   have c3b1 : ((l0.length : Int) != 0) = false := bne_eq_false_iff_eq.mpr c3
   clear c3; (first | rw [c3b0] | (simp only [i64_w, i32_w]; rw [c3b0]) | skip)
   have H' := zA.mk H
   clear H; go_wp2
   go_meet
   case rel => exact ⟨_, (true), aZ, H', ⟨by first | omega | exact Nat.le_refl _⟩, by repeat (first | exact Drawn0.refl _ | apply Drawn0.step)⟩
  rw [if_neg c3] at H; have c3b0 : ((l0.length : Int) == 0) = false := beq_eq_false_iff_ne.mpr c3
  have c3b1 : ((l0.length : Int) != 0) = true := bne_iff_ne.mpr c3
  have c3b2 : ¬ (l0 = []) := fun h_ => c3 (by rw [h_]; rfl)
  (first | rw [c3b0] | (simp only [i64_w, i32_w]; rw [c3b0]) | skip)
  by_cases c4 : 0 < (l0.length : Int)
  rotate_left
  ·rw [if_neg c4] at H
   exact absurd H (by simp)
  rw [if_pos c4] at H; have c4b0 : decide (0 < (l0.length : Int)) = true := decide_eq_true c4
  have c4b1 : decide (0 < l0.length) = true := decide_eq_true (by omega)
  clear c4; replace H := Option.bind_eq_some_iff.mp H; obtain ⟨t175, A50, H⟩ := H; replace H : (stanzaref01_Begins.j0 k l0 (decide ((l0.length : Int) > t175))) = some r := H; have A5 := zA.mk A50; clear A50; have H' := zA.mk H
  clear H; have p174 : 0 ≤ (0 : Int) := (by omega)
  have q174 : 0 < (l0.length : Int) := aD
  obtain ⟨ad174, e174, hx174_0⟩ := Kd.at_int HR0.out 0 p174 q174; cases e174
  have qi174 : (0 < l0.length) = True := eq_true (by omega)
  (try rw [show ((0 : Int)).toNat = 0 from rfl] at hx174_0)
  (try rw [Addr.add_zero'] at hx174_0)
  replace p174 := eq_true p174; replace q174 := eq_true q174; go_wp2_with (first | (go_at_call 39; (with_reducible refine (stanzaref01_length.calls k (rd l0 0) t175 _ A5.out).mono ?_); rintro e w' ⟨rfl, ⟨nd, rfl⟩⟩))
  go_meet
  case rel => exact ⟨_, (decide ((l0.length : Int) > t175)), aZ, H', ⟨by first | omega | exact Nat.le_refl _⟩, by repeat (first | exact Drawn0.refl _ | apply Drawn0.step)⟩
 clear HC2; obtain ⟨kq, x15_1, rfl, HA, HJ1, ⟨mc1, rfl⟩⟩ := hcut; cases kq with
 | zero => exact absurd HA.out (by simp [stanzaref01_Begins.j0])
 | succ kj1 =>
  have H := HA.out; clear HA; simp only [stanzaref01_Begins.j0] at H; by_cases c6 : x15_1 = true
  ·subst c6
   have H1 : (some false) = some r := by rw [if_pos rfl] at H; exact H
   clear H; have H := H1; clear H1; obtain rfl := Option.some.inj H
   go_wp2
   go_ret
   exact ⟨by first | rfl | (simp; done) | (simp [*]; done), by repeat (first | exact Drawn0.refl _ | apply Drawn0.step)⟩
  replace c6 := Bool.eq_false_iff.mpr c6; subst c6; have H1 : (stanzaref01_Begins.l0 kj1 l0 1) = some r := by rw [if_neg (show ¬ (false = true) by decide)] at H; exact H
  clear H; have H := H1; clear H1; have H' := zA.mk H
  clear H; go_wp2
  go_loopg [3] kj1 (fun kq v3 w' => ∃ (x3_2 : Int), v3 = .int .i64 x3_2 ∧ zA (stanzaref01_Begins.l0 kq l0 x3_2 = some r) ∧ zA (kq ≤ kj1) ∧ Drawn0 w w')
  case atStart => exact ⟨(1), aZ, H', ⟨Nat.le_refl _⟩, by repeat (first | exact Drawn0.refl _ | apply Drawn0.step)⟩
  clear H'; obtain ⟨x3_2, rfl, HA, HK2, ⟨m2, rfl⟩⟩ := hrel; cases gk with
  | zero => exact absurd HA.out (by simp [stanzaref01_Begins.l0])
  | succ k2 =>
   have H := HA.out; clear HA; simp only [stanzaref01_Begins.l0] at H; by_cases c7 : x3_2 < (l0.length : Int)
   ·rw [if_pos c7] at H
    have c7b0 : decide (x3_2 < (l0.length : Int)) = true := decide_eq_true c7
    clear c7; by_cases c8 : 0 ≤ x3_2
    rotate_left
    ·rw [if_neg c8] at H
     exact absurd H (by simp)
    rw [if_pos c8] at H; have c8b0 : decide (0 ≤ x3_2) = true := decide_eq_true c8
    clear c8; by_cases c9 : (rd l0 x3_2) < 128
    ·rw [if_pos c9] at H
     have c9b0 : decide ((rd l0 x3_2) < 128) = true := decide_eq_true c9
     clear c9; obtain rfl := Option.some.inj H
     have p176 : 0 ≤ (x3_2 : Int) := aD
     have q176 : x3_2 < (l0.length : Int) := aD
     obtain ⟨ad176, e176, hx176_0⟩ := Kd.at_int HR0.out x3_2 p176 q176; cases e176
     replace p176 := eq_true p176; replace q176 := eq_true q176; go_wp2
     go_ret
     exact ⟨by first | rfl | (simp; done) | (simp [*]; done), by repeat (first | exact Drawn0.refl _ | apply Drawn0.step)⟩
    rw [if_neg c9] at H; have c9b0 : decide ((rd l0 x3_2) < 128) = false := decide_eq_false c9
    clear c9; by_cases c10 : (rd l0 x3_2) > 191
    ·rw [if_pos c10] at H
     have c10b0 : decide (191 < (rd l0 x3_2)) = true := decide_eq_true c10
     clear c10; obtain rfl := Option.some.inj H
     have p176 : 0 ≤ (x3_2 : Int) := aD
     have q176 : x3_2 < (l0.length : Int) := aD
     obtain ⟨ad176, e176, hx176_0⟩ := Kd.at_int HR0.out x3_2 p176 q176; cases e176
     replace p176 := eq_true p176; replace q176 := eq_true q176; have p177 : 0 ≤ (x3_2 : Int) := aD
     have q177 : x3_2 < (l0.length : Int) := aD
     obtain ⟨ad177, e177, hx177_0⟩ := Kd.at_int HR0.out x3_2 p177 q177; obtain rfl : ad176 = ad177 := (by injection e177)
     replace p177 := eq_true p177; replace q177 := eq_true q177; go_wp2
     go_ret
     exact ⟨by first | rfl | (simp; done) | (simp [*]; done), by repeat (first | exact Drawn0.refl _ | apply Drawn0.step)⟩
    rw [if_neg c10] at H; have c10b0 : decide (191 < (rd l0 x3_2)) = false := decide_eq_false c10
    clear c10; have H' := zA.mk H
    clear H; have p176 : 0 ≤ (x3_2 : Int) := aD
    have q176 : x3_2 < (l0.length : Int) := aD
    obtain ⟨ad176, e176, hx176_0⟩ := Kd.at_int HR0.out x3_2 p176 q176; cases e176
    replace p176 := eq_true p176; replace q176 := eq_true q176; have p177 : 0 ≤ (x3_2 : Int) := aD
    have q177 : x3_2 < (l0.length : Int) := aD
    obtain ⟨ad177, e177, hx177_0⟩ := Kd.at_int HR0.out x3_2 p177 q177; obtain rfl : ad176 = ad177 := (by injection e177)
    replace p177 := eq_true p177; replace q177 := eq_true q177; go_wp2
    go_roundg k2
    case measure => have := HJ1.out; have := HK2.out; omega
    case rel => exact ⟨(wrap64 (x3_2 + 1)), aZ, H', ⟨by have := HJ1.out; have := HK2.out; omega⟩, by repeat (first | exact Drawn0.refl _ | apply Drawn0.step)⟩
   rw [if_neg c7] at H; have c7b0 : decide (x3_2 < (l0.length : Int)) = false := decide_eq_false c7
   clear c7; by_cases c11 : (l0.length : Int) = 1
   ·rw [if_pos c11] at H
    have c11b0 : ((l0.length : Int) == 1) = true := beq_iff_eq.mpr c11
    have c11b1 : ((l0.length : Int) != 1) = false := bne_eq_false_iff_eq.mpr c11
    clear c11; obtain rfl := Option.some.inj H
    go_wp2
    go_ret
    exact ⟨by first | rfl | (simp; done) | (simp [*]; done), by repeat (first | exact Drawn0.refl _ | apply Drawn0.step)⟩
   rw [if_neg c11] at H; have c11b0 : ((l0.length : Int) == 1) = false := beq_eq_false_iff_ne.mpr c11
   have c11b1 : ((l0.length : Int) != 1) = true := bne_iff_ne.mpr c11
   by_cases c12 : 0 < (l0.length : Int)
   rotate_left
   ·rw [if_neg c12] at H
    exact absurd H (by simp)
   rw [if_pos c12] at H; have c12b0 : decide (0 < (l0.length : Int)) = true := decide_eq_true c12
   have c12b1 : decide (0 < l0.length) = true := decide_eq_true (by omega)
   clear c12; by_cases c13 : (rd l0 0) = 224
   ·rw [if_pos c13] at H
    have c13b0 : ((rd l0 0) == 224) = true := beq_iff_eq.mpr c13
    have c13b1 : ((rd l0 0) != 224) = false := bne_eq_false_iff_eq.mpr c13
    clear c13; by_cases c14 : 1 < (l0.length : Int)
    rotate_left
    ·rw [if_neg c14] at H
     exact absurd H (by simp)
    rw [if_pos c14] at H; have c14b0 : decide (1 < (l0.length : Int)) = true := decide_eq_true c14
    have c14b1 : decide (1 < l0.length) = true := decide_eq_true (by omega)
    clear c14; obtain rfl := Option.some.inj H
    have p178 : 0 ≤ (0 : Int) := (by omega)
    have q178 : 0 < (l0.length : Int) := aD
    obtain ⟨ad178, e178, hx178_0⟩ := Kd.at_int HR0.out 0 p178 q178; cases e178
    have qi178 : (0 < l0.length) = True := eq_true (by omega)
    (try rw [show ((0 : Int)).toNat = 0 from rfl] at hx178_0)
    (try rw [Addr.add_zero'] at hx178_0)
    replace p178 := eq_true p178; replace q178 := eq_true q178; have p179 : 0 ≤ (1 : Int) := (by omega)
    have q179 : 1 < (l0.length : Int) := aD
    obtain ⟨ad179, e179, hx179_0⟩ := Kd.at_int HR0.out 1 p179 q179; obtain rfl : ad178 = ad179 := (by injection e179)
    (try simp only [show (1 : Int).toNat = 1 from rfl, Nat.reduceMul, Nat.reduceEqDiff, Go.Addr.add, ↓reduceIte] at hx179_0)
    have qi179 : (1 < l0.length) = True := eq_true (by omega)
    (try rw [show ((1 : Int)).toNat = 1 from rfl] at hx179_0)
    replace p179 := eq_true p179; replace q179 := eq_true q179; go_wp2
    go_ret
    exact ⟨by first | rfl | (simp; done) | (simp [*]; done), by repeat (first | exact Drawn0.refl _ | apply Drawn0.step)⟩
   rw [if_neg c13] at H; have c13b0 : ((rd l0 0) == 224) = false := beq_eq_false_iff_ne.mpr c13
   have c13b1 : ((rd l0 0) != 224) = true := bne_iff_ne.mpr c13
   by_cases c15 : (rd l0 0) = 237
   ·rw [if_pos c15] at H
    have c15b0 : ((rd l0 0) == 237) = true := beq_iff_eq.mpr c15
    have c15b1 : ((rd l0 0) != 237) = false := bne_eq_false_iff_eq.mpr c15
    clear c15; by_cases c16 : 1 < (l0.length : Int)
    rotate_left
    ·rw [if_neg c16] at H
     exact absurd H (by simp)
    rw [if_pos c16] at H; have c16b0 : decide (1 < (l0.length : Int)) = true := decide_eq_true c16
    have c16b1 : decide (1 < l0.length) = true := decide_eq_true (by omega)
    clear c16; obtain rfl := Option.some.inj H
    have p178 : 0 ≤ (0 : Int) := (by omega)
    have q178 : 0 < (l0.length : Int) := aD
    obtain ⟨ad178, e178, hx178_0⟩ := Kd.at_int HR0.out 0 p178 q178; cases e178
    have qi178 : (0 < l0.length) = True := eq_true (by omega)
    (try rw [show ((0 : Int)).toNat = 0 from rfl] at hx178_0)
    (try rw [Addr.add_zero'] at hx178_0)
    replace p178 := eq_true p178; replace q178 := eq_true q178; have p180 : 0 ≤ (1 : Int) := (by omega)
    have q180 : 1 < (l0.length : Int) := aD
    obtain ⟨ad180, e180, hx180_0⟩ := Kd.at_int HR0.out 1 p180 q180; obtain rfl : ad178 = ad180 := (by injection e180)
    (try simp only [show (1 : Int).toNat = 1 from rfl, Nat.reduceMul, Nat.reduceEqDiff, Go.Addr.add, ↓reduceIte] at hx180_0)
    have qi180 : (1 < l0.length) = True := eq_true (by omega)
    (try rw [show ((1 : Int)).toNat = 1 from rfl] at hx180_0)
    replace p180 := eq_true p180; replace q180 := eq_true q180; go_wp2
    go_ret
    exact ⟨by first | rfl | (simp; done) | (simp [*]; done), by repeat (first | exact Drawn0.refl _ | apply Drawn0.step)⟩
   rw [if_neg c15] at H; have c15b0 : ((rd l0 0) == 237) = false := beq_eq_false_iff_ne.mpr c15
   have c15b1 : ((rd l0 0) != 237) = true := bne_iff_ne.mpr c15
   by_cases c17 : (rd l0 0) = 240
   ·rw [if_pos c17] at H
    have c17b0 : ((rd l0 0) == 240) = true := beq_iff_eq.mpr c17
    have c17b1 : ((rd l0 0) != 240) = false := bne_eq_false_iff_eq.mpr c17
    clear c17; by_cases c18 : 1 < (l0.length : Int)
    rotate_left
    ·rw [if_neg c18] at H
     exact absurd H (by simp)
    rw [if_pos c18] at H; have c18b0 : decide (1 < (l0.length : Int)) = true := decide_eq_true c18
    have c18b1 : decide (1 < l0.length) = true := decide_eq_true (by omega)
    clear c18; obtain rfl := Option.some.inj H
    have p178 : 0 ≤ (0 : Int) := (by omega)
    have q178 : 0 < (l0.length : Int) := aD
    obtain ⟨ad178, e178, hx178_0⟩ := Kd.at_int HR0.out 0 p178 q178; cases e178
    have qi178 : (0 < l0.length) = True := eq_true (by omega)
    (try rw [show ((0 : Int)).toNat = 0 from rfl] at hx178_0)
    (try rw [Addr.add_zero'] at hx178_0)
    replace p178 := eq_true p178; replace q178 := eq_true q178; have p181 : 0 ≤ (1 : Int) := (by omega)
    have q181 : 1 < (l0.length : Int) := aD
    obtain ⟨ad181, e181, hx181_0⟩ := Kd.at_int HR0.out 1 p181 q181; obtain rfl : ad178 = ad181 := (by injection e181)
    (try simp only [show (1 : Int).toNat = 1 from rfl, Nat.reduceMul, Nat.reduceEqDiff, Go.Addr.add, ↓reduceIte] at hx181_0)
    have qi181 : (1 < l0.length) = True := eq_true (by omega)
    (try rw [show ((1 : Int)).toNat = 1 from rfl] at hx181_0)
    replace p181 := eq_true p181; replace q181 := eq_true q181; go_wp2
    go_ret
    exact ⟨by first | rfl | (simp; done) | (simp [*]; done), by repeat (first | exact Drawn0.refl _ | apply Drawn0.step)⟩
   rw [if_neg c17] at H; have c17b0 : ((rd l0 0) == 240) = false := beq_eq_false_iff_ne.mpr c17
   have c17b1 : ((rd l0 0) != 240) = true := bne_iff_ne.mpr c17
   by_cases c19 : (rd l0 0) = 244
   rotate_left
   ·rw [if_neg c19] at H
    have c19b0 : ((rd l0 0) == 244) = false := beq_eq_false_iff_ne.mpr c19
    have c19b1 : ((rd l0 0) != 244) = true := bne_iff_ne.mpr c19
    obtain rfl := Option.some.inj H
    have p178 : 0 ≤ (0 : Int) := (by omega)
    have q178 : 0 < (l0.length : Int) := aD
    obtain ⟨ad178, e178, hx178_0⟩ := Kd.at_int HR0.out 0 p178 q178; cases e178
    have qi178 : (0 < l0.length) = True := eq_true (by omega)
    (try rw [show ((0 : Int)).toNat = 0 from rfl] at hx178_0)
    (try rw [Addr.add_zero'] at hx178_0)
    replace p178 := eq_true p178; replace q178 := eq_true q178; go_wp2
    go_ret
    exact ⟨by first | rfl | (simp; done) | (simp [*]; done), by repeat (first | exact Drawn0.refl _ | apply Drawn0.step)⟩
   rw [if_pos c19] at H; have c19b0 : ((rd l0 0) == 244) = true := beq_iff_eq.mpr c19
   have c19b1 : ((rd l0 0) != 244) = false := bne_eq_false_iff_eq.mpr c19
   clear c19; by_cases c20 : 1 < (l0.length : Int)
   rotate_left
   ·rw [if_neg c20] at H
    exact absurd H (by simp)
   rw [if_pos c20] at H; have c20b0 : decide (1 < (l0.length : Int)) = true := decide_eq_true c20
   have c20b1 : decide (1 < l0.length) = true := decide_eq_true (by omega)
   clear c20; obtain rfl := Option.some.inj H
   have p178 : 0 ≤ (0 : Int) := (by omega)
   have q178 : 0 < (l0.length : Int) := aD
   obtain ⟨ad178, e178, hx178_0⟩ := Kd.at_int HR0.out 0 p178 q178; cases e178
   have qi178 : (0 < l0.length) = True := eq_true (by omega)
   (try rw [show ((0 : Int)).toNat = 0 from rfl] at hx178_0)
   (try rw [Addr.add_zero'] at hx178_0)
   replace p178 := eq_true p178; replace q178 := eq_true q178; have p182 : 0 ≤ (1 : Int) := (by omega)
   have q182 : 1 < (l0.length : Int) := aD
   obtain ⟨ad182, e182, hx182_0⟩ := Kd.at_int HR0.out 1 p182 q182; obtain rfl : ad178 = ad182 := (by injection e182)
   (try simp only [show (1 : Int).toNat = 1 from rfl, Nat.reduceMul, Nat.reduceEqDiff, Go.Addr.add, ↓reduceIte] at hx182_0)
   have qi182 : (1 < l0.length) = True := eq_true (by omega)
   (try rw [show ((1 : Int)).toNat = 1 from rfl] at hx182_0)
   replace p182 := eq_true p182; replace q182 := eq_true q182; go_wp2
   go_ret
   exact ⟨by first | rfl | (simp; done) | (simp [*]; done), by repeat (first | exact Drawn0.refl _ | apply Drawn0.step)⟩
mutual
def stanzaref01_One.j0 : Nat → List Int → Int → Bool → Option (Int × Int × Int)
 | 0, _, _, _ => none
 | k + 1, x0, x1, x16 => if x16 = true then (some (0, 0, 0)) else (stanzaref01_One.l0 k x0 x1 0)
def stanzaref01_One.j2 : Nat → List Int → Int → Int → Option (Int × Int × Int)
 | 0, _, _, _ => none
 | k + 1, x0, x1, x5 => if x5 = 0 then (some (65533, x1, 1)) else (if 0 ≤ x1 then (if x1 < (x0.length : Int) then ((stanzaref01_length.f k (rd x0 x1)).bind fun t187 => (if x5 < t187 then (some (65533, x1, x5)) else ((some (([0, 127, 31, 15, 7] : List Int) : List Int)).bind fun y189 => (if 0 ≤ x5 then (if x5 < (y189.length : Int) then (stanzaref01_One.l1 k x0 x1 x5 (Go.bits .and .i32 (wrap32 (rd x0 x1)) (rd y189 x5)) 1) else (none)) else (none))))) else (none)) else (none))
def stanzaref01_One.l1 : Nat → List Int → Int → Int → Int → Int → Option (Int × Int × Int)
 | 0, _, _, _, _, _ => none
 | k + 1, x0, x1, x5, x6, x8 => if x8 < x5 then (if 0 ≤ (wrap64 (x1 + x8)) then (if (wrap64 (x1 + x8)) < (x0.length : Int) then (stanzaref01_One.l1 k x0 x1 x5 (wrap32 ((wrap32 ((wrap32 (x6 * 64)) + (wrap32 (rd x0 (wrap64 (x1 + x8)))))) - 128)) (wrap64 (x8 + 1))) else (none)) else (none)) else (some (x6, x1, x5))
def stanzaref01_One.l0 : Nat → List Int → Int → Int → Option (Int × Int × Int)
 | 0, _, _, _ => none
 | k + 1, x0, x1, x5 => if x5 < 4 then (if x5 < (wrap64 ((x0.length : Int) - x1)) then (if 0 ≤ x1 then (if x1 ≤ (wrap64 ((wrap64 (x1 + x5)) + 1)) then (if (wrap64 ((wrap64 (x1 + x5)) + 1)) ≤ (x0.length : Int) then ((stanzaref01_Begins.f k ((x0.take ((wrap64 ((wrap64 (x1 + x5)) + 1)) : Int).toNat).drop (x1 : Int).toNat)).bind fun t185 => (if t185 = true then (stanzaref01_One.l0 k x0 x1 (wrap64 (x5 + 1))) else (stanzaref01_One.j2 k x0 x1 x5))) else (none)) else (none)) else (none)) else (stanzaref01_One.j2 k x0 x1 x5)) else (stanzaref01_One.j2 k x0 x1 x5)
end
def stanzaref01_One.f (k : Nat) (l0 : List Int) (a1 : Int) : Option (Int × Int × Int) := if a1 < 0 then (stanzaref01_One.j0 k l0 a1 true) else (stanzaref01_One.j0 k l0 a1 (decide (a1 ≥ (l0.length : Int))))
theorem stanzaref01_One.mono_l : ∀ k, (∀ y0 y1 y2, LeO (stanzaref01_One.j0 k y0 y1 y2) (stanzaref01_One.j0 (k + 1) y0 y1 y2)) ∧ (∀ y0 y1 y2, LeO (stanzaref01_One.j2 k y0 y1 y2) (stanzaref01_One.j2 (k + 1) y0 y1 y2)) ∧ (∀ y0 y1 y2 y3 y4, LeO (stanzaref01_One.l1 k y0 y1 y2 y3 y4) (stanzaref01_One.l1 (k + 1) y0 y1 y2 y3 y4)) ∧ (∀ y0 y1 y2, LeO (stanzaref01_One.l0 k y0 y1 y2) (stanzaref01_One.l0 (k + 1) y0 y1 y2))
 | 0 => ⟨fun _ _ _ r h => by simp [stanzaref01_One.j0] at h, fun _ _ _ r h => by simp [stanzaref01_One.j2] at h, fun _ _ _ _ _ r h => by simp [stanzaref01_One.l1] at h, fun _ _ _ r h => by simp [stanzaref01_One.l0] at h⟩
 | k + 1 => by
  obtain ⟨ih0, ih1, ih2, ih3⟩ := stanzaref01_One.mono_l k; refine ⟨?_, ?_, ?_, ?_⟩
  ·intro y0 y1 y2
   unfold stanzaref01_One.j0
   repeat' (with_reducible first | exact ih0 _ _ _ | exact ih1 _ _ _ | exact ih2 _ _ _ _ _ | exact ih3 _ _ _ | exact stanzaref01_Begins.mono _ _ | exact stanzaref01_length.mono _ _ | exact LeO.refl _ | exact LeO.none _ | refine LeO.ite ?_ ?_ | refine LeO.bind ?_ (fun _ => ?_))
  ·intro y0 y1 y2
   unfold stanzaref01_One.j2
   repeat' (with_reducible first | exact ih0 _ _ _ | exact ih1 _ _ _ | exact ih2 _ _ _ _ _ | exact ih3 _ _ _ | exact stanzaref01_Begins.mono _ _ | exact stanzaref01_length.mono _ _ | exact LeO.refl _ | exact LeO.none _ | refine LeO.ite ?_ ?_ | refine LeO.bind ?_ (fun _ => ?_))
  ·intro y0 y1 y2 y3 y4
   unfold stanzaref01_One.l1
   repeat' (with_reducible first | exact ih0 _ _ _ | exact ih1 _ _ _ | exact ih2 _ _ _ _ _ | exact ih3 _ _ _ | exact stanzaref01_Begins.mono _ _ | exact stanzaref01_length.mono _ _ | exact LeO.refl _ | exact LeO.none _ | refine LeO.ite ?_ ?_ | refine LeO.bind ?_ (fun _ => ?_))
  ·intro y0 y1 y2
   unfold stanzaref01_One.l0
   repeat' (with_reducible first | exact ih0 _ _ _ | exact ih1 _ _ _ | exact ih2 _ _ _ _ _ | exact ih3 _ _ _ | exact stanzaref01_Begins.mono _ _ | exact stanzaref01_length.mono _ _ | exact LeO.refl _ | exact LeO.none _ | refine LeO.ite ?_ ?_ | refine LeO.bind ?_ (fun _ => ?_))
theorem stanzaref01_One.mono : ∀ a0 a1 k, LeO (stanzaref01_One.f k a0 a1) (stanzaref01_One.f (k + 1) a0 a1) := by
 intro a0 a1 k
 obtain ⟨ih0, ih1, ih2, ih3⟩ := stanzaref01_One.mono_l k; unfold stanzaref01_One.f
 repeat' (with_reducible first | exact ih0 _ _ _ | exact ih1 _ _ _ | exact ih2 _ _ _ _ _ | exact ih3 _ _ _ | exact stanzaref01_Begins.mono _ _ | exact stanzaref01_length.mono _ _ | exact LeO.refl _ | exact LeO.none _ | refine LeO.ite ?_ ?_ | refine LeO.bind ?_ (fun _ => ?_))
set_option maxHeartbeats 8000000 in
set_option maxRecDepth 100000 in
theorem stanzaref01_One.calls (k : Nat) (A0 : Option Addr) (c0 : Nat) (l0 : List Int) (a1 : Int) (r1 : Int) (r2 : Int) (r3 : Int) (w : World) (hr0 : Kd.C (Kd.int .u8) w A0 l0.length l0) (hc0 : l0.length ≤ c0) (h : stanzaref01_One.f k l0 a1 = some (r1, r2, r3)) :
  Calls Try.prog 35 #[.slice A0 l0.length c0, .int .i64 a1] w fun e w' => e = .returned (.agg #[.int .i32 r1, .int .i64 r2, .int .i64 r3]) ∧ Below w.heap.size w w' := by
 have hu50 := Try.underlying50; have HR0 := zA.mk hr0; have HC0 := zA.mk hc0; clear hr0 hc0; have HB := zA.mk (Below.refl w.heap.size w); have H : (if a1 < 0 then (stanzaref01_One.j0 k l0 a1 true) else (stanzaref01_One.j0 k l0 a1 (decide (a1 ≥ (l0.length : Int))))) = some (r1, r2, r3) := h
 clear h; have HC3 := zA.mk H; clear H; go_enter Try.func35, Try.ntmps35
 go_upto_region 1 with (first | ((with_reducible refine gate_dst (N := 4) rfl ?_); (try (refine gate_guard (by rfl) ?_; dsimp only)); refine box_event ?hg (N := 4) ?hd (cs := #[.int .i32 0, .int .i64 0, .int .i64 0]) (t := 50) ?hr ?_; (case hd => rfl); (case hg => rfl); (case hr => first | (go_simp; done) | (go_simp; rfl)); intro gb183 hg w4 hbox hb; have BK183 := zA.mk (hbox); have GW183 := zA.mk ((by rw [hg]; exact (below_size (aL HB)) : w.heap.size ≤ gb183)); replace HB := zA.mk (below_step (aL HB) hb); have GE183 := GW183; clear hb hbox hg))
 (try simp only [Act.put, sA_, sB_, sC_])
 go_cut [16] (fun v16 wc => ∃ (kq : Nat) (x16_2 : Bool), v16 = .bool x16_2 ∧ zA (stanzaref01_One.j0 kq l0 a1 x16_2 = some (r1, r2, r3)) ∧ zA (kq ≤ k) ∧ zA (wc.heap[gb183]? = some (.cells #[.int .i32 0, .int .i64 0, .int .i64 0] 50 (0, 0))) ∧ zA (Below w.heap.size w wc))
 case first =>
  have H := HC3.out; clear HC3; by_cases c5 : a1 < 0
  ·rw [if_pos c5] at H
   have c5b0 : decide (a1 < 0) = true := decide_eq_true c5
   clear c5; (first | rw [c5b0] | (simp only [i64_w, i32_w]; rw [c5b0]) | skip)
   have H' := zA.mk H
   clear H; go_wp2
   go_meet
   case rel => exact ⟨_, (true), aZ, H', ⟨by first | omega | exact Nat.le_refl _⟩, ⟨aB BK183⟩, ⟨aL HB⟩⟩
  rw [if_neg c5] at H; have c5b0 : decide (a1 < 0) = false := decide_eq_false c5
  clear c5; (first | rw [c5b0] | (simp only [i64_w, i32_w]; rw [c5b0]) | skip)
  have H' := zA.mk H
  clear H; go_wp2
  go_meet
  case rel => exact ⟨_, (decide (a1 ≥ (l0.length : Int))), aZ, H', ⟨by first | omega | exact Nat.le_refl _⟩, ⟨aB BK183⟩, ⟨aL HB⟩⟩
 clear HC3; obtain ⟨kq, x16_2, rfl, HA, HJ2, BK183, HB⟩ := hcut; cases kq with
 | zero => exact absurd HA.out (by simp [stanzaref01_One.j0])
 | succ kj2 =>
  have H := HA.out; clear HA; simp only [stanzaref01_One.j0] at H; by_cases c6 : x16_2 = true
  ·subst c6
   have H1 : (some (0, 0, 0)) = some (r1, r2, r3) := by rw [if_pos rfl] at H; exact H
   clear H; have H := H1; clear H1; simp only [Option.some.injEq, Prod.mk.injEq] at H; obtain ⟨rfl, rfl, rfl⟩ := H; obtain ⟨hcz7_0, hcz7_1, hcz7_2, hfz7_0, hfz7_1, hfz7_2⟩ := aC3 BK183; go_wp2_with (first | ((with_reducible refine gate_store (t := 50) (p := 4) rfl ?_); refine store_event (t := 50) (p := 4) (v := ?vo_w8) (w1 := (((wc.setCell ⟨gb183, 0, none⟩ (.int .i32 0)).setCell ⟨gb183, 1, none⟩ (.int .i64 0)).setCell ⟨gb183, 2, none⟩ (.int .i64 0))) ?hg ?ho ?hn ?hr ?_; (case ho => rfl); (case hg => rfl); (case hn => rfl); (case hr => first | (go_simp; done) | (go_simp; rfl)); intro w8 hw; have n0_ : zA (w8.heap[gb183]? = some (.cells #[.int .i32 0, .int .i64 0, .int .i64 0] 50 (0, 0))) := ⟨(by rw [hw]; exact (by (with_reducible repeat (first | refine blk_drewN ?_ _ | refine blk_drew ?_ | refine blk_alloc ?_ _)); refine blk_put (cs := #[.int .i32 0, .int .i64 0, .int .i64 0]) ?_ 2 _ rfl; (with_reducible repeat (first | refine blk_drewN ?_ _ | refine blk_drew ?_ | refine blk_alloc ?_ _)); refine blk_put (cs := #[.int .i32 0, .int .i64 0, .int .i64 0]) ?_ 1 _ rfl; (with_reducible repeat (first | refine blk_drewN ?_ _ | refine blk_drew ?_ | refine blk_alloc ?_ _)); refine blk_put (cs := #[.int .i32 0, .int .i64 0, .int .i64 0]) ?_ 0 _ rfl; (with_reducible repeat (first | refine blk_drewN ?_ _ | refine blk_drew ?_ | refine blk_alloc ?_ _)); exact BK183.out))⟩; have n1_ : zA (Below w.heap.size w w8) := ⟨(by rw [hw]; exact (aL HB))⟩; clear hw; clear BK183; clear HB; have BK183 := n0_; have HB := n1_; clear n0_ n1_))
   refine bodyPost_ret (results_cell_row rfl _ _ gb183 50 #[.int .i32 0, .int .i64 0, .int .i64 0] (0, 0) _ rfl (aB BK183) Try.underlying50 rfl (by kernel_rfl)) rfl ?_
   exact ⟨aX, aL HB⟩
  replace c6 := Bool.eq_false_iff.mpr c6; subst c6; have H1 : (stanzaref01_One.l0 kj2 l0 a1 0) = some (r1, r2, r3) := by rw [if_neg (show ¬ (false = true) by decide)] at H; exact H
  clear H; have H := H1; clear H1; have HC9 := zA.mk H; clear H; go_upto_block 0 with (fail)
  go_cut [5] (fun v5 wc => ∃ (kq : Nat) (x5_8 : Int), v5 = .int .i64 x5_8 ∧ zA (stanzaref01_One.j2 kq l0 a1 x5_8 = some (r1, r2, r3)) ∧ zA (kq ≤ kj2) ∧ zA (wc.heap[gb183]? = some (.cells #[.int .i32 0, .int .i64 0, .int .i64 0] 50 (0, 0))) ∧ zA (Below w.heap.size w wc))
  case first =>
   have H := HC9.out; clear HC9; have H' := zA.mk H
   clear H; go_wp2
   go_loopg [5] kj2 (fun kq v5 w' => ∃ (x5_2 : Int), v5 = .int .i64 x5_2 ∧ zA (stanzaref01_One.l0 kq l0 a1 x5_2 = some (r1, r2, r3)) ∧ zA (kq ≤ kj2) ∧ zA (w'.heap[gb183]? = some (.cells #[.int .i32 0, .int .i64 0, .int .i64 0] 50 (0, 0))) ∧ zA (Below w.heap.size w w'))
   case atStart => exact ⟨(0), aZ, H', ⟨Nat.le_refl _⟩, ⟨aB BK183⟩, ⟨aL HB⟩⟩
   clear H'; obtain ⟨x5_2, rfl, HA, HK2, BK183, HB⟩ := hrel; cases gk with
   | zero => exact absurd HA.out (by simp [stanzaref01_One.l0])
   | succ k2 =>
    have H := HA.out; clear HA; simp only [stanzaref01_One.l0] at H; by_cases c10 : x5_2 < 4
    rotate_left
    ·rw [if_neg c10] at H
     have c10b0 : decide (x5_2 < 4) = false := decide_eq_false c10
     clear c10; (first | rw [c10b0] | (simp only [i64_w, i32_w]; rw [c10b0]) | skip)
     have H' := zA.mk H
     clear H; go_wp2
     go_meet
     case rel => exact ⟨_, (x5_2), aZ, H', ⟨by have := HJ2.out; have := HK2.out; first | omega | exact Nat.le_refl _⟩, ⟨aB BK183⟩, ⟨aL HB⟩⟩
    rw [if_pos c10] at H; have c10b0 : decide (x5_2 < 4) = true := decide_eq_true c10
    clear c10; (first | rw [c10b0] | (simp only [i64_w, i32_w]; rw [c10b0]) | skip)
    by_cases c11 : x5_2 < (wrap64 ((l0.length : Int) - a1))
    rotate_left
    ·rw [if_neg c11] at H
     have c11b0 : decide (x5_2 < (wrap64 ((l0.length : Int) - a1))) = false := decide_eq_false c11
     clear c11; have H' := zA.mk H
     clear H; go_wp2
     go_meet
     case rel => exact ⟨_, (x5_2), aZ, H', ⟨by have := HJ2.out; have := HK2.out; first | omega | exact Nat.le_refl _⟩, ⟨aB BK183⟩, ⟨aL HB⟩⟩
    rw [if_pos c11] at H; have c11b0 : decide (x5_2 < (wrap64 ((l0.length : Int) - a1))) = true := decide_eq_true c11
    clear c11; by_cases c12 : 0 ≤ a1
    rotate_left
    ·rw [if_neg c12] at H
     exact absurd H (by simp)
    rw [if_pos c12] at H; have c12b0 := eq_true c12; have c12b1 : decide (0 ≤ a1) = true := decide_eq_true c12
    clear c12; by_cases c13 : a1 ≤ (wrap64 ((wrap64 (a1 + x5_2)) + 1))
    rotate_left
    ·rw [if_neg c13] at H
     exact absurd H (by simp)
    rw [if_pos c13] at H; have c13b0 := eq_true c13; have c13b1 : decide (a1 ≤ (wrap64 ((wrap64 (a1 + x5_2)) + 1))) = true := decide_eq_true c13
    by_cases c14 : (wrap64 ((wrap64 (a1 + x5_2)) + 1)) ≤ (l0.length : Int)
    rotate_left
    ·rw [if_neg c14] at H
     exact absurd H (by simp)
    rw [if_pos c14] at H; have c14b0 := eq_true c14; have c14b1 : decide ((wrap64 ((wrap64 (a1 + x5_2)) + 1)) ≤ (l0.length : Int)) = true := decide_eq_true c14
    replace H := Option.bind_eq_some_iff.mp H; obtain ⟨t185, A150, H⟩ := H; replace H : (if t185 = true then (stanzaref01_One.l0 k2 l0 a1 (wrap64 (x5_2 + 1))) else (stanzaref01_One.j2 k2 l0 a1 x5_2)) = some (r1, r2, r3) := H; have A15 := zA.mk A150; clear A150; by_cases c16 : t185 = true
    ·subst c16
     have H1 : (stanzaref01_One.l0 k2 l0 a1 (wrap64 (x5_2 + 1))) = some (r1, r2, r3) := by rw [if_pos rfl] at H; exact H
     clear H; have H := H1; clear H1; have H' := zA.mk H
     clear H; obtain ⟨i017, hi017, _, hsz17, _⟩ := info_parts info5; obtain ⟨A17, hcut17, hA17, hC17⟩ := print_mid_of (P := Try.prog) (Value.int .u8) 0 22 5 .i64 .i64 Try.underlying22 hi017 hsz17 A0 c0 l0 a1 (wrap64 ((wrap64 (a1 + x5_2)) + 1)) (aD) (by first | omega | exact aD) (aD) HC0.out
     have HR184 := zA.mk (Kd.C_of_reads (h1 := fun _ => rfl) (hA17 _ (Kd.reads_of_C HR0.out)))
     have HC184 := zA.mk hC17; clear hA17 hC17 hi017 hsz17; go_wp2_with (first | (go_at_call 38; refine calls_of_args (args' := #[.slice A17 ((l0.take ((wrap64 ((wrap64 (a1 + x5_2)) + 1)) : Int).toNat).drop (a1 : Int).toNat).length (c0 - a1.toNat)]) (by first | (rw [show ((l0.take ((wrap64 ((wrap64 (a1 + x5_2)) + 1)) : Int).toNat).drop (a1 : Int).toNat).length = ((wrap64 ((wrap64 (a1 + x5_2)) + 1)).toNat - a1.toNat) from (by rw [List.length_drop, List.length_take]; have h_ : ((wrap64 ((wrap64 (a1 + x5_2)) + 1)) : Int) ≤ (l0.length : Int) := aD; omega)] <;> rfl) | rfl) ?_; (with_reducible refine (stanzaref01_Begins.calls k2 _ _ ((l0.take ((wrap64 ((wrap64 (a1 + x5_2)) + 1)) : Int).toNat).drop (a1 : Int).toNat) true _ ?side1 ?side2 A15.out).mono ?_); (case side1 => exact aA HR184 HB); (case side2 => exact HC184.out); rintro e w' ⟨rfl, ⟨nd, rfl⟩⟩))
     go_roundg k2
     case measure => have := HJ2.out; have := HK2.out; omega
     case rel => exact ⟨(wrap64 (x5_2 + 1)), aZ, H', ⟨by have := HJ2.out; have := HK2.out; omega⟩, ⟨aB BK183⟩, ⟨aL HB⟩⟩
    replace c16 := Bool.eq_false_iff.mpr c16; subst c16; have H1 : (stanzaref01_One.j2 k2 l0 a1 x5_2) = some (r1, r2, r3) := by rw [if_neg (show ¬ (false = true) by decide)] at H; exact H
    clear H; have H := H1; clear H1; have H' := zA.mk H
    clear H; obtain ⟨i018, hi018, _, hsz18, _⟩ := info_parts info5; obtain ⟨A18, hcut18, hA18, hC18⟩ := print_mid_of (P := Try.prog) (Value.int .u8) 0 22 5 .i64 .i64 Try.underlying22 hi018 hsz18 A0 c0 l0 a1 (wrap64 ((wrap64 (a1 + x5_2)) + 1)) (aD) (by first | omega | exact aD) (aD) HC0.out
    have HR184 := zA.mk (Kd.C_of_reads (h1 := fun _ => rfl) (hA18 _ (Kd.reads_of_C HR0.out)))
    have HC184 := zA.mk hC18; clear hA18 hC18 hi018 hsz18; go_wp2_with (first | (go_at_call 38; refine calls_of_args (args' := #[.slice A18 ((l0.take ((wrap64 ((wrap64 (a1 + x5_2)) + 1)) : Int).toNat).drop (a1 : Int).toNat).length (c0 - a1.toNat)]) (by first | (rw [show ((l0.take ((wrap64 ((wrap64 (a1 + x5_2)) + 1)) : Int).toNat).drop (a1 : Int).toNat).length = ((wrap64 ((wrap64 (a1 + x5_2)) + 1)).toNat - a1.toNat) from (by rw [List.length_drop, List.length_take]; have h_ : ((wrap64 ((wrap64 (a1 + x5_2)) + 1)) : Int) ≤ (l0.length : Int) := aD; omega)] <;> rfl) | rfl) ?_; (with_reducible refine (stanzaref01_Begins.calls k2 _ _ ((l0.take ((wrap64 ((wrap64 (a1 + x5_2)) + 1)) : Int).toNat).drop (a1 : Int).toNat) false _ ?side1 ?side2 A15.out).mono ?_); (case side1 => exact aA HR184 HB); (case side2 => exact HC184.out); rintro e w' ⟨rfl, ⟨nd, rfl⟩⟩))
    go_meet
    case rel => exact ⟨_, (x5_2), aZ, H', ⟨by have := HJ2.out; have := HK2.out; first | omega | exact Nat.le_refl _⟩, ⟨aB BK183⟩, ⟨aL HB⟩⟩
  clear HC9; obtain ⟨kq, x5_8, rfl, HA, HJ8, BK183, HB⟩ := hcut; cases kq with
  | zero => exact absurd HA.out (by simp [stanzaref01_One.j2])
  | succ kj8 =>
   have H := HA.out; clear HA; simp only [stanzaref01_One.j2] at H; by_cases c19 : x5_8 = 0
   ·rw [if_pos c19] at H
    have c19b0 : (x5_8 == 0) = true := beq_iff_eq.mpr c19
    have c19b1 : (x5_8 != 0) = false := bne_eq_false_iff_eq.mpr c19
    clear c19; simp only [Option.some.injEq, Prod.mk.injEq] at H; obtain ⟨rfl, rfl, rfl⟩ := H; obtain ⟨hcz20_0, hcz20_1, hcz20_2, hfz20_0, hfz20_1, hfz20_2⟩ := aC3 BK183; go_wp2_with (first | ((with_reducible refine gate_store (t := 50) (p := 4) rfl ?_); refine store_event (t := 50) (p := 4) (v := ?vo_w21) (w1 := (((wc.setCell ⟨gb183, 0, none⟩ (.int .i32 65533)).setCell ⟨gb183, 1, none⟩ (.int .i64 a1)).setCell ⟨gb183, 2, none⟩ (.int .i64 1))) ?hg ?ho ?hn ?hr ?_; (case ho => rfl); (case hg => rfl); (case hn => rfl); (case hr => first | (go_simp; done) | (go_simp; rfl)); intro w21 hw; have n0_ : zA (w21.heap[gb183]? = some (.cells #[.int .i32 65533, .int .i64 a1, .int .i64 1] 50 (0, 0))) := ⟨(by rw [hw]; exact (by (with_reducible repeat (first | refine blk_drewN ?_ _ | refine blk_drew ?_ | refine blk_alloc ?_ _)); refine blk_put (cs := #[.int .i32 65533, .int .i64 a1, .int .i64 0]) ?_ 2 _ rfl; (with_reducible repeat (first | refine blk_drewN ?_ _ | refine blk_drew ?_ | refine blk_alloc ?_ _)); refine blk_put (cs := #[.int .i32 65533, .int .i64 0, .int .i64 0]) ?_ 1 _ rfl; (with_reducible repeat (first | refine blk_drewN ?_ _ | refine blk_drew ?_ | refine blk_alloc ?_ _)); refine blk_put (cs := #[.int .i32 0, .int .i64 0, .int .i64 0]) ?_ 0 _ rfl; (with_reducible repeat (first | refine blk_drewN ?_ _ | refine blk_drew ?_ | refine blk_alloc ?_ _)); exact BK183.out))⟩; have n1_ : zA (Below w.heap.size w w21) := ⟨(by rw [hw]; exact (aL HB))⟩; clear hw; clear BK183; clear HB; have BK183 := n0_; have HB := n1_; clear n0_ n1_))
    refine bodyPost_ret (results_cell_row rfl _ _ gb183 50 #[.int .i32 65533, .int .i64 a1, .int .i64 1] (0, 0) _ rfl (aB BK183) Try.underlying50 rfl (by kernel_rfl)) rfl ?_
    exact ⟨aX, aL HB⟩
   rw [if_neg c19] at H; have c19b0 : (x5_8 == 0) = false := beq_eq_false_iff_ne.mpr c19
   have c19b1 : (x5_8 != 0) = true := bne_iff_ne.mpr c19
   by_cases c22 : 0 ≤ a1
   rotate_left
   ·rw [if_neg c22] at H
    exact absurd H (by simp)
   rw [if_pos c22] at H; have c22b0 : decide (0 ≤ a1) = true := decide_eq_true c22
   clear c22; by_cases c23 : a1 < (l0.length : Int)
   rotate_left
   ·rw [if_neg c23] at H
    exact absurd H (by simp)
   rw [if_pos c23] at H; have c23b0 : decide (a1 < (l0.length : Int)) = true := decide_eq_true c23
   clear c23; replace H := Option.bind_eq_some_iff.mp H; obtain ⟨t187, A240, H⟩ := H; replace H : (if x5_8 < t187 then (some (65533, a1, x5_8)) else ((some (([0, 127, 31, 15, 7] : List Int) : List Int)).bind fun y189 => (if 0 ≤ x5_8 then (if x5_8 < (y189.length : Int) then (stanzaref01_One.l1 kj8 l0 a1 x5_8 (Go.bits .and .i32 (wrap32 (rd l0 a1)) (rd y189 x5_8)) 1) else (none)) else (none)))) = some (r1, r2, r3) := H
   have A24 := zA.mk A240; clear A240; by_cases c25 : x5_8 < t187
   ·rw [if_pos c25] at H
    have c25b0 : decide (x5_8 < t187) = true := decide_eq_true c25
    clear c25; simp only [Option.some.injEq, Prod.mk.injEq] at H; obtain ⟨rfl, rfl, rfl⟩ := H; have p186 : 0 ≤ (a1 : Int) := aD
    have q186 : a1 < (l0.length : Int) := aD
    obtain ⟨ad186, e186, hx186_0⟩ := Kd.at_int HR0.out a1 p186 q186; cases e186
    replace hx186_0 := (HB.out.cell (World.block_lt_of_cell? w _ hx186_0)).trans hx186_0; replace p186 := eq_true p186; replace q186 := eq_true q186; go_wp2_with (first | ((with_reducible refine gate_callee (f := 39) rfl ?_); refine goesL_ (some 49) rfl rfl Try.func39 (by kernel_rfl) rfl #[.int .u8 (rd l0 a1)] rfl aT ?_; (with_reducible refine (stanzaref01_length.calls kj8 (rd l0 a1) t187 _ A24.out).mono ?_); rintro e w' ⟨rfl, ⟨nd, rfl⟩⟩; refine ⟨_, rfl, ?_⟩; (try (rw [drewN_self wc]; generalize hq_ : World.drewN wc _ = wc; have n0_ : zA (wc.heap[gb183]? = some (.cells #[.int .i32 0, .int .i64 0, .int .i64 0] 50 (0, 0))) := ⟨by rw [← hq_]; exact (aB BK183)⟩; have n1_ : zA (Below w.heap.size w wc) := ⟨by rw [← hq_]; exact (aL HB)⟩; clear BK183 HB hq_; have BK183 := n0_; have HB := n1_; clear n0_ n1_)); obtain ⟨hcz26_0, hcz26_1, hcz26_2, hfz26_0, hfz26_1, hfz26_2⟩ := aC3 BK183) | ((with_reducible refine gate_store (t := 50) (p := 4) rfl ?_); refine store_event (t := 50) (p := 4) (v := ?vo_w27) (w1 := (((wc.setCell ⟨gb183, 0, none⟩ (.int .i32 65533)).setCell ⟨gb183, 1, none⟩ (.int .i64 a1)).setCell ⟨gb183, 2, none⟩ (.int .i64 x5_8))) ?hg ?ho ?hn ?hr ?_; (case ho => rfl); (case hg => rfl); (case hn => rfl); (case hr => first | (go_simp; done) | (go_simp; rfl)); intro w27 hw; have n0_ : zA (w27.heap[gb183]? = some (.cells #[.int .i32 65533, .int .i64 a1, .int .i64 x5_8] 50 (0, 0))) := ⟨(by rw [hw]; exact (by (with_reducible repeat (first | refine blk_drewN ?_ _ | refine blk_drew ?_ | refine blk_alloc ?_ _)); refine blk_put (cs := #[.int .i32 65533, .int .i64 a1, .int .i64 0]) ?_ 2 _ rfl; (with_reducible repeat (first | refine blk_drewN ?_ _ | refine blk_drew ?_ | refine blk_alloc ?_ _)); refine blk_put (cs := #[.int .i32 65533, .int .i64 0, .int .i64 0]) ?_ 1 _ rfl; (with_reducible repeat (first | refine blk_drewN ?_ _ | refine blk_drew ?_ | refine blk_alloc ?_ _)); refine blk_put (cs := #[.int .i32 0, .int .i64 0, .int .i64 0]) ?_ 0 _ rfl; (with_reducible repeat (first | refine blk_drewN ?_ _ | refine blk_drew ?_ | refine blk_alloc ?_ _)); exact BK183.out))⟩; have n1_ : zA (Below w.heap.size w w27) := ⟨(by rw [hw]; exact (aL HB))⟩; clear hw; clear BK183; clear HB; have BK183 := n0_; have HB := n1_; clear n0_ n1_))
    refine bodyPost_ret (results_cell_row rfl _ _ gb183 50 #[.int .i32 65533, .int .i64 a1, .int .i64 x5_8] (0, 0) _ rfl (aB BK183) Try.underlying50 rfl (by kernel_rfl)) rfl ?_
    exact ⟨aX, aL HB⟩
   rw [if_neg c25] at H; have c25b0 : decide (x5_8 < t187) = false := decide_eq_false c25
   clear c25; obtain ⟨y189, hy189⟩ : ∃ y_ : List Int, y_ = (([0, 127, 31, 15, 7] : List Int)) := ⟨_, rfl⟩; replace H : (if 0 ≤ x5_8 then (if x5_8 < (y189.length : Int) then (stanzaref01_One.l1 kj8 l0 a1 x5_8 (Go.bits .and .i32 (wrap32 (rd l0 a1)) (rd y189 x5_8)) 1) else (none)) else (none)) = some (r1, r2, r3) := by first | (rw [hy189]; with_reducible exact H) | (have H2_ := (Option.bind_some _ _).symm.trans H; rw [hy189]; with_reducible exact H2_) | (have H2_ := (Option.bind_some _ _).symm.trans H; with_reducible exact H2_) | with_reducible exact H | (rw [hy189]; exact H) | exact H
   have Ny189 := zA.mk hy189; clear hy189; by_cases c28 : 0 ≤ x5_8
   rotate_left
   ·rw [if_neg c28] at H
    exact absurd H (by simp)
   rw [if_pos c28] at H; have c28b0 : decide (0 ≤ x5_8) = true := decide_eq_true c28
   clear c28; by_cases c29 : x5_8 < (y189.length : Int)
   rotate_left
   ·rw [if_neg c29] at H
    exact absurd H (by simp)
   rw [if_pos c29] at H; have c29b0 : decide (x5_8 < (y189.length : Int)) = true := decide_eq_true c29
   clear c29; have H' := zA.mk H
   clear H; have p186 : 0 ≤ (a1 : Int) := aD
   have q186 : a1 < (l0.length : Int) := aD
   obtain ⟨ad186, e186, hx186_0⟩ := Kd.at_int HR0.out a1 p186 q186; cases e186
   replace hx186_0 := (HB.out.cell (World.block_lt_of_cell? w _ hx186_0)).trans hx186_0; replace p186 := eq_true p186; replace q186 := eq_true q186; go_wp2_with (first | ((with_reducible refine gate_callee (f := 39) rfl ?_); refine goesL_ (some 49) rfl rfl Try.func39 (by kernel_rfl) rfl #[.int .u8 (rd l0 a1)] rfl aT ?_; (with_reducible refine (stanzaref01_length.calls kj8 (rd l0 a1) t187 _ A24.out).mono ?_); rintro e w' ⟨rfl, ⟨nd, rfl⟩⟩; refine ⟨_, rfl, ?_⟩; have p188 : 0 ≤ (a1 : Int) := aD; have q188 : a1 < (l0.length : Int) := aD; obtain ⟨ad188, e188, hx188_0⟩ := Kd.at_int HR0.out a1 p188 q188; obtain rfl : ad186 = ad188 := (by injection e188); replace hx188_0 := (HB.out.cell (World.block_lt_of_cell? w _ hx188_0)).trans hx188_0; replace p188 := eq_true p188; replace q188 := eq_true q188) | ((with_reducible refine gate_dst (N := 59) rfl ?_); (try (refine gate_guard (by rfl) ?_; dsimp only)); refine Kd.R_lit (Kd.int .i32) _ 21 ?hg (N := 59) ?hd (xs := ([0, 127, 31, 15, 7] : List Int)) (inner := [.int .i32 0, .int .i32 127, .int .i32 31, .int .i32 15, .int .i32 7]) (ok := fun _ => True) (okp := fun _ => True) ?hr ?hp (fun _ hk => hk) trivial (Below.refl _ _) (Nat.le_refl _) (by simp) ?_; (case hd => rfl); (case hg => rfl); (case hr => first | (go_simp; done) | (go_simp; rfl)); (case hp => exact (Reps.one (show Kd.M (Kd.int .i32) _ _ _ 0 [.int .i32 0] from rfl) (Reps.one (show Kd.M (Kd.int .i32) _ _ _ 127 [.int .i32 127] from rfl) (Reps.one (show Kd.M (Kd.int .i32) _ _ _ 31 [.int .i32 31] from rfl) (Reps.one (show Kd.M (Kd.int .i32) _ _ _ 15 [.int .i32 15] from rfl) (Reps.one (show Kd.M (Kd.int .i32) _ _ _ 7 [.int .i32 7] from rfl) (Reps.none _ _))))))); intro v190 w30 ho31 hb hg_ hnew_; clear hg_ hnew_; (first | rw [← Ny189.out] at ho31 | (simp only [Int.reduceToNat] at ho31; rw [← Ny189.out] at ho31)); have HO191 := zA.mk (Kd.zM ho31 (below_size (aL HB))); replace BK183 := zA.mk (blk_below (aB BK183) hb); replace HB := zA.mk (below_step (aL HB) hb); clear hb ho31; obtain ⟨Ao32, co32, eo32⟩ := Kd.zL HO191.out; subst eo32; have p192 : 0 ≤ (x5_8 : Int) := aD; have q192 : x5_8 < (y189.length : Int) := aD; obtain ⟨ad192, e192, hx192_0⟩ := Kd.at_int (Kd.zI HO191.out).2.2 x5_8 p192 q192; cases e192; replace p192 := eq_true p192; replace q192 := eq_true q192))
   go_loopg [6, 8] kj8 (fun kq v6 v8 w' => ∃ (x6_3 : Int) (x8_3 : Int), v6 = .int .i32 x6_3 ∧ v8 = .int .i64 x8_3 ∧ zA (stanzaref01_One.l1 kq l0 a1 x5_8 x6_3 x8_3 = some (r1, r2, r3)) ∧ zA (kq ≤ kj8) ∧ zA (w'.heap[gb183]? = some (.cells #[.int .i32 0, .int .i64 0, .int .i64 0] 50 (0, 0))) ∧ zA (Below w.heap.size w w'))
   case atStart => exact ⟨(Go.bits .and .i32 (wrap32 (rd l0 a1)) (rd y189 x5_8)), (1), aZ, aZ, H', ⟨Nat.le_refl _⟩, ⟨aB BK183⟩, ⟨aL HB⟩⟩
   clear H'; obtain ⟨x6_3, x8_3, rfl, rfl, HA, HK3, BK183, HB⟩ := hrel; cases gk with
   | zero => exact absurd HA.out (by simp [stanzaref01_One.l1])
   | succ k3 =>
    have H := HA.out; clear HA; simp only [stanzaref01_One.l1] at H; by_cases c33 : x8_3 < x5_8
    ·rw [if_pos c33] at H
     have c33b0 : decide (x8_3 < x5_8) = true := decide_eq_true c33
     clear c33; obtain ⟨ji34, hji34⟩ : ∃ j_ : Int, (wrap64 (a1 + x8_3)) = j_ := ⟨_, rfl⟩; replace H : (if 0 ≤ (ji34) then (if (ji34) < (l0.length : Int) then (stanzaref01_One.l1 k3 l0 a1 x5_8 (wrap32 ((wrap32 ((wrap32 (x6_3 * 64)) + (wrap32 (rd l0 (ji34))))) - 128)) (wrap64 (x8_3 + 1))) else (none)) else (none)) = some (r1, r2, r3) := by first | (rw [hji34] at H; exact H) | (simp only [hji34] at H ⊢; exact H)
     have hji34w : (IntKind.i64.wrap (a1 + x8_3)) = ji34 := (i64_w _).trans hji34
     by_cases c35 : 0 ≤ (ji34)
     rotate_left
     ·rw [if_neg c35] at H
      exact absurd H (by simp)
     rw [if_pos c35] at H; have c35b0 : decide (0 ≤ (ji34)) = true := decide_eq_true c35
     clear c35; by_cases c36 : (ji34) < (l0.length : Int)
     rotate_left
     ·rw [if_neg c36] at H
      exact absurd H (by simp)
     rw [if_pos c36] at H; have c36b0 : decide ((ji34) < (l0.length : Int)) = true := decide_eq_true c36
     clear c36; have H' := zA.mk H
     clear H; have p193 : 0 ≤ ((ji34) : Int) := aD
     have q193 : (ji34) < (l0.length : Int) := aD
     obtain ⟨ad193, e193, hx193_0⟩ := Kd.at_int HR0.out (ji34) p193 q193; obtain rfl : ad186 = ad193 := (by injection e193)
     replace hx193_0 := (HB.out.cell (World.block_lt_of_cell? w _ hx193_0)).trans hx193_0; replace p193 := eq_true p193; replace q193 := eq_true q193; go_wp2
     go_roundg k3
     case measure => have := HJ2.out; have := HJ8.out; have := HK3.out; omega
     case rel => exact ⟨(wrap32 ((wrap32 ((wrap32 (x6_3 * 64)) + (wrap32 (rd l0 (ji34))))) - 128)), (wrap64 (x8_3 + 1)), (by first | rfl | (simp; done) | (simp only [← hji34] <;> (first | rfl | simp)) | (simp [*]; done)), aZ, H', ⟨by have := HJ2.out; have := HJ8.out; have := HK3.out; omega⟩, ⟨aB BK183⟩, ⟨aL HB⟩⟩
    rw [if_neg c33] at H; have c33b0 : decide (x8_3 < x5_8) = false := decide_eq_false c33
    clear c33; simp only [Option.some.injEq, Prod.mk.injEq] at H; obtain ⟨rfl, rfl, rfl⟩ := H; obtain ⟨hcz37_0, hcz37_1, hcz37_2, hfz37_0, hfz37_1, hfz37_2⟩ := aC3 BK183; go_wp2_with (first | ((with_reducible refine gate_store (t := 50) (p := 4) rfl ?_); refine store_event (t := 50) (p := 4) (v := ?vo_w38) (w1 := (((wr.setCell ⟨gb183, 0, none⟩ (.int .i32 x6_3)).setCell ⟨gb183, 1, none⟩ (.int .i64 a1)).setCell ⟨gb183, 2, none⟩ (.int .i64 x5_8))) ?hg ?ho ?hn ?hr ?_; (case ho => rfl); (case hg => rfl); (case hn => rfl); (case hr => first | (go_simp; done) | (go_simp; rfl)); intro w38 hw; have n0_ : zA (w38.heap[gb183]? = some (.cells #[.int .i32 x6_3, .int .i64 a1, .int .i64 x5_8] 50 (0, 0))) := ⟨(by rw [hw]; exact (by (with_reducible repeat (first | refine blk_drewN ?_ _ | refine blk_drew ?_ | refine blk_alloc ?_ _)); refine blk_put (cs := #[.int .i32 x6_3, .int .i64 a1, .int .i64 0]) ?_ 2 _ rfl; (with_reducible repeat (first | refine blk_drewN ?_ _ | refine blk_drew ?_ | refine blk_alloc ?_ _)); refine blk_put (cs := #[.int .i32 x6_3, .int .i64 0, .int .i64 0]) ?_ 1 _ rfl; (with_reducible repeat (first | refine blk_drewN ?_ _ | refine blk_drew ?_ | refine blk_alloc ?_ _)); refine blk_put (cs := #[.int .i32 0, .int .i64 0, .int .i64 0]) ?_ 0 _ rfl; (with_reducible repeat (first | refine blk_drewN ?_ _ | refine blk_drew ?_ | refine blk_alloc ?_ _)); exact BK183.out))⟩; have n1_ : zA (Below w.heap.size w w38) := ⟨(by rw [hw]; exact (aL HB))⟩; clear hw; clear BK183; clear HB; have BK183 := n0_; have HB := n1_; clear n0_ n1_))
    refine bodyPost_ret (results_cell_row rfl _ _ gb183 50 #[.int .i32 x6_3, .int .i64 a1, .int .i64 x5_8] (0, 0) _ rfl (aB BK183) Try.underlying50 rfl (by kernel_rfl)) rfl ?_
    exact ⟨aX, aL HB⟩
def stanzaref01_All.l0 : Nat → List Int → List (S50) → Int → Option ((List (S50)))
 | 0, _, _, _ => none
 | k + 1, x0, x3, x4 => if x4 < (x0.length : Int) then ((stanzaref01_One.f k x0 x4).bind fun bt194 => (if x3.length < 5864062014805 then (stanzaref01_All.l0 k x0 (x3 ++ [(⟨bt194.1, bt194.2.1, bt194.2.2⟩ : S50)]) (wrap64 (x4 + bt194.2.2))) else (none))) else (some x3)
def stanzaref01_All.f (k : Nat) (l0 : List Int) : Option ((List (S50))) := stanzaref01_All.l0 k l0 ([] : List (S50)) 0
theorem stanzaref01_All.mono_l : ∀ k, (∀ y0 y1 y2, LeO (stanzaref01_All.l0 k y0 y1 y2) (stanzaref01_All.l0 (k + 1) y0 y1 y2))
 | 0 => fun _ _ _ r h => by simp [stanzaref01_All.l0] at h
 | k + 1 => by
  have ih0 := stanzaref01_All.mono_l k
  ·intro y0 y1 y2
   unfold stanzaref01_All.l0
   repeat' (with_reducible first | exact ih0 _ _ _ | exact stanzaref01_One.mono _ _ _ | exact LeO.refl _ | exact LeO.none _ | refine LeO.ite ?_ ?_ | refine LeO.bind ?_ (fun _ => ?_))
theorem stanzaref01_All.mono : ∀ a0 k, LeO (stanzaref01_All.f k a0) (stanzaref01_All.f (k + 1) a0) := by
 intro a0 k
 have ih0 := stanzaref01_All.mono_l k; unfold stanzaref01_All.f
 repeat' (with_reducible first | exact ih0 _ _ _ | exact stanzaref01_One.mono _ _ _ | exact LeO.refl _ | exact LeO.none _ | refine LeO.ite ?_ ?_ | refine LeO.bind ?_ (fun _ => ?_))
set_option maxHeartbeats 8000000 in
set_option maxRecDepth 100000 in
theorem stanzaref01_All.calls (k : Nat) (A0 : Option Addr) (c0 : Nat) (l0 : List Int) (r : List (S50)) (w : World) (hr0 : Kd.C (Kd.int .u8) w A0 l0.length l0) (hc0 : l0.length ≤ c0) (h : stanzaref01_All.f k l0 = some r) :
  Calls Try.prog 16 #[.slice A0 l0.length c0] w fun e w' => ∃ v0_ : Value, e = .returned (v0_) ∧ Kd.R k50 50 w' w.heap.size (fun _ => True) v0_ r ∧ Below w.heap.size w w' := by
 have hu50 := Try.underlying50; have HR0 := zA.mk hr0; have HC0 := zA.mk hc0; clear hr0 hc0; have HB := zA.mk (Below.refl w.heap.size w); have H : (stanzaref01_All.l0 k l0 ([] : List (S50)) 0) = some r := h
 clear h; have H' := zA.mk H
 clear H; go_enter Try.func16, Try.ntmps16
 go_wp2
 go_loopg [3, 4] k (fun kq v3 v4 w' => ∃ (x3_1 : List (S50)) (x4_1 : Int), v4 = .int .i64 x4_1 ∧ zA (stanzaref01_All.l0 kq l0 x3_1 x4_1 = some r) ∧ zA (kq ≤ k) ∧ zA (Kd.R k50 50 w' w.heap.size (fun _ => True) v3 x3_1) ∧ zA (Below w.heap.size w w'))
 case atStart => exact ⟨(([] : List (S50))), (0), aZ, H', ⟨Nat.le_refl _⟩, ⟨by first | exact Kd.R_nil _ _ _ _ _ | exact Kd.N_nil _ _ _ _ _ | exact Kd.V_nil _ _ _ _ _ | exact Kd.Q_nil _ _ _ _ _ | exact Kd.S_nil _ _ _ _ _⟩, ⟨aL HB⟩⟩
 clear H'; obtain ⟨x3_1, x4_1, rfl, HA, HK1, HO_3, HB⟩ := hrel; cases gk with
 | zero => exact absurd HA.out (by simp [stanzaref01_All.l0])
 | succ k1 =>
  have H := HA.out; clear HA; simp only [stanzaref01_All.l0] at H; by_cases c2 : x4_1 < (l0.length : Int)
  rotate_left
  ·rw [if_neg c2] at H
   have c2b0 : decide (x4_1 < (l0.length : Int)) = false := decide_eq_false c2
   clear c2; obtain rfl := Option.some.inj H
   go_wp2
   go_ret
   exact ⟨_, aX, aR HO_3, aL HB⟩
  rw [if_pos c2] at H; have c2b0 : decide (x4_1 < (l0.length : Int)) = true := decide_eq_true c2
  clear c2; replace H := Option.bind_eq_some_iff.mp H; obtain ⟨⟨t194, t195, t196⟩, A30, H⟩ := H; replace H : (if x3_1.length < 5864062014805 then (stanzaref01_All.l0 k1 l0 (x3_1 ++ [(⟨t194, t195, t196⟩ : S50)]) (wrap64 (x4_1 + t196))) else (none)) = some r := H; have A3 := zA.mk A30; clear A30; by_cases c4 : x3_1.length < 5864062014805
  rotate_left
  ·rw [if_neg c4] at H
   exact absurd H (by simp)
  rw [if_pos c4] at H; have LMc4 := zA.mk c4; clear c4; obtain ⟨y198, hy198⟩ : ∃ y_ : List (S50), y_ = (x3_1 ++ [(⟨t194, t195, t196⟩ : S50)]) := ⟨_, rfl⟩; replace H : (stanzaref01_All.l0 k1 l0 y198 (wrap64 (x4_1 + t196))) = some r := by first | (rw [hy198]; with_reducible exact H) | (have H2_ := (Option.bind_some _ _).symm.trans H; rw [hy198]; with_reducible exact H2_) | (have H2_ := (Option.bind_some _ _).symm.trans H; with_reducible exact H2_) | with_reducible exact H | (rw [hy198]; exact H) | exact H
  have Ny198 := zA.mk hy198; clear hy198; have H' := zA.mk H
  clear H; go_wp2_with (first | ((with_reducible refine gate_callee (f := 35) rfl ?_); refine goesL_ (some 12) rfl rfl Try.func35 (by kernel_rfl) rfl #[.slice A0 l0.length c0, .int .i64 x4_1] rfl aT ?_; (with_reducible refine (stanzaref01_One.calls k1 _ _ l0 x4_1 t194 t195 t196 _ ?side1 ?side2 A3.out).mono ?_); (case side1 => exact aA HR0 HB); (case side2 => exact HC0.out); rintro e w5 ⟨rfl, hb⟩; refine ⟨_, rfl, ?_⟩; replace HO_3 := zA.mk (Kd.zJ (aR HO_3) hb); replace HB := zA.mk (below_step (aL HB) hb); (try clear hb); (try clear hb2); (try clear hk); (try clear hi)) | ((with_reducible refine gate_dst (N := 5) rfl ?_); refine box_event ?hg (N := 5) ?hd (cs := #[.int .i32 0, .int .i64 0, .int .i64 0]) (t := 50) ?hr ?_; (case hd => rfl); (case hg => rfl); (case hr => first | (go_simp; done) | (go_simp; rfl)); intro gb197 hg w6 hbox hb; replace HO_3 := zA.mk (Kd.zJ (Kd.R_elderB (aR HO_3) gb197 (Nat.le_of_eq hg.symm)) hb); have BK197 := zA.mk (hbox); have GW197 := zA.mk ((by rw [hg]; exact (below_size (aL HB)) : w.heap.size ≤ gb197)); replace HB := zA.mk (below_step (aL HB) hb); have GE197 := GW197; clear hb hbox hg; obtain ⟨hcz7_0, hcz7_1, hcz7_2, hfz7_0, hfz7_1, hfz7_2⟩ := aC3 BK197) | ((with_reducible refine gate_store (t := 50) (p := 5) rfl ?_); refine store_event (t := 50) (p := 5) (v := ?vo_w8) (w1 := (((w6.setCell ⟨gb197, 0, none⟩ (.int .i32 t194)).setCell ⟨gb197, 1, none⟩ (.int .i64 t195)).setCell ⟨gb197, 2, none⟩ (.int .i64 t196))) ?hg ?ho ?hn ?hr ?_; (case ho => rfl); (case hg => rfl); (case hn => rfl); (case hr => first | (go_simp; done) | (go_simp; rfl)); intro w8 hw; have n0_ : zA (Kd.R k50 50 w8 w.heap.size (fun k_ => k_ ≠ gb197) u3 x3_1) := ⟨(by rw [hw]; exact (by (with_reducible repeat (first | apply Kd.zB | apply Kd.zC | apply Kd.zD)); exact Kd.zN (Kd.zK (p := ⟨gb197, 2, none⟩) (Kd.zK (p := ⟨gb197, 1, none⟩) (Kd.zK (p := ⟨gb197, 0, none⟩) (Kd.zN HO_3.out (fun k_ hk => (⟨hk, hk.2⟩ : _ ∧ k_ ≠ gb197))) (fun _ hk => hk.2) (.int .i32 t194)) (fun _ hk => hk.2) (.int .i64 t195)) (fun _ hk => hk.2) (.int .i64 t196)) (fun _ hk => hk.1.2)))⟩; have n1_ : zA (w8.heap[gb197]? = some (.cells #[.int .i32 t194, .int .i64 t195, .int .i64 t196] 50 (0, 0))) := ⟨(by rw [hw]; exact (by (with_reducible repeat (first | refine blk_drewN ?_ _ | refine blk_drew ?_ | refine blk_alloc ?_ _)); refine blk_put (cs := #[.int .i32 t194, .int .i64 t195, .int .i64 0]) ?_ 2 _ rfl; (with_reducible repeat (first | refine blk_drewN ?_ _ | refine blk_drew ?_ | refine blk_alloc ?_ _)); refine blk_put (cs := #[.int .i32 t194, .int .i64 0, .int .i64 0]) ?_ 1 _ rfl; (with_reducible repeat (first | refine blk_drewN ?_ _ | refine blk_drew ?_ | refine blk_alloc ?_ _)); refine blk_put (cs := #[.int .i32 0, .int .i64 0, .int .i64 0]) ?_ 0 _ rfl; (with_reducible repeat (first | refine blk_drewN ?_ _ | refine blk_drew ?_ | refine blk_alloc ?_ _)); exact BK197.out))⟩; have n2_ : zA (Below w.heap.size w w8) := ⟨(by rw [hw]; exact (aL HB))⟩; clear hw; clear HO_3; clear BK197; clear HB; have HO_3 := n0_; have BK197 := n1_; have HB := n2_; clear n0_ n1_ n2_; obtain ⟨hcz9_0, hcz9_1, hcz9_2, hfz9_0, hfz9_1, hfz9_2⟩ := aC3 BK197) | ((with_reducible refine gate_builtin (b := .append) (xs := #[.tmp 13, .tmp 15]) rfl ?_); at_builtin; refine Kd.R_append k50 (w0 := w) w.heap.size rfl (.tmp 13) (.tmp 15) 32 50 (.agg #[(.int .i32 0), (.int .i64 0), (.int .i64 0)]) 24 rfl Try.underlying32 info50 rfl (by decide) (by omega) u3 x3_1 (⟨t194, t195, t196⟩ : S50) [.int .i32 t194, .int .i64 t195, .int .i64 t196] (fun k_ => k_ ≠ gb197) (fun _ => False) rfl rfl ?aP (fun _ hk => hk.elim) ?aF ?aO ?aB ?aS ?aL ?_; (case aP => exact k50_mkM _ _ _ (⟨t194, t195, t196⟩ : S50)); (case aB => exact (aL HB)); (case aF => exact (fun k_ hk => Kd.freshB (g := gb197) (o := .cells #[.int .i32 t194, .int .i64 t195, .int .i64 t196] 50 (0, 0)) (aB BK197) k_ hk)); (case aO => exact (aR HO_3)); (case aS => exact (below_size (aL HB))); (case aL => have := LMc4.out; omega); intro v199 w10 ho hb hg hat; rw [← Ny198.out] at ho; replace BK197 := zA.mk (blk_grown (g := gb197) (o := .cells #[.int .i32 t194, .int .i64 t195, .int .i64 t196] 50 (0, 0)) (aB BK197) hg (Kd.R_away HO_3.out (fun _ hk => hk))); replace HB := zA.mk (hb); have HO200 := zA.mk (ho); clear HO_3; clear ho hb hg hat; obtain ⟨hcz11_0, hcz11_1, hcz11_2, hfz11_0, hfz11_1, hfz11_2⟩ := aC3 BK197))
  go_roundg k1
  case measure => have := HK1.out; omega
  case rel => exact ⟨(y198), (wrap64 (x4_1 + t196)), aZ, H', ⟨by have := HK1.out; omega⟩, ⟨by (with_reducible repeat (first | apply Kd.zB | apply Kd.zC | apply Kd.zD)); exact Kd.zN HO200.out (fun _ hk => trivial)⟩, ⟨aL HB⟩⟩
mutual
def stanzalaw10_CellsAlone.l0 : Nat → List Int → List (S45) → List Int → Int → Int → Option (Bool)
 | 0, _, _, _, _, _ => none
 | k + 1, x0, x5, x25, x26, x27 => if x27 < x26 then (if 0 ≤ x27 then (if x27 < (x25.length : Int) then (if x27 < 200 then (if x5.length < 8796093022208 then (stanzalaw10_CellsAlone.l0 k x0 (x5 ++ [(⟨wrap32 (x27), wrap32 (x27), wrap64 (Int.tmod (rd x25 x27) 3)⟩ : S45)]) x25 x26 (wrap64 (x27 + 1))) else (none)) else (stanzalaw10_CellsAlone.l0 k x0 x5 x25 x26 (wrap64 (x27 + 1)))) else (none)) else (none)) else (if prop_Make.c x5 3 = true then ((prop_MakeY.f x5 3).bind fun t300 => ((h3_Words.f k x0).bind fun t301 => ((stanzaref01_All.f k t301).bind fun t304 => (if 0 ≤ (t304.length : Int) then (if ((t304.length : Int) : Int).toNat ≤ 281474976710656 then ((some (List.replicate ((t304.length : Int) : Int).toNat 0 : List Int)).bind fun y307 => (stanzalaw10_CellsAlone.l1 k t300 t301 t304 y307 (y307.length : Int) 0)) else (none)) else (none))))) else ((prop_MakeN.f x5 3).bind fun _ => (some false)))
def stanzalaw10_CellsAlone.l1 : Nat → Option (List (Int × Int × Int)) → List Int → List (S50) → List Int → Int → Int → Option (Bool)
 | 0, _, _, _, _, _, _ => none
 | k + 1, x8, x10, x11, x12, x61, x62 => if x62 < x61 then (if 0 ≤ x62 then (if x62 < (x12.length : Int) then (stanzalaw10_CellsAlone.l1 k x8 x10 x11 (x12.set (x62 : Int).toNat 1) x61 (wrap64 (x62 + 1))) else (none)) else (none)) else ((cells_Make.f k x11 x12 x8).bind fun bt311 => ((cells_Make.f k x11 ([] : List Int) x8).bind fun bt317 => (if (bt311.1.length : Int) = (x11.length : Int) then (if (bt311.2.length : Int) = (wrap64 ((x11.length : Int) + 1)) then (if (bt317.1.length : Int) = (mn (x11.length : Int) 1) then (stanzalaw10_CellsAlone.j2 k x8 x10 x11 bt311.1 bt311.2 bt317.1 ((bt317.2.length : Int) != (wrap64 ((bt317.1.length : Int) + 1)))) else (stanzalaw10_CellsAlone.j2 k x8 x10 x11 bt311.1 bt311.2 bt317.1 true)) else (stanzalaw10_CellsAlone.j2 k x8 x10 x11 bt311.1 bt311.2 bt317.1 true)) else (stanzalaw10_CellsAlone.j2 k x8 x10 x11 bt311.1 bt311.2 bt317.1 true))))
def stanzalaw10_CellsAlone.j2 : Nat → Option (List (Int × Int × Int)) → List Int → List (S50) → List (S48) → List Int → List (S48) → Bool → Option (Bool)
 | 0, _, _, _, _, _, _, _ => none
 | k + 1, x8, x10, x11, x14, x15, x16, x110 => if x110 = true then (some false) else (stanzalaw10_CellsAlone.l2 k x8 x10 x11 x15 x16 x14 (x14.length : Int) 0)
def stanzalaw10_CellsAlone.l2 : Nat → Option (List (Int × Int × Int)) → List Int → List (S50) → List Int → List (S48) → List (S48) → Int → Int → Option (Bool)
 | 0, _, _, _, _, _, _, _, _ => none
 | k + 1, x8, x10, x11, x15, x16, x111, x112, x113 => if x113 < x112 then (if 0 ≤ x113 then (if x113 < (x111.length : Int) then (if x113 < (x11.length : Int) then (if ((rd_T48 x111 x113).f0) = ((rd_T50 x11 x113).f1) then (if ((rd_T48 x111 x113).f1) = ((rd_T50 x11 x113).f2) then ((prop_Table_Of.f x8 ((rd_T50 x11 x113).f0)).bind fun t328 => (if ((rd_T48 x111 x113).f2) = t328 then (if x113 < (x15.length : Int) then (if (rd x15 x113) = x113 then (stanzalaw10_CellsAlone.l2 k x8 x10 x11 x15 x16 x111 x112 (wrap64 (x113 + 1))) else (some false)) else (none)) else (some false))) else (some false)) else (some false)) else (none)) else (none)) else (none)) else (if (x16.length : Int) = 0 then (some true) else (if 0 < (x16.length : Int) then (if ((rd_T48 x16 0).f1) = (x10.length : Int) then (some (((rd_T48 x16 0).f0) == 0)) else (some false)) else (none)))
end
def stanzalaw10_CellsAlone.f (k : Nat) (l0 : List Int) (l1 : List Int) : Option (Bool) := (stanzalaw10_Awake.f k).bind fun t293 => (if t293 = true then (if (l0.length : Int) > 500 then (some true) else (stanzalaw10_CellsAlone.l0 k l0 ([] : List (S45)) l1 (l1.length : Int) 0)) else (some false))
theorem stanzalaw10_CellsAlone.mono_l : ∀ k, (∀ y0 y1 y2 y3 y4, LeO (stanzalaw10_CellsAlone.l0 k y0 y1 y2 y3 y4) (stanzalaw10_CellsAlone.l0 (k + 1) y0 y1 y2 y3 y4)) ∧ (∀ y0 y1 y2 y3 y4 y5, LeO (stanzalaw10_CellsAlone.l1 k y0 y1 y2 y3 y4 y5) (stanzalaw10_CellsAlone.l1 (k + 1) y0 y1 y2 y3 y4 y5)) ∧ (∀ y0 y1 y2 y3 y4 y5 y6, LeO (stanzalaw10_CellsAlone.j2 k y0 y1 y2 y3 y4 y5 y6) (stanzalaw10_CellsAlone.j2 (k + 1) y0 y1 y2 y3 y4 y5 y6)) ∧ (∀ y0 y1 y2 y3 y4 y5 y6 y7, LeO (stanzalaw10_CellsAlone.l2 k y0 y1 y2 y3 y4 y5 y6 y7) (stanzalaw10_CellsAlone.l2 (k + 1) y0 y1 y2 y3 y4 y5 y6 y7))
 | 0 => ⟨fun _ _ _ _ _ r h => by simp [stanzalaw10_CellsAlone.l0] at h, fun _ _ _ _ _ _ r h => by simp [stanzalaw10_CellsAlone.l1] at h, fun _ _ _ _ _ _ _ r h => by simp [stanzalaw10_CellsAlone.j2] at h, fun _ _ _ _ _ _ _ _ r h => by simp [stanzalaw10_CellsAlone.l2] at h⟩
 | k + 1 => by
  obtain ⟨ih0, ih1, ih2, ih3⟩ := stanzalaw10_CellsAlone.mono_l k; refine ⟨?_, ?_, ?_, ?_⟩
  ·intro y0 y1 y2 y3 y4
   unfold stanzalaw10_CellsAlone.l0
   repeat' (with_reducible first | exact ih0 _ _ _ _ _ | exact ih1 _ _ _ _ _ _ | exact ih2 _ _ _ _ _ _ _ | exact ih3 _ _ _ _ _ _ _ _ | exact cells_Make.mono _ _ _ _ | exact h3_Words.mono _ _ | exact stanzalaw10_Awake.mono _ | exact stanzaref01_All.mono _ _ | exact LeO.refl _ | exact LeO.none _ | refine LeO.ite ?_ ?_ | refine LeO.bind ?_ (fun _ => ?_))
  ·intro y0 y1 y2 y3 y4 y5
   unfold stanzalaw10_CellsAlone.l1
   repeat' (with_reducible first | exact ih0 _ _ _ _ _ | exact ih1 _ _ _ _ _ _ | exact ih2 _ _ _ _ _ _ _ | exact ih3 _ _ _ _ _ _ _ _ | exact cells_Make.mono _ _ _ _ | exact h3_Words.mono _ _ | exact stanzalaw10_Awake.mono _ | exact stanzaref01_All.mono _ _ | exact LeO.refl _ | exact LeO.none _ | refine LeO.ite ?_ ?_ | refine LeO.bind ?_ (fun _ => ?_))
  ·intro y0 y1 y2 y3 y4 y5 y6
   unfold stanzalaw10_CellsAlone.j2
   repeat' (with_reducible first | exact ih0 _ _ _ _ _ | exact ih1 _ _ _ _ _ _ | exact ih2 _ _ _ _ _ _ _ | exact ih3 _ _ _ _ _ _ _ _ | exact cells_Make.mono _ _ _ _ | exact h3_Words.mono _ _ | exact stanzalaw10_Awake.mono _ | exact stanzaref01_All.mono _ _ | exact LeO.refl _ | exact LeO.none _ | refine LeO.ite ?_ ?_ | refine LeO.bind ?_ (fun _ => ?_))
  ·intro y0 y1 y2 y3 y4 y5 y6 y7
   unfold stanzalaw10_CellsAlone.l2
   repeat' (with_reducible first | exact ih0 _ _ _ _ _ | exact ih1 _ _ _ _ _ _ | exact ih2 _ _ _ _ _ _ _ | exact ih3 _ _ _ _ _ _ _ _ | exact cells_Make.mono _ _ _ _ | exact h3_Words.mono _ _ | exact stanzalaw10_Awake.mono _ | exact stanzaref01_All.mono _ _ | exact LeO.refl _ | exact LeO.none _ | refine LeO.ite ?_ ?_ | refine LeO.bind ?_ (fun _ => ?_))
theorem stanzalaw10_CellsAlone.mono : ∀ a0 a1 k, LeO (stanzalaw10_CellsAlone.f k a0 a1) (stanzalaw10_CellsAlone.f (k + 1) a0 a1) := by
 intro a0 a1 k
 obtain ⟨ih0, ih1, ih2, ih3⟩ := stanzalaw10_CellsAlone.mono_l k; unfold stanzalaw10_CellsAlone.f
 repeat' (with_reducible first | exact ih0 _ _ _ _ _ | exact ih1 _ _ _ _ _ _ | exact ih2 _ _ _ _ _ _ _ | exact ih3 _ _ _ _ _ _ _ _ | exact cells_Make.mono _ _ _ _ | exact h3_Words.mono _ _ | exact stanzalaw10_Awake.mono _ | exact stanzaref01_All.mono _ _ | exact LeO.refl _ | exact LeO.none _ | refine LeO.ite ?_ ?_ | refine LeO.bind ?_ (fun _ => ?_))
def stanzalaw10_CellsAlone.T30 : Bool × List (List Nat × List Nat) := (true, [([], []), ([0], [0]), ([], []), ([], []), ([2, 3], [2, 3]), ([4], [4]), ([5], [5]), ([1, 6], [1, 6]), ([7], [7]), ([8], [8]), ([9, 8], [8, 9]), ([8], [8]), ([8], [8]), ([11, 12, 8], [8, 11, 12]), ([13, 8], [8, 13]), ([14, 8], [8, 14]), ([10, 15, 8], [8, 10, 15]), ([8, 16], [8, 16]), ([17, 8], [17]), ([18], [18]), ([19, 18], [18, 19]), ([18], [18]), ([18], [18]), ([18], [18]), ([22, 23, 18], [18, 22, 23]), ([24, 18], [18, 24]), ([25, 18], [18, 25]), ([21, 26, 18, 18], [18, 21, 26]), ([20, 27, 18], [18, 20, 27]), ([18, 28], [18, 28]), ([29, 27], [29]), ([30], [30]), ([30], [30]), ([31, 32, 30], [30, 31, 32]), ([33, 30], [30, 33]), ([30], [30]), ([34, 35, 30], [30, 34, 35]), ([30, 36], [30, 36])])
def stanzalaw10_CellsAlone.B30 : List Nat := [0, 1, 0, 0, 12, 28, 60, 127, 255, 511, 1023, 511, 511, 6655, 14847, 31231, 65535, 131071, 262143, 524287, 1048575, 524287, 524287, 524287, 13107199, 29884415, 63438847, 132644863, 268435455, 536870911, 1073741823, 2147483647, 2147483647, 8589934591, 17179869183, 2147483647, 68719476735, 137438953471]
theorem stanzalaw10_CellsAlone.tab30 : rtab .any (opsOf Try.f6 30) = stanzalaw10_CellsAlone.T30 := by kernel_rfl
theorem stanzalaw10_CellsAlone.bits30 : waitsOk stanzalaw10_CellsAlone.T30.2 stanzalaw10_CellsAlone.B30 = true := by kernel_rfl
set_option maxHeartbeats 8000000 in
set_option maxRecDepth 100000 in
theorem stanzalaw10_CellsAlone.calls (k : Nat) (A0 : Option Addr) (c0 : Nat) (l0 : List Int) (A1 : Option Addr) (c1 : Nat) (l1 : List Int) (r : Bool) (w : World) (hr0 : Kd.C (Kd.int .u8) w A0 l0.length l0) (hc0 : l0.length ≤ c0) (hr1 : Kd.C (Kd.int .u8) w A1 l1.length l1) (hc1 : l1.length ≤ c1) (h : stanzalaw10_CellsAlone.f k l0 l1 = some r) (hrt_ : zA (r = true)) :
  Calls Try.prog 6 #[.slice A0 l0.length c0, .slice A1 l1.length c1] w fun e w' => e = .returned (.bool r) ∧ Below w.heap.size w w' := by
 have hu45 := Try.underlying45; have hu48 := Try.underlying48; have HR0 := zA.mk hr0; have HC0 := zA.mk hc0; clear hr0 hc0; have HR1 := zA.mk hr1; have HC1 := zA.mk hc1; clear hr1 hc1; have HB := zA.mk (Below.refl w.heap.size w); have H : ((stanzalaw10_Awake.f k).bind fun t293 => (if t293 = true then (if (l0.length : Int) > 500 then (some true) else (stanzalaw10_CellsAlone.l0 k l0 ([] : List (S45)) l1 (l1.length : Int) 0)) else (some false))) = some r := h
 clear h; replace H := Option.bind_eq_some_iff.mp H; obtain ⟨t293, A30, H⟩ := H; replace H : (if t293 = true then (if (l0.length : Int) > 500 then (some true) else (stanzalaw10_CellsAlone.l0 k l0 ([] : List (S45)) l1 (l1.length : Int) 0)) else (some false)) = some r := H; have A3 := zA.mk A30; clear A30; by_cases c4 : t293 = true
 rotate_left
 ·replace c4 := Bool.eq_false_iff.mpr c4
  subst c4; have H1 : (some false) = some r := by rw [if_neg (show ¬ (false = true) by decide)] at H; exact H
  clear H; have H := H1; clear H1; exact absurd ((Option.some.inj H).trans hrt_.out) (by decide)
 subst c4; have H1 : (if (l0.length : Int) > 500 then (some true) else (stanzalaw10_CellsAlone.l0 k l0 ([] : List (S45)) l1 (l1.length : Int) 0)) = some r := by rw [if_pos rfl] at H; exact H
 clear H; have H := H1; clear H1; by_cases c5 : (l0.length : Int) > 500
 ·rw [if_pos c5] at H
  have c5b0 : decide (500 < (l0.length : Int)) = true := decide_eq_true c5
  have c5b1 : decide (500 < l0.length) = true := decide_eq_true (by omega)
  clear c5; obtain rfl := Option.some.inj H
  go_enter Try.func6, Try.ntmps6
  go_wp2_with (first | ((with_reducible refine gate_callee (f := 12) rfl ?_); refine goesL_ (some 20) rfl rfl Try.func12 (by kernel_rfl) rfl #[] rfl aT ?_; (with_reducible refine (stanzalaw10_Awake.calls k  true _ A3.out (by first | exact ⟨rfl⟩ | exact hrt_)).mono ?_); rintro e w6 ⟨rfl, hb⟩; refine ⟨_, rfl, ?_⟩; have n0_ := zA.mk (below_step (aL HB) hb); clear HB; have HB := n0_; clear n0_; (try clear hb); (try clear hb2); (try clear hk); (try clear hi)))
  go_ret
  exact ⟨aX, aL HB⟩
 rw [if_neg c5] at H; have c5b0 : decide (500 < (l0.length : Int)) = false := decide_eq_false c5
 have c5b1 : decide (500 < l0.length) = false := decide_eq_false (by omega)
 clear c5; have H' := zA.mk H
 clear H; go_enter Try.func6, Try.ntmps6
 go_wp2_with (first | ((with_reducible refine gate_callee (f := 12) rfl ?_); refine goesL_ (some 20) rfl rfl Try.func12 (by kernel_rfl) rfl #[] rfl aT ?_; (with_reducible refine (stanzalaw10_Awake.calls k  true _ A3.out (by first | exact ⟨rfl⟩ | exact hrt_)).mono ?_); rintro e w7 ⟨rfl, hb⟩; refine ⟨_, rfl, ?_⟩; have n0_ := zA.mk (below_step (aL HB) hb); clear HB; have HB := n0_; clear n0_; (try clear hb); (try clear hb2); (try clear hk); (try clear hi)))
 go_loopg [5, 27] k (fun kq v5 v27 w' => ∃ (x5_1 : List (S45)) (x27_1 : Int), v27 = .int .i64 x27_1 ∧ zA (stanzalaw10_CellsAlone.l0 kq l0 x5_1 l1 (l1.length : Int) x27_1 = some r) ∧ zA (kq ≤ k) ∧ zA (Kd.R k45 45 w' w.heap.size (fun _ => True) v5 x5_1) ∧ zA (Below w.heap.size w w'))
 case atStart => exact ⟨(([] : List (S45))), (0), aZ, H', ⟨Nat.le_refl _⟩, ⟨by first | exact Kd.R_nil _ _ _ _ _ | exact Kd.N_nil _ _ _ _ _ | exact Kd.V_nil _ _ _ _ _ | exact Kd.Q_nil _ _ _ _ _ | exact Kd.S_nil _ _ _ _ _⟩, ⟨aL HB⟩⟩
 clear H'; try clear c1
 try clear p2
 try clear c4
 try clear c5
 try clear c5b0
 try clear c5b1
 try clear c6
 obtain ⟨x5_1, x27_1, rfl, HA, HK1, HO_5, HB⟩ := hrel; cases gk with
 | zero => exact absurd HA.out (by simp [stanzalaw10_CellsAlone.l0])
 | succ k1 =>
  have H := HA.out; clear HA; simp only [stanzalaw10_CellsAlone.l0] at H; by_cases c8 : x27_1 < (l1.length : Int)
  ·rw [if_pos c8] at H
   have c8b0 : decide (x27_1 < (l1.length : Int)) = true := decide_eq_true c8
   clear c8; by_cases c9 : 0 ≤ x27_1
   rotate_left
   ·rw [if_neg c9] at H
    exact absurd H (by simp)
   rw [if_pos c9] at H; have c9b0 : decide (0 ≤ x27_1) = true := decide_eq_true c9
   clear c9; by_cases c10 : x27_1 < (l1.length : Int)
   rotate_left
   ·rw [if_neg c10] at H
    exact absurd H (by simp)
   rw [if_pos c10] at H; have c10b0 : decide (x27_1 < (l1.length : Int)) = true := decide_eq_true c10
   clear c10; by_cases c11 : x27_1 < 200
   rotate_left
   ·rw [if_neg c11] at H
    have c11b0 : decide (x27_1 < 200) = false := decide_eq_false c11
    clear c11; have H' := zA.mk H
    clear H; have p294 : 0 ≤ (x27_1 : Int) := aD
    have q294 : x27_1 < (l1.length : Int) := aD
    obtain ⟨ad294, e294, hx294_0⟩ := Kd.at_int HR1.out x27_1 p294 q294; cases e294
    replace hx294_0 := (HB.out.cell (World.block_lt_of_cell? w _ hx294_0)).trans hx294_0; replace p294 := eq_true p294; replace q294 := eq_true q294; go_wp2
    go_roundg k1
    case measure => have := HK1.out; omega
    case rel => exact ⟨(x5_1), (wrap64 (x27_1 + 1)), aZ, H', ⟨by have := HK1.out; omega⟩, ⟨aR HO_5⟩, ⟨aL HB⟩⟩
   rw [if_pos c11] at H; have c11b0 : decide (x27_1 < 200) = true := decide_eq_true c11
   clear c11; by_cases c12 : x5_1.length < 8796093022208
   rotate_left
   ·rw [if_neg c12] at H
    exact absurd H (by simp)
   rw [if_pos c12] at H; have LMc12 := zA.mk c12; clear c12; obtain ⟨y295, hy295⟩ : ∃ y_ : List (S45), y_ = (x5_1 ++ [(⟨wrap32 (x27_1), wrap32 (x27_1), wrap64 (Int.tmod (rd l1 x27_1) 3)⟩ : S45)]) := ⟨_, rfl⟩; replace H : (stanzalaw10_CellsAlone.l0 k1 l0 y295 l1 (l1.length : Int) (wrap64 (x27_1 + 1))) = some r := by first | (rw [hy295]; with_reducible exact H) | (have H2_ := (Option.bind_some _ _).symm.trans H; rw [hy295]; with_reducible exact H2_) | (have H2_ := (Option.bind_some _ _).symm.trans H; with_reducible exact H2_) | with_reducible exact H | (rw [hy295]; exact H) | exact H
   have Ny295 := zA.mk hy295; clear hy295; have H' := zA.mk H
   clear H; have p294 : 0 ≤ (x27_1 : Int) := aD
   have q294 : x27_1 < (l1.length : Int) := aD
   obtain ⟨ad294, e294, hx294_0⟩ := Kd.at_int HR1.out x27_1 p294 q294; cases e294
   replace hx294_0 := (HB.out.cell (World.block_lt_of_cell? w _ hx294_0)).trans hx294_0; replace p294 := eq_true p294; replace q294 := eq_true q294; go_wp2_with (first | ((with_reducible refine gate_builtin (b := .append) (xs := #[.tmp 34, .tmp 43]) rfl ?_); (try (refine gate_guard (by rfl) ?_; dsimp only)); at_builtin; refine Kd.R_append k45 (w0 := w) w.heap.size rfl (.tmp 34) (.tmp 43) 23 45 (.agg #[(.int .i32 0), (.int .i32 0), (.int .i64 0)]) 16 rfl Try.underlying23 info45 rfl (by decide) (by omega) u5 x5_1 (⟨wrap32 (x27_1), wrap32 (x27_1), wrap64 (Int.tmod (rd l1 x27_1) 3)⟩ : S45) [.int .i32 (wrap32 (x27_1)), .int .i32 (wrap32 (x27_1)), .int .i64 (wrap64 (Int.tmod (rd l1 x27_1) 3))] (fun _ => True) (fun _ => False) rfl rfl ?aP (fun _ hk => hk.elim) ?aF ?aO ?aB ?aS ?aL ?_; (case aP => exact k45_mkM _ _ _ (⟨wrap32 (x27_1), wrap32 (x27_1), wrap64 (Int.tmod (rd l1 x27_1) 3)⟩ : S45)); (case aB => exact (aL HB)); (case aF => exact (fun _ _ => trivial)); (case aO => exact (aR HO_5)); (case aS => exact (below_size (aL HB))); (case aL => have := LMc12.out; omega); intro v296 w13 ho hb hg hat; rw [← Ny295.out] at ho; have n0_ := zA.mk (hb); have n1_ := zA.mk (ho); clear HB; clear HO_5; have HB := n0_; have HO297 := n1_; clear n0_ n1_; clear ho hb hg hat))
   go_roundg k1
   case measure => have := HK1.out; omega
   case rel => exact ⟨(y295), (wrap64 (x27_1 + 1)), aZ, H', ⟨by have := HK1.out; omega⟩, ⟨aR HO297⟩, ⟨aL HB⟩⟩
  rw [if_neg c8] at H; have c8b0 : decide (x27_1 < (l1.length : Int)) = false := decide_eq_false c8
  clear c8; by_cases c14 : prop_Make.c x5_1 3 = true
  rotate_left
  ·rw [if_neg c14] at H
   have c14b0 : prop_Make.c x5_1 3 = false := by simpa using c14
   clear c14; replace H := Option.bind_eq_some_iff.mp H; obtain ⟨_, A780, H⟩ := H; replace H : (some false) = some r := H; have A78 := zA.mk A780; clear A780; exact absurd ((Option.some.inj H).trans hrt_.out) (by decide)
  rw [if_pos c14] at H; have c14b0 : prop_Make.c x5_1 3 = true := c14
  clear c14; replace H := Option.bind_eq_some_iff.mp H; obtain ⟨t300, A150, H⟩ := H; replace H : ((h3_Words.f k1 l0).bind fun t301 => ((stanzaref01_All.f k1 t301).bind fun t304 => (if 0 ≤ (t304.length : Int) then (if ((t304.length : Int) : Int).toNat ≤ 281474976710656 then ((some (List.replicate ((t304.length : Int) : Int).toNat 0 : List Int)).bind fun y307 => (stanzalaw10_CellsAlone.l1 k1 t300 t301 t304 y307 (y307.length : Int) 0)) else (none)) else (none)))) = some r := H
  have A15 := zA.mk A150; clear A150; replace H := Option.bind_eq_some_iff.mp H; obtain ⟨t301, A160, H⟩ := H; replace H : ((stanzaref01_All.f k1 t301).bind fun t304 => (if 0 ≤ (t304.length : Int) then (if ((t304.length : Int) : Int).toNat ≤ 281474976710656 then ((some (List.replicate ((t304.length : Int) : Int).toNat 0 : List Int)).bind fun y307 => (stanzalaw10_CellsAlone.l1 k1 t300 t301 t304 y307 (y307.length : Int) 0)) else (none)) else (none))) = some r := H
  have A16 := zA.mk A160; clear A160; replace H := Option.bind_eq_some_iff.mp H; obtain ⟨t304, A170, H⟩ := H; replace H : (if 0 ≤ (t304.length : Int) then (if ((t304.length : Int) : Int).toNat ≤ 281474976710656 then ((some (List.replicate ((t304.length : Int) : Int).toNat 0 : List Int)).bind fun y307 => (stanzalaw10_CellsAlone.l1 k1 t300 t301 t304 y307 (y307.length : Int) 0)) else (none)) else (none)) = some r := H
  have A17 := zA.mk A170; clear A170; by_cases c18 : 0 ≤ (t304.length : Int)
  rotate_left
  ·rw [if_neg c18] at H
   exact absurd H (by simp)
  rw [if_pos c18] at H; have c18b0 := eq_true c18; have c18b1 : decide (0 ≤ (t304.length : Int)) = true := decide_eq_true c18
  clear c18; by_cases c19 : ((t304.length : Int) : Int).toNat ≤ 281474976710656
  rotate_left
  ·rw [if_neg c19] at H
   exact absurd H (by simp)
  rw [if_pos c19] at H; have c19b0 := eq_true c19; have c19b1 : decide (((t304.length : Int) : Int).toNat ≤ 281474976710656) = true := decide_eq_true c19
  clear c19; obtain ⟨y307, hy307⟩ : ∃ y_ : List Int, y_ = (List.replicate ((t304.length : Int) : Int).toNat 0) := ⟨_, rfl⟩; replace H : (stanzalaw10_CellsAlone.l1 k1 t300 t301 t304 y307 (y307.length : Int) 0) = some r := by first | (rw [hy307]; with_reducible exact H) | (have H2_ := (Option.bind_some _ _).symm.trans H; rw [hy307]; with_reducible exact H2_) | (have H2_ := (Option.bind_some _ _).symm.trans H; with_reducible exact H2_) | with_reducible exact H | (rw [hy307]; exact H) | exact H
  have Ny307 := zA.mk hy307; clear hy307; have H' := zA.mk H
  clear H; obtain ⟨Ao20, co20, eo20⟩ := Kd.zL HO_5.out; subst eo20; go_wp2_with (first | ((with_reducible refine gate_callee (f := 14) rfl ?_); refine goesL_ (some 48) rfl rfl Try.func14 (by kernel_rfl) rfl #[.slice Ao20 x5_1.length co20, .int .i64 3] rfl aT ?_; (with_reducible refine (prop_MakeY.calls _ _ x5_1 3 t300 _ ?side1 ?side2 A15.out).mono ?_); (case side1 => exact aF HO_5); (case side2 => exact (Kd.zI HO_5.out).2.1); rintro e w21 ⟨gb299, ob299, gb300, ob300, rfl, hx1, hx2, hg1, hg2, hne, htb, hb⟩; refine ⟨_, rfl, ?_⟩; have n0_ := zA.mk (Kd.zJ (Kd.R_elderB (Kd.R_elderB (aR HO_5) gb299 hg1) gb300 hg2) hb); have n1_ := zA.mk (below_step (aL HB) hb); have n2_ := zA.mk (hx1); have n3_ := zA.mk ((Nat.le_trans (below_size (aL HB)) hg1 : w.heap.size ≤ gb299)); have n4_ := zA.mk ((Nat.le_trans (below_size (aL HB)) hg1 : w.heap.size ≤ gb299)); have n5_ := zA.mk (hne); have n6_ := zA.mk (hx2); have n7_ := zA.mk ((Nat.le_trans (below_size (aL HB)) hg2 : w.heap.size ≤ gb300)); have n8_ := zA.mk ((Nat.le_trans (below_size (aL HB)) hg2 : w.heap.size ≤ gb300)); have n9_ := zA.mk (Ne.symm hne); have n10_ := zA.mk (htb); clear HO_5; clear HB; have HO_5 := n0_; have HB := n1_; have BK299 := n2_; have GW299 := n3_; have GE299 := n4_; have NB299_300 := n5_; have BK300 := n6_; have GW300 := n7_; have GE300 := n8_; have NB300_299 := n9_; have HTt300 := n10_; clear n0_ n1_ n2_ n3_ n4_ n5_ n6_ n7_ n8_ n9_ n10_; clear hb hx1 hx2 hg1 hg2 hne htb) | ((with_reducible refine gate_callee (f := 15) rfl ?_); refine goesL_ (some 54) rfl rfl Try.func15 (by kernel_rfl) rfl #[.slice A0 l0.length c0] rfl aT ?_; (with_reducible refine (h3_Words.calls k1 _ _ l0 t301 _ ?side1 ?side2 A16.out).mono ?_); (case side1 => exact aA HR0 HB); (case side2 => exact HC0.out); rintro e w22 ⟨v302, rfl, ho0, hb⟩; refine ⟨_, rfl, ?_⟩; have n0_ := zA.mk (Kd.zJ (aR HO_5) hb); have n1_ := zA.mk (Kd.zM (Kd.R_newB (Kd.R_newB ho0 (g := gb299) (o := ob299) (aB BK299)) (g := gb300) (o := ob300) (aB BK300)) (below_size (aL HB))); have n2_ := zA.mk (blk_below (g := gb299) (o := ob299) (aB BK299) hb); have n3_ := zA.mk (blk_below (g := gb300) (o := ob300) (aB BK300) hb); have n4_ := zA.mk (below_step (aL HB) hb); clear HO_5; clear BK299; clear BK300; clear HB; have HO_5 := n0_; have HO303 := n1_; have BK299 := n2_; have BK300 := n3_; have HB := n4_; clear n0_ n1_ n2_ n3_ n4_; (try clear hb); (try clear hb2); (try clear hk); (try clear hi); (try clear ho0); obtain ⟨Ao23, co23, eo23⟩ := Kd.zL HO303.out; subst eo23) | ((with_reducible refine gate_callee (f := 16) rfl ?_); refine goesL_ (some 56) rfl rfl Try.func16 (by kernel_rfl) rfl #[.slice Ao23 t301.length co23] rfl aT ?_; (with_reducible refine (stanzaref01_All.calls k1 _ _ t301 t304 _ ?side1 ?side2 A17.out).mono ?_); (case side1 => exact aF HO303); (case side2 => exact (Kd.zI HO303.out).2.1); rintro e w24 ⟨v305, rfl, ho0, hb⟩; refine ⟨_, rfl, ?_⟩; have n0_ := zA.mk (Kd.zJ (aR HO_5) hb); have n1_ := zA.mk (Kd.zJ (aR HO303) hb); have n2_ := zA.mk (Kd.zM (Kd.R_newB (Kd.R_newB ho0 (g := gb299) (o := ob299) (aB BK299)) (g := gb300) (o := ob300) (aB BK300)) (below_size (aL HB))); have n3_ := zA.mk (blk_below (g := gb299) (o := ob299) (aB BK299) hb); have n4_ := zA.mk (blk_below (g := gb300) (o := ob300) (aB BK300) hb); have n5_ := zA.mk (below_step (aL HB) hb); clear HO_5; clear HO303; clear BK299; clear BK300; clear HB; have HO_5 := n0_; have HO303 := n1_; have HO306 := n2_; have BK299 := n3_; have BK300 := n4_; have HB := n5_; clear n0_ n1_ n2_ n3_ n4_ n5_; (try clear hb); (try clear hb2); (try clear hk); (try clear hi); (try clear ho0); obtain ⟨Ao25, co25, eo25⟩ := Kd.zL HO306.out; subst eo25) | ((with_reducible refine gate_dst (N := 59) rfl ?_); (try (refine gate_guard (by rfl) ?_; dsimp only)); refine Kd.R_make (Kd.int .u8) _ 53 rfl (N := 59) rfl 38 _ _ rfl (t304.length : Int) rfl rfl Try.underlying38 (.int .u8 0) 1 info53 rfl (by decide) (by omega) 0 (ok := fun _ => True) (okp := fun _ => True) rfl (fun _ hk => hk) trivial (aD) (Nat.le_trans (Nat.mul_le_mul_right _ (aD : (t304.length : Int).toNat ≤ 281474976710656)) (by omega)) (Below.refl _ _) (Nat.le_refl _) ?_; intro v308 w26 ho27 hb hg_ hnew_; clear hg_ hnew_; (first | rw [← Ny307.out] at ho27 | (simp only [Int.reduceToNat] at ho27; rw [← Ny307.out] at ho27)); have n0_ := zA.mk (Kd.zJ (aR HO_5) hb); have n1_ := zA.mk (Kd.zJ (aR HO303) hb); have n2_ := zA.mk (Kd.zJ (aR HO306) hb); have n3_ := zA.mk (Kd.zM (Kd.R_newB (Kd.R_newB ho27 (g := gb299) (o := ob299) (aB BK299)) (g := gb300) (o := ob300) (aB BK300)) (below_size (aL HB))); have n4_ := zA.mk (blk_below (g := gb299) (o := ob299) (aB BK299) hb); have n5_ := zA.mk (blk_below (g := gb300) (o := ob300) (aB BK300) hb); have n6_ := zA.mk (below_step (aL HB) hb); clear HO_5; clear HO303; clear HO306; clear BK299; clear BK300; clear HB; have HO_5 := n0_; have HO303 := n1_; have HO306 := n2_; have HO309 := n3_; have BK299 := n4_; have BK300 := n5_; have HB := n6_; clear n0_ n1_ n2_ n3_ n4_ n5_ n6_; clear hb ho27; obtain ⟨Ao28, co28, eo28⟩ := Kd.zL HO309.out; subst eo28))
  go_loopg [62] k1 (fun kq v62 w' => ∃ (x12_2 : List Int) (x62_2 : Int), v62 = .int .i64 x62_2 ∧ zA (stanzalaw10_CellsAlone.l1 kq t300 t301 t304 x12_2 (y307.length : Int) x62_2 = some r) ∧ zA (kq ≤ k1) ∧ zA (Kd.R (Kd.int .u8) 5 w' w.heap.size (fun k_ => k_ ≠ gb299 ∧ k_ ≠ gb300) (.slice Ao23 t301.length co23) t301) ∧ zA (Kd.R k50 50 w' w.heap.size (fun k_ => k_ ≠ gb299 ∧ k_ ≠ gb300) (.slice Ao25 t304.length co25) t304) ∧ zA (Kd.R (Kd.int .u8) 53 w' w.heap.size (fun k_ => k_ ≠ gb299 ∧ k_ ≠ gb300) (.slice Ao28 y307.length co28) x12_2) ∧ zA (w'.heap[gb299]? = some ob299) ∧ zA (w'.heap[gb300]? = some ob300) ∧ zA (Below w.heap.size w w'))
  case atStart => exact ⟨(y307), (0), aZ, H', ⟨Nat.le_refl _⟩, ⟨by (with_reducible repeat (first | apply Kd.zB | apply Kd.zC | apply Kd.zD)); exact Kd.zN HO303.out (fun _ hk => ⟨hk.1.2, hk.2⟩)⟩, ⟨by (with_reducible repeat (first | apply Kd.zB | apply Kd.zC | apply Kd.zD)); exact Kd.zN HO306.out (fun _ hk => ⟨hk.1.2, hk.2⟩)⟩, ⟨by (with_reducible repeat (first | apply Kd.zB | apply Kd.zC | apply Kd.zD)); exact Kd.zN HO309.out (fun _ hk => ⟨hk.1.2, hk.2⟩)⟩, ⟨aB BK299⟩, ⟨aB BK300⟩, ⟨aL HB⟩⟩
  clear H'; try clear c1
  try clear hx1
  try clear p2
  try clear q2
  try clear hx2
  try clear p3
  try clear c4
  try clear c5
  try clear c5b0
  try clear c5b1
  try clear c6
  try clear p6
  try clear c8
  try clear c8b0
  try clear c9
  try clear c9b0
  try clear c10
  try clear c10b0
  try clear c11
  try clear c11b0
  try clear c12
  try clear c14
  try clear c14b0
  try clear c15
  try clear c16
  try clear c18
  try clear c18b0
  try clear c18b1
  try clear c19
  try clear c19b0
  try clear c19b1
  try clear hx294_0
  try clear p2
  try clear p294
  try clear q294
  obtain ⟨x12_2, x62_2, rfl, HA, HK2, HO_10, HO_11, HO_12, BK299, BK300, HB⟩ := hrel; have hl12_2 := (Kd.zI HO_12.out).1; rw [hl12_2] at HO_12; (try simp only [hl12_2])
  (try simp only [hl12_2] at BK299)
  (try simp only [hl12_2] at BK300)
  (try simp only [hl12_2] at HO_10)
  (try simp only [hl12_2] at HO_11)
  cases gk with
  | zero => exact absurd HA.out (by simp [stanzalaw10_CellsAlone.l1])
  | succ k2 =>
   have H := HA.out; clear HA; simp only [stanzalaw10_CellsAlone.l1] at H; by_cases c29 : x62_2 < (y307.length : Int)
   ·rw [if_pos c29] at H
    have c29b0 : decide (x62_2 < (y307.length : Int)) = true := decide_eq_true c29
    (try simp only [hl12_2] at c29b0)
    clear c29; by_cases c30 : 0 ≤ x62_2
    rotate_left
    ·rw [if_neg c30] at H
     exact absurd H (by simp)
    rw [if_pos c30] at H; have c30b0 : decide (0 ≤ x62_2) = true := decide_eq_true c30
    clear c30; by_cases c31 : x62_2 < (x12_2.length : Int)
    rotate_left
    ·rw [if_neg c31] at H
     exact absurd H (by simp)
    rw [if_pos c31] at H; have c31b0 : decide (x62_2 < (x12_2.length : Int)) = true := decide_eq_true c31
    (try simp only [hl12_2] at c31b0)
    clear c31; obtain ⟨y310, hy310⟩ : ∃ y_ : List Int, y_ = (x12_2.set (x62_2 : Int).toNat 1) := ⟨_, rfl⟩; replace H : (stanzalaw10_CellsAlone.l1 k2 t300 t301 t304 y310 (y307.length : Int) (wrap64 (x62_2 + 1))) = some r := by first | (rw [hy310]; with_reducible exact H) | (have H2_ := (Option.bind_some _ _).symm.trans H; rw [hy310]; with_reducible exact H2_) | (have H2_ := (Option.bind_some _ _).symm.trans H; with_reducible exact H2_) | with_reducible exact H | (rw [hy310]; exact H) | exact H
    have Ny310 := zA.mk hy310; clear hy310; have H' := zA.mk H
    clear H; have p32 : 0 ≤ (x62_2 : Int) := aD
    have q32 : (x62_2 : Int) < ((x12_2.length : Int) : Int) := aD
    obtain ⟨go32, co32, eo32, gb32, gl32, cl32, HG32⟩ := Kd.R_form HO_12.out (by omega)
    (first | cases eo32 | (injection eo32 with ea_ en_ ec_; (first | subst ea_ | (injection ea_ with ea_; subst ea_)); subst ec_; clear en_))
    have GB32 := zA.mk gb32; have GG32 := zA.mk HG32; clear gb32 gl32 HG32; obtain ⟨hx32_0, hf32_0⟩ := Kd.R_celln 0 HO_12.out (x62_2 : Int) p32 q32; replace p32 := eq_true p32; replace q32 := eq_true q32; have HP33 := Kd.R_putg HO_12.out (x62_2 : Int) 1; go_wp2_with (first | ((with_reducible refine gate_store (t := 53) (p := 67) rfl ?_); refine store_event (t := 53) (p := 67) (v := ?vo_w34) (w1 := (wr.setCell ⟨go32, (x62_2 : Int).toNat, none⟩ (.int .u8 1))) ?hg ?ho ?hn ?hr ?_; (case ho => rfl); (case hg => rfl); (case hn => rfl); (case hr => first | (go_simp; done) | (go_simp; rfl)); intro w34 hw; have hg : wr.grownBy w34 (some go32) := (by rw [hw]; exact HP33.2); have hp_ : Kd.R (Kd.int .u8) 53 w34 w.heap.size (fun k_ => k_ ≠ gb299 ∧ k_ ≠ gb300) (.slice (some ⟨go32, 0, none⟩) x12_2.length co28) y310 := (by rw [hw, Ny310.out]; exact HP33.1); clear HP33; have n0_ := zA.mk (Kd.R_over' (v := (.slice (some ⟨go32, 0, none⟩) x12_2.length co28)) (aR HO_10) (Kd.R_typed HO_12.out) (by decide) hg); have n1_ := zA.mk (Kd.R_over' (v := (.slice (some ⟨go32, 0, none⟩) x12_2.length co28)) (aR HO_11) (Kd.R_typed HO_12.out) (by decide) hg); have n2_ := zA.mk (hp_); have n3_ := zA.mk (blk_grown (g := gb299) (o := ob299) (aB BK299) hg (Kd.R_away HO_12.out (fun _ hk => hk.1))); have n4_ := zA.mk (blk_grown (g := gb300) (o := ob300) (aB BK300) hg (Kd.R_away HO_12.out (fun _ hk => hk.2))); have n5_ := zA.mk ((by rw [hw]; exact below_set (HB.out) GB32.out : Below w.heap.size w w34)); clear HO_10; clear HO_11; clear HO_12; clear BK299; clear BK300; clear HB; have HO_10 := n0_; have HO_11 := n1_; have HO_12 := n2_; have BK299 := n3_; have BK300 := n4_; have HB := n5_; clear n0_ n1_ n2_ n3_ n4_ n5_; clear hg hw hp_))
    (try simp only [← hl12_2])
    go_roundg k2
    case measure => have := HK1.out; have := HK2.out; omega
    case rel => exact ⟨(y310), (wrap64 (x62_2 + 1)), aZ, H', ⟨by have := HK1.out; have := HK2.out; omega⟩, ⟨by (try simp only [hl12_2]); (with_reducible repeat (first | apply Kd.zB | apply Kd.zC | apply Kd.zD)); exact HO_10.out⟩, ⟨by (try simp only [hl12_2]); (with_reducible repeat (first | apply Kd.zB | apply Kd.zC | apply Kd.zD)); exact HO_11.out⟩, ⟨by (try simp only [hl12_2]); (with_reducible repeat (first | apply Kd.zB | apply Kd.zC | apply Kd.zD)); exact HO_12.out⟩, ⟨by (try simp only [hl12_2]); (with_reducible repeat (first | refine blk_drewN ?_ _ | refine blk_drew ?_ | refine blk_alloc ?_ _)); exact BK299.out⟩, ⟨by (try simp only [hl12_2]); (with_reducible repeat (first | refine blk_drewN ?_ _ | refine blk_drew ?_ | refine blk_alloc ?_ _)); exact BK300.out⟩, ⟨aL HB⟩⟩
   rw [if_neg c29] at H; have c29b0 : decide (x62_2 < (y307.length : Int)) = false := decide_eq_false c29
   (try simp only [hl12_2] at c29b0)
   clear c29; replace H := Option.bind_eq_some_iff.mp H; obtain ⟨⟨t311, t312⟩, A350, H⟩ := H; replace H : ((cells_Make.f k2 t304 ([] : List Int) t300).bind fun bt317 => (if (t311.length : Int) = (t304.length : Int) then (if (t312.length : Int) = (wrap64 ((t304.length : Int) + 1)) then (if (bt317.1.length : Int) = (mn (t304.length : Int) 1) then (stanzalaw10_CellsAlone.j2 k2 t300 t301 t304 t311 t312 bt317.1 ((bt317.2.length : Int) != (wrap64 ((bt317.1.length : Int) + 1)))) else (stanzalaw10_CellsAlone.j2 k2 t300 t301 t304 t311 t312 bt317.1 true)) else (stanzalaw10_CellsAlone.j2 k2 t300 t301 t304 t311 t312 bt317.1 true)) else (stanzalaw10_CellsAlone.j2 k2 t300 t301 t304 t311 t312 bt317.1 true))) = some r := H
   have A35 := zA.mk A350; clear A350; replace H := Option.bind_eq_some_iff.mp H; obtain ⟨⟨t317, t318⟩, A360, H⟩ := H; replace H : (if (t311.length : Int) = (t304.length : Int) then (if (t312.length : Int) = (wrap64 ((t304.length : Int) + 1)) then (if (t317.length : Int) = (mn (t304.length : Int) 1) then (stanzalaw10_CellsAlone.j2 k2 t300 t301 t304 t311 t312 t317 ((t318.length : Int) != (wrap64 ((t317.length : Int) + 1)))) else (stanzalaw10_CellsAlone.j2 k2 t300 t301 t304 t311 t312 t317 true)) else (stanzalaw10_CellsAlone.j2 k2 t300 t301 t304 t311 t312 t317 true)) else (stanzalaw10_CellsAlone.j2 k2 t300 t301 t304 t311 t312 t317 true)) = some r := H; have A36 := zA.mk A360; clear A360; have HC37 := zA.mk H; clear H; go_upto_region 25 with (first | ((with_reducible refine gate_callee (f := 17) rfl ?_); refine goesL_ (some 73) rfl rfl Try.func17 (by kernel_rfl) rfl #[.slice Ao25 t304.length co25, .slice Ao28 x12_2.length co28, .pointer (some ⟨gb299, 0, none⟩)] rfl aT ?_; (with_reducible refine (cells_Make.calls k2 _ _ t304 _ _ x12_2 (.pointer (some ⟨gb299, 0, none⟩)) t300 t311 t312 _ ?side1 ?side2 ?side3 ?side4 ?side5 A35.out).mono ?_); (case side1 => exact aF HO_11); (case side2 => exact (Kd.zI HO_11.out).2.1); (case side3 => exact aF HO_12); (case side4 => exact (Kd.zI HO_12.out).2.1); (case side5 => exact TabO.at HTt300.out (aB BK299) (aB BK300)); rintro e w38 ⟨v313, v315, rfl, ho0, ho1, hb⟩; refine ⟨_, rfl, ?_⟩; have n0_ := zA.mk (Kd.zJ (aR HO_10) hb); have n1_ := zA.mk (Kd.zJ (aR HO_11) hb); have n2_ := zA.mk (Kd.zJ (aR HO_12) hb); have n3_ := zA.mk (Kd.zM (Kd.R_newB (Kd.R_newB ho0 (g := gb299) (o := ob299) (aB BK299)) (g := gb300) (o := ob300) (aB BK300)) (below_size (aL HB))); have n4_ := zA.mk (Kd.zM (Kd.R_newB (Kd.R_newB ho1 (g := gb299) (o := ob299) (aB BK299)) (g := gb300) (o := ob300) (aB BK300)) (below_size (aL HB))); have n5_ := zA.mk (blk_below (g := gb299) (o := ob299) (aB BK299) hb); have n6_ := zA.mk (blk_below (g := gb300) (o := ob300) (aB BK300) hb); have n7_ := zA.mk (below_step (aL HB) hb); clear HO_10; clear HO_11; clear HO_12; clear BK299; clear BK300; clear HB; have HO_10 := n0_; have HO_11 := n1_; have HO_12 := n2_; have HO314 := n3_; have HO316 := n4_; have BK299 := n5_; have BK300 := n6_; have HB := n7_; clear n0_ n1_ n2_ n3_ n4_ n5_ n6_ n7_; (try clear hb); (try clear hb2); (try clear hk); (try clear hi); (try clear ho0); (try clear ho1)) | ((with_reducible refine gate_callee (f := 17) rfl ?_); refine goesL_ (some 79) rfl rfl Try.func17 (by kernel_rfl) rfl #[.slice Ao25 t304.length co25, .slice none 0 0, .pointer (some ⟨gb299, 0, none⟩)] rfl aT ?_; (refine (cells_Make.calls k2 _ _ t304 _ _ ([] : List Int) (.pointer (some ⟨gb299, 0, none⟩)) t300 t317 t318 _ ?side1 ?side2 ?side3 ?side4 ?side5 A36.out).mono ?_); (case side1 => exact aF HO_11); (case side2 => exact (Kd.zI HO_11.out).2.1); (case side3 => exact Kd.C_nil _ _); (case side4 => exact Nat.le_refl _); (case side5 => exact TabO.at HTt300.out (aB BK299) (aB BK300)); rintro e w39 ⟨v319, v321, rfl, ho0, ho1, hb⟩; refine ⟨_, rfl, ?_⟩; have n0_ := zA.mk (Kd.zJ (aR HO_10) hb); have n1_ := zA.mk (Kd.zJ (aR HO_11) hb); have n2_ := zA.mk (Kd.zJ (aR HO_12) hb); have n3_ := zA.mk (Kd.R_elder' (aR HO314) (Kd.R_base ho0) hb); have n4_ := zA.mk (Kd.R_elder' (aR HO316) (Kd.R_base ho1) hb); have n5_ := zA.mk (Kd.zM (Kd.R_newB (Kd.R_newB (Kd.R_new' ho0 (Kd.R_lt (aR HO314))) (g := gb299) (o := ob299) (aB BK299)) (g := gb300) (o := ob300) (aB BK300)) (below_size (aL HB))); have n6_ := zA.mk (Kd.zM (Kd.R_newB (Kd.R_newB (Kd.R_new' ho1 (Kd.R_lt (aR HO316))) (g := gb299) (o := ob299) (aB BK299)) (g := gb300) (o := ob300) (aB BK300)) (below_size (aL HB))); have n7_ := zA.mk (blk_below (g := gb299) (o := ob299) (aB BK299) hb); have n8_ := zA.mk (blk_below (g := gb300) (o := ob300) (aB BK300) hb); have n9_ := zA.mk (below_step (aL HB) hb); clear HO_10; clear HO_11; clear HO_12; clear HO314; clear HO316; clear BK299; clear BK300; clear HB; have HO_10 := n0_; have HO_11 := n1_; have HO_12 := n2_; have HO314 := n3_; have HO316 := n4_; have HO320 := n5_; have HO322 := n6_; have BK299 := n7_; have BK300 := n8_; have HB := n9_; clear n0_ n1_ n2_ n3_ n4_ n5_ n6_ n7_ n8_ n9_; (try clear hb); (try clear hb2); (try clear hk); (try clear hi); (try clear ho0); (try clear ho1)))
   (try simp only [Act.put, sA_, sB_, sC_])
   go_cut [110] (fun v110 wc => ∃ (kq : Nat) (x110_36 : Bool), v110 = .bool x110_36 ∧ zA (stanzalaw10_CellsAlone.j2 kq t300 t301 t304 t311 t312 t317 x110_36 = some r) ∧ zA (kq ≤ k2) ∧ zA (Kd.R (Kd.int .u8) 5 wc w.heap.size (fun k_ => k_ ≠ gb299 ∧ k_ ≠ gb300) (.slice Ao23 t301.length co23) t301) ∧ zA (Kd.R k50 50 wc w.heap.size (fun k_ => k_ ≠ gb299 ∧ k_ ≠ gb300) (.slice Ao25 t304.length co25) t304) ∧ zA (Kd.R k48 48 wc w.heap.size (fun k_ => some k_ ≠ (v319 : Value).ownBlock ∧ k_ ≠ gb299 ∧ k_ ≠ gb300) v313 t311) ∧ zA (Kd.R (Kd.int .i64) 3 wc w.heap.size (fun k_ => k_ ≠ gb299 ∧ k_ ≠ gb300) v315 t312) ∧ zA (Kd.R k48 48 wc w.heap.size (fun k_ => some k_ ≠ (v313 : Value).ownBlock ∧ k_ ≠ gb299 ∧ k_ ≠ gb300) v319 t317) ∧ zA (wc.heap[gb299]? = some ob299) ∧ zA (wc.heap[gb300]? = some ob300) ∧ zA (Below w.heap.size w wc))
   case first =>
    have H := HC37.out; clear HC37; by_cases c40 : (t311.length : Int) = (t304.length : Int)
    rotate_left
    ·rw [if_neg c40] at H
     have c40b0 : ((t311.length : Int) == (t304.length : Int)) = false := beq_eq_false_iff_ne.mpr c40
     have c40b1 : ((t311.length : Int) != (t304.length : Int)) = true := bne_iff_ne.mpr c40
     have c40b2 : (t311.length == t304.length) = false := by first | simpa using c40 | (simp at c40 ⊢; omega)
     (try simp only [hl12_2] at c40b0)
     (try simp only [hl12_2] at c40b1)
     (try simp only [hl12_2] at c40b2)
     (first | rw [c40b0] | (simp only [i64_w, i32_w]; rw [c40b0]) | skip)
     have H' := zA.mk H
     clear H; obtain ⟨Ao53, co53, eo53⟩ := Kd.zL HO314.out; subst eo53; go_wp2
     go_meet
     case rel => exact ⟨_, (true), aZ, H', ⟨by have := HK1.out; have := HK2.out; first | omega | exact Nat.le_refl _⟩, ⟨by (try simp only [hl12_2]); (with_reducible repeat (first | apply Kd.zB | apply Kd.zC | apply Kd.zD)); exact HO_10.out⟩, ⟨by (try simp only [hl12_2]); (with_reducible repeat (first | apply Kd.zB | apply Kd.zC | apply Kd.zD)); exact HO_11.out⟩, ⟨by (try simp only [hl12_2]); (with_reducible repeat (first | apply Kd.zB | apply Kd.zC | apply Kd.zD)); exact Kd.zN HO314.out (fun _ hk => ⟨hk.2, ⟨hk.1.1.2, hk.1.2⟩⟩)⟩, ⟨by (try simp only [hl12_2]); (with_reducible repeat (first | apply Kd.zB | apply Kd.zC | apply Kd.zD)); exact Kd.zN HO316.out (fun _ hk => ⟨hk.1.1.2, hk.1.2⟩)⟩, ⟨by (try simp only [hl12_2]); (with_reducible repeat (first | apply Kd.zB | apply Kd.zC | apply Kd.zD)); exact Kd.zN HO320.out (fun _ hk => ⟨hk.1.1.2, ⟨hk.1.2, hk.2⟩⟩)⟩, ⟨by (try simp only [hl12_2]); (with_reducible repeat (first | refine blk_drewN ?_ _ | refine blk_drew ?_ | refine blk_alloc ?_ _)); exact BK299.out⟩, ⟨by (try simp only [hl12_2]); (with_reducible repeat (first | refine blk_drewN ?_ _ | refine blk_drew ?_ | refine blk_alloc ?_ _)); exact BK300.out⟩, ⟨aL HB⟩⟩
    rw [if_pos c40] at H; have c40b0 : ((t311.length : Int) == (t304.length : Int)) = true := beq_iff_eq.mpr c40
    have c40b1 : ((t311.length : Int) != (t304.length : Int)) = false := bne_eq_false_iff_eq.mpr c40
    have c40b2 : (t311.length == t304.length) = true := by first | simpa using c40 | (simp at c40 ⊢; omega)
    (try simp only [hl12_2] at c40b0)
    (try simp only [hl12_2] at c40b1)
    (try simp only [hl12_2] at c40b2)
    clear c40; (first | rw [c40b0] | (simp only [i64_w, i32_w]; rw [c40b0]) | skip)
    by_cases c41 : (t312.length : Int) = (wrap64 ((t304.length : Int) + 1))
    rotate_left
    ·rw [if_neg c41] at H
     have c41b0 : ((t312.length : Int) == (wrap64 ((t304.length : Int) + 1))) = false := beq_eq_false_iff_ne.mpr c41
     have c41b1 : ((t312.length : Int) != (wrap64 ((t304.length : Int) + 1))) = true := bne_iff_ne.mpr c41
     (try simp only [hl12_2] at c41b0)
     (try simp only [hl12_2] at c41b1)
     have H' := zA.mk H
     clear H; obtain ⟨Ao51, co51, eo51⟩ := Kd.zL HO314.out; subst eo51; obtain ⟨Ao52, co52, eo52⟩ := Kd.zL HO316.out; subst eo52; go_wp2
     go_meet
     case rel => exact ⟨_, (true), aZ, H', ⟨by have := HK1.out; have := HK2.out; first | omega | exact Nat.le_refl _⟩, ⟨by (try simp only [hl12_2]); (with_reducible repeat (first | apply Kd.zB | apply Kd.zC | apply Kd.zD)); exact HO_10.out⟩, ⟨by (try simp only [hl12_2]); (with_reducible repeat (first | apply Kd.zB | apply Kd.zC | apply Kd.zD)); exact HO_11.out⟩, ⟨by (try simp only [hl12_2]); (with_reducible repeat (first | apply Kd.zB | apply Kd.zC | apply Kd.zD)); exact Kd.zN HO314.out (fun _ hk => ⟨hk.2, ⟨hk.1.1.2, hk.1.2⟩⟩)⟩, ⟨by (try simp only [hl12_2]); (with_reducible repeat (first | apply Kd.zB | apply Kd.zC | apply Kd.zD)); exact Kd.zN HO316.out (fun _ hk => ⟨hk.1.1.2, hk.1.2⟩)⟩, ⟨by (try simp only [hl12_2]); (with_reducible repeat (first | apply Kd.zB | apply Kd.zC | apply Kd.zD)); exact Kd.zN HO320.out (fun _ hk => ⟨hk.1.1.2, ⟨hk.1.2, hk.2⟩⟩)⟩, ⟨by (try simp only [hl12_2]); (with_reducible repeat (first | refine blk_drewN ?_ _ | refine blk_drew ?_ | refine blk_alloc ?_ _)); exact BK299.out⟩, ⟨by (try simp only [hl12_2]); (with_reducible repeat (first | refine blk_drewN ?_ _ | refine blk_drew ?_ | refine blk_alloc ?_ _)); exact BK300.out⟩, ⟨aL HB⟩⟩
    rw [if_pos c41] at H; have c41b0 : ((t312.length : Int) == (wrap64 ((t304.length : Int) + 1))) = true := beq_iff_eq.mpr c41
    have c41b1 : ((t312.length : Int) != (wrap64 ((t304.length : Int) + 1))) = false := bne_eq_false_iff_eq.mpr c41
    (try simp only [hl12_2] at c41b0)
    (try simp only [hl12_2] at c41b1)
    clear c41; obtain ⟨ji42, hji42⟩ : ∃ j_ : Int, (mn (t304.length : Int) 1) = j_ := ⟨_, rfl⟩; replace H : (if (t317.length : Int) = (ji42) then (stanzalaw10_CellsAlone.j2 k2 t300 t301 t304 t311 t312 t317 ((t318.length : Int) != (wrap64 ((t317.length : Int) + 1)))) else (stanzalaw10_CellsAlone.j2 k2 t300 t301 t304 t311 t312 t317 true)) = some r := by first | (rw [hji42] at H; exact H) | (simp only [hji42] at H ⊢; exact H)
    have hji42_ : (if 1 < (t304.length : Int) then 1 else (t304.length : Int)) = ji42 := hji42
    by_cases c43 : (t317.length : Int) = (ji42)
    rotate_left
    ·rw [if_neg c43] at H
     have c43b0 : ((t317.length : Int) == (ji42)) = false := beq_eq_false_iff_ne.mpr c43
     have c43b1 : ((t317.length : Int) != (ji42)) = true := bne_iff_ne.mpr c43
     (try simp only [hl12_2] at c43b0)
     (try simp only [hl12_2] at c43b1)
     have H' := zA.mk H
     clear H; obtain ⟨Ao48, co48, eo48⟩ := Kd.zL HO314.out; subst eo48; obtain ⟨Ao49, co49, eo49⟩ := Kd.zL HO316.out; subst eo49; obtain ⟨Ao50, co50, eo50⟩ := Kd.zL HO320.out; subst eo50; go_wp2
     go_meet
     case rel => exact ⟨_, (true), aZ, H', ⟨by have := HK1.out; have := HK2.out; first | omega | exact Nat.le_refl _⟩, ⟨by (try simp only [hl12_2]); (with_reducible repeat (first | apply Kd.zB | apply Kd.zC | apply Kd.zD)); exact HO_10.out⟩, ⟨by (try simp only [hl12_2]); (with_reducible repeat (first | apply Kd.zB | apply Kd.zC | apply Kd.zD)); exact HO_11.out⟩, ⟨by (try simp only [hl12_2]); (with_reducible repeat (first | apply Kd.zB | apply Kd.zC | apply Kd.zD)); exact Kd.zN HO314.out (fun _ hk => ⟨hk.2, ⟨hk.1.1.2, hk.1.2⟩⟩)⟩, ⟨by (try simp only [hl12_2]); (with_reducible repeat (first | apply Kd.zB | apply Kd.zC | apply Kd.zD)); exact Kd.zN HO316.out (fun _ hk => ⟨hk.1.1.2, hk.1.2⟩)⟩, ⟨by (try simp only [hl12_2]); (with_reducible repeat (first | apply Kd.zB | apply Kd.zC | apply Kd.zD)); exact Kd.zN HO320.out (fun _ hk => ⟨hk.1.1.2, ⟨hk.1.2, hk.2⟩⟩)⟩, ⟨by (try simp only [hl12_2]); (with_reducible repeat (first | refine blk_drewN ?_ _ | refine blk_drew ?_ | refine blk_alloc ?_ _)); exact BK299.out⟩, ⟨by (try simp only [hl12_2]); (with_reducible repeat (first | refine blk_drewN ?_ _ | refine blk_drew ?_ | refine blk_alloc ?_ _)); exact BK300.out⟩, ⟨aL HB⟩⟩
    rw [if_pos c43] at H; have c43b0 : ((t317.length : Int) == (ji42)) = true := beq_iff_eq.mpr c43
    have c43b1 : ((t317.length : Int) != (ji42)) = false := bne_eq_false_iff_eq.mpr c43
    (try simp only [hl12_2] at c43b0)
    (try simp only [hl12_2] at c43b1)
    clear c43; have H' := zA.mk H
    clear H; obtain ⟨Ao44, co44, eo44⟩ := Kd.zL HO314.out; subst eo44; obtain ⟨Ao45, co45, eo45⟩ := Kd.zL HO316.out; subst eo45; obtain ⟨Ao46, co46, eo46⟩ := Kd.zL HO320.out; subst eo46; obtain ⟨Ao47, co47, eo47⟩ := Kd.zL HO322.out; subst eo47; go_wp2
    go_meet
    case rel => exact ⟨_, (((t318.length : Int) != (wrap64 ((t317.length : Int) + 1)))), aZ, H', ⟨by have := HK1.out; have := HK2.out; first | omega | exact Nat.le_refl _⟩, ⟨by (try simp only [hl12_2]); (with_reducible repeat (first | apply Kd.zB | apply Kd.zC | apply Kd.zD)); exact HO_10.out⟩, ⟨by (try simp only [hl12_2]); (with_reducible repeat (first | apply Kd.zB | apply Kd.zC | apply Kd.zD)); exact HO_11.out⟩, ⟨by (try simp only [hl12_2]); (with_reducible repeat (first | apply Kd.zB | apply Kd.zC | apply Kd.zD)); exact Kd.zN HO314.out (fun _ hk => ⟨hk.2, ⟨hk.1.1.2, hk.1.2⟩⟩)⟩, ⟨by (try simp only [hl12_2]); (with_reducible repeat (first | apply Kd.zB | apply Kd.zC | apply Kd.zD)); exact Kd.zN HO316.out (fun _ hk => ⟨hk.1.1.2, hk.1.2⟩)⟩, ⟨by (try simp only [hl12_2]); (with_reducible repeat (first | apply Kd.zB | apply Kd.zC | apply Kd.zD)); exact Kd.zN HO320.out (fun _ hk => ⟨hk.1.1.2, ⟨hk.1.2, hk.2⟩⟩)⟩, ⟨by (try simp only [hl12_2]); (with_reducible repeat (first | refine blk_drewN ?_ _ | refine blk_drew ?_ | refine blk_alloc ?_ _)); exact BK299.out⟩, ⟨by (try simp only [hl12_2]); (with_reducible repeat (first | refine blk_drewN ?_ _ | refine blk_drew ?_ | refine blk_alloc ?_ _)); exact BK300.out⟩, ⟨aL HB⟩⟩
   clear HC37; try clear c1
   try clear hx1
   try clear c2
   try clear p2
   try clear q2
   try clear hx2
   try clear c3
   try clear p3
   try clear q3
   try clear hx3
   try clear hf3
   try clear c4
   try clear c5
   try clear c5b0
   try clear c5b1
   try clear c6
   try clear p6
   try clear c8
   try clear c8b0
   try clear c9
   try clear c9b0
   try clear c10
   try clear c10b0
   try clear c11
   try clear c11b0
   try clear c12
   try clear c14
   try clear c14b0
   try clear c15
   try clear c16
   try clear c17
   try clear c18
   try clear c18b0
   try clear c18b1
   try clear c19
   try clear c19b0
   try clear c19b1
   try clear c29
   try clear c29b0
   try clear p29
   try clear q29
   try clear hx29
   try clear c30
   try clear c30b0
   try clear c31
   try clear c31b0
   try clear p32
   try clear q32
   try clear hx32
   try clear hf32
   try clear c40
   try clear c40b0
   try clear c40b1
   try clear c40b2
   try clear c41
   try clear c41b0
   try clear c41b1
   try clear c43
   try clear c43b0
   try clear c43b1
   try clear hx294_0
   try clear hx32_0
   try clear p2
   try clear p294
   try clear p3
   try clear p32
   try clear p6
   try clear q2
   try clear q294
   try clear q32
   obtain ⟨kq, x110_36, rfl, HA, HJ36, HO_10, HO_11, HO_14, HO_15, HO_16, BK299, BK300, HB⟩ := hcut; cases kq with
   | zero => exact absurd HA.out (by simp [stanzalaw10_CellsAlone.j2])
   | succ kj36 =>
    have H := HA.out; clear HA; simp only [stanzalaw10_CellsAlone.j2] at H; by_cases c54 : x110_36 = true
    ·subst c54
     have H1 : (some false) = some r := by rw [if_pos rfl] at H; exact H
     clear H; have H := H1; clear H1; exact absurd ((Option.some.inj H).trans hrt_.out) (by decide)
    replace c54 := Bool.eq_false_iff.mpr c54; subst c54; have H1 : (stanzalaw10_CellsAlone.l2 kj36 t300 t301 t304 t312 t317 t311 (t311.length : Int) 0) = some r := by rw [if_neg (show ¬ (false = true) by decide)] at H; exact H
    clear H; have H := H1; clear H1; have H' := zA.mk H
    clear H; obtain ⟨Ao55, co55, eo55⟩ := Kd.zL HO_14.out; subst eo55; go_wp2
    go_loopg [113] kj36 (fun kq v113 w' => ∃ (x113_4 : Int), v113 = .int .i64 x113_4 ∧ zA (stanzalaw10_CellsAlone.l2 kq t300 t301 t304 t312 t317 t311 (t311.length : Int) x113_4 = some r) ∧ zA (kq ≤ kj36) ∧ zA (Kd.R (Kd.int .u8) 5 w' w.heap.size (fun k_ => k_ ≠ gb299 ∧ k_ ≠ gb300) (.slice Ao23 t301.length co23) t301) ∧ zA (Kd.R k50 50 w' w.heap.size (fun k_ => k_ ≠ gb299 ∧ k_ ≠ gb300) (.slice Ao25 t304.length co25) t304) ∧ zA (Kd.R (Kd.int .i64) 3 w' w.heap.size (fun k_ => k_ ≠ gb299 ∧ k_ ≠ gb300) v315 t312) ∧ zA (Kd.R k48 48 w' w.heap.size (fun k_ => some k_ ≠ ((.slice Ao55 t311.length co55) : Value).ownBlock ∧ k_ ≠ gb299 ∧ k_ ≠ gb300) v319 t317) ∧ zA (Kd.R k48 48 w' w.heap.size (fun k_ => some k_ ≠ (v319 : Value).ownBlock ∧ k_ ≠ gb299 ∧ k_ ≠ gb300) (.slice Ao55 t311.length co55) t311) ∧ zA (w'.heap[gb299]? = some ob299) ∧ zA (w'.heap[gb300]? = some ob300) ∧ zA (Below w.heap.size w w'))
    case atStart => exact ⟨(0), aZ, H', ⟨Nat.le_refl _⟩, ⟨by (try simp only [hl12_2]); (with_reducible repeat (first | apply Kd.zB | apply Kd.zC | apply Kd.zD)); exact HO_10.out⟩, ⟨by (try simp only [hl12_2]); (with_reducible repeat (first | apply Kd.zB | apply Kd.zC | apply Kd.zD)); exact HO_11.out⟩, ⟨by (try simp only [hl12_2]); (with_reducible repeat (first | apply Kd.zB | apply Kd.zC | apply Kd.zD)); exact HO_15.out⟩, ⟨by (try simp only [hl12_2]); (with_reducible repeat (first | apply Kd.zB | apply Kd.zC | apply Kd.zD)); exact HO_16.out⟩, ⟨by (try simp only [hl12_2]); (with_reducible repeat (first | apply Kd.zB | apply Kd.zC | apply Kd.zD)); exact HO_14.out⟩, ⟨by (try simp only [hl12_2]); (with_reducible repeat (first | refine blk_drewN ?_ _ | refine blk_drew ?_ | refine blk_alloc ?_ _)); exact BK299.out⟩, ⟨by (try simp only [hl12_2]); (with_reducible repeat (first | refine blk_drewN ?_ _ | refine blk_drew ?_ | refine blk_alloc ?_ _)); exact BK300.out⟩, ⟨aL HB⟩⟩
    clear H'; try clear c1
    try clear hx1
    try clear c2
    try clear p2
    try clear q2
    try clear hx2
    try clear c3
    try clear p3
    try clear q3
    try clear hx3
    try clear hf3
    try clear c4
    try clear c5
    try clear c5b0
    try clear c5b1
    try clear c6
    try clear p6
    try clear c8
    try clear c8b0
    try clear c9
    try clear c9b0
    try clear c10
    try clear c10b0
    try clear c11
    try clear c11b0
    try clear c12
    try clear c14
    try clear c14b0
    try clear c15
    try clear c16
    try clear c17
    try clear c18
    try clear c18b0
    try clear c18b1
    try clear c19
    try clear c19b0
    try clear c19b1
    try clear c29
    try clear c29b0
    try clear p29
    try clear q29
    try clear hx29
    try clear c30
    try clear c30b0
    try clear c31
    try clear c31b0
    try clear p32
    try clear q32
    try clear hx32
    try clear hf32
    try clear c40
    try clear c40b0
    try clear c40b1
    try clear c40b2
    try clear c41
    try clear c41b0
    try clear c41b1
    try clear c43
    try clear c43b0
    try clear c43b1
    try clear c54
    try clear hx294_0
    try clear hx32_0
    try clear p2
    try clear p29
    try clear p294
    try clear p3
    try clear p32
    try clear p6
    try clear q2
    try clear q29
    try clear q294
    try clear q3
    try clear q32
    obtain ⟨x113_4, rfl, HA, HK4, HO_10, HO_11, HO_15, HO_16, HO_111, BK299, BK300, HB⟩ := hrel; cases gk with
    | zero => exact absurd HA.out (by simp [stanzalaw10_CellsAlone.l2])
    | succ k4 =>
     have H := HA.out; clear HA; simp only [stanzalaw10_CellsAlone.l2] at H; by_cases c56 : x113_4 < (t311.length : Int)
     rotate_left
     ·rw [if_neg c56] at H
      have c56b0 : decide (x113_4 < (t311.length : Int)) = false := decide_eq_false c56
      (try simp only [hl12_2] at c56b0)
      clear c56; by_cases c73 : (t317.length : Int) = 0
      ·rw [if_pos c73] at H
       have c73b0 : ((t317.length : Int) == 0) = true := beq_iff_eq.mpr c73
       have c73b1 : ((t317.length : Int) != 0) = false := bne_eq_false_iff_eq.mpr c73
       (try simp only [hl12_2] at c73b0)
       (try simp only [hl12_2] at c73b1)
       clear c73; obtain rfl := Option.some.inj H
       obtain ⟨Ao74, co74, eo74⟩ := Kd.zL HO_16.out; subst eo74; go_wp2
       go_ret
       exact ⟨aX, aL HB⟩
      rw [if_neg c73] at H; have c73b0 : ((t317.length : Int) == 0) = false := beq_eq_false_iff_ne.mpr c73
      have c73b1 : ((t317.length : Int) != 0) = true := bne_iff_ne.mpr c73
      have c73b2 : ¬ (t317 = []) := fun h_ => c73 (by rw [h_]; rfl)
      (try simp only [hl12_2] at c73b0)
      (try simp only [hl12_2] at c73b1)
      (try simp only [hl12_2] at c73b2)
      by_cases c75 : 0 < (t317.length : Int)
      rotate_left
      ·rw [if_neg c75] at H
       exact absurd H (by simp)
      rw [if_pos c75] at H; have c75b0 : decide (0 < (t317.length : Int)) = true := decide_eq_true c75
      have c75b1 : decide (0 < t317.length) = true := decide_eq_true (by omega)
      (try simp only [hl12_2] at c75b0)
      (try simp only [hl12_2] at c75b1)
      clear c75; by_cases c76 : ((rd_T48 t317 0).f1) = (t301.length : Int)
      rotate_left
      ·rw [if_neg c76] at H
       have c76b0 : (((rd_T48 t317 0).f1) == (t301.length : Int)) = false := beq_eq_false_iff_ne.mpr c76
       have c76b1 : (((rd_T48 t317 0).f1) != (t301.length : Int)) = true := bne_iff_ne.mpr c76
       (try simp only [hl12_2] at c76b0)
       (try simp only [hl12_2] at c76b1)
       exact absurd ((Option.some.inj H).trans hrt_.out) (by decide)
      rw [if_pos c76] at H; have c76b0 : (((rd_T48 t317 0).f1) == (t301.length : Int)) = true := beq_iff_eq.mpr c76
      have c76b1 : (((rd_T48 t317 0).f1) != (t301.length : Int)) = false := bne_eq_false_iff_eq.mpr c76
      (try simp only [hl12_2] at c76b0)
      (try simp only [hl12_2] at c76b1)
      clear c76; obtain rfl := Option.some.inj H
      obtain ⟨Ao77, co77, eo77⟩ := Kd.zL HO_16.out; subst eo77; have p330 : 0 ≤ (0 : Int) := (by omega)
      have q330 : 0 < (t317.length : Int) := aD
      obtain ⟨ad330, e330, hx330_0, hx330_1, hx330_2, hx330_3⟩ := at_T48 (Kd.zI HO_16.out).2.2 0 p330 q330; cases e330
      have qi330 : (0 < t317.length) = True := eq_true (by omega)
      (try rw [show ((0 : Int)).toNat = 0 from rfl] at hx330_0)
      (try rw [show 0 * 4 = 0 from rfl] at hx330_0)
      (try rw [Addr.add_zero'] at hx330_0)
      (try rw [show ((0 : Int)).toNat = 0 from rfl] at hx330_1)
      (try rw [show 0 * 4 = 0 from rfl] at hx330_1)
      (try rw [Addr.add_zero'] at hx330_1)
      (try rw [show ((0 : Int)).toNat = 0 from rfl] at hx330_2)
      (try rw [show 0 * 4 = 0 from rfl] at hx330_2)
      (try rw [Addr.add_zero'] at hx330_2)
      (try rw [show ((0 : Int)).toNat = 0 from rfl] at hx330_3)
      (try rw [show 0 * 4 = 0 from rfl] at hx330_3)
      (try rw [Addr.add_zero'] at hx330_3)
      replace p330 := eq_true p330; replace q330 := eq_true q330; have p331 : 0 ≤ (0 : Int) := (by omega)
      have q331 : 0 < (t317.length : Int) := aD
      obtain ⟨ad331, e331, hx331_0, hx331_1, hx331_2, hx331_3⟩ := at_T48 (Kd.zI HO_16.out).2.2 0 p331 q331; obtain rfl : ad330 = ad331 := (by injection e331)
      have qi331 : (0 < t317.length) = True := eq_true (by omega)
      (try rw [show ((0 : Int)).toNat = 0 from rfl] at hx331_0)
      (try rw [show 0 * 4 = 0 from rfl] at hx331_0)
      (try rw [Addr.add_zero'] at hx331_0)
      (try rw [show ((0 : Int)).toNat = 0 from rfl] at hx331_1)
      (try rw [show 0 * 4 = 0 from rfl] at hx331_1)
      (try rw [Addr.add_zero'] at hx331_1)
      (try rw [show ((0 : Int)).toNat = 0 from rfl] at hx331_2)
      (try rw [show 0 * 4 = 0 from rfl] at hx331_2)
      (try rw [Addr.add_zero'] at hx331_2)
      (try rw [show ((0 : Int)).toNat = 0 from rfl] at hx331_3)
      (try rw [show 0 * 4 = 0 from rfl] at hx331_3)
      (try rw [Addr.add_zero'] at hx331_3)
      replace p331 := eq_true p331; replace q331 := eq_true q331; go_wp2
      go_ret
      exact ⟨aX, aL HB⟩
     rw [if_pos c56] at H; have c56b0 : decide (x113_4 < (t311.length : Int)) = true := decide_eq_true c56
     (try simp only [hl12_2] at c56b0)
     clear c56; by_cases c57 : 0 ≤ x113_4
     rotate_left
     ·rw [if_neg c57] at H
      exact absurd H (by simp)
     rw [if_pos c57] at H; have c57b0 : decide (0 ≤ x113_4) = true := decide_eq_true c57
     clear c57; by_cases c58 : x113_4 < (t311.length : Int)
     rotate_left
     ·rw [if_neg c58] at H
      exact absurd H (by simp)
     rw [if_pos c58] at H; have c58b0 : decide (x113_4 < (t311.length : Int)) = true := decide_eq_true c58
     (try simp only [hl12_2] at c58b0)
     clear c58; by_cases c59 : x113_4 < (t304.length : Int)
     rotate_left
     ·rw [if_neg c59] at H
      exact absurd H (by simp)
     rw [if_pos c59] at H; have c59b0 : decide (x113_4 < (t304.length : Int)) = true := decide_eq_true c59
     (try simp only [hl12_2] at c59b0)
     clear c59; by_cases c60 : ((rd_T48 t311 x113_4).f0) = ((rd_T50 t304 x113_4).f1)
     rotate_left
     ·rw [if_neg c60] at H
      have c60b0 : (((rd_T48 t311 x113_4).f0) == ((rd_T50 t304 x113_4).f1)) = false := beq_eq_false_iff_ne.mpr c60
      have c60b1 : (((rd_T48 t311 x113_4).f0) != ((rd_T50 t304 x113_4).f1)) = true := bne_iff_ne.mpr c60
      exact absurd ((Option.some.inj H).trans hrt_.out) (by decide)
     rw [if_pos c60] at H; have c60b0 : (((rd_T48 t311 x113_4).f0) == ((rd_T50 t304 x113_4).f1)) = true := beq_iff_eq.mpr c60
     have c60b1 : (((rd_T48 t311 x113_4).f0) != ((rd_T50 t304 x113_4).f1)) = false := bne_eq_false_iff_eq.mpr c60
     clear c60; by_cases c61 : ((rd_T48 t311 x113_4).f1) = ((rd_T50 t304 x113_4).f2)
     rotate_left
     ·rw [if_neg c61] at H
      have c61b0 : (((rd_T48 t311 x113_4).f1) == ((rd_T50 t304 x113_4).f2)) = false := beq_eq_false_iff_ne.mpr c61
      have c61b1 : (((rd_T48 t311 x113_4).f1) != ((rd_T50 t304 x113_4).f2)) = true := bne_iff_ne.mpr c61
      exact absurd ((Option.some.inj H).trans hrt_.out) (by decide)
     rw [if_pos c61] at H; have c61b0 : (((rd_T48 t311 x113_4).f1) == ((rd_T50 t304 x113_4).f2)) = true := beq_iff_eq.mpr c61
     have c61b1 : (((rd_T48 t311 x113_4).f1) != ((rd_T50 t304 x113_4).f2)) = false := bne_eq_false_iff_eq.mpr c61
     clear c61; replace H := Option.bind_eq_some_iff.mp H; obtain ⟨t328, A620, H⟩ := H; replace H : (if ((rd_T48 t311 x113_4).f2) = t328 then (if x113_4 < (t312.length : Int) then (if (rd t312 x113_4) = x113_4 then (stanzalaw10_CellsAlone.l2 k4 t300 t301 t304 t312 t317 t311 (t311.length : Int) (wrap64 (x113_4 + 1))) else (some false)) else (none)) else (some false)) = some r := H; have A62 := zA.mk A620; clear A620; by_cases c63 : ((rd_T48 t311 x113_4).f2) = t328
     rotate_left
     ·rw [if_neg c63] at H
      have c63b0 : (((rd_T48 t311 x113_4).f2) == t328) = false := beq_eq_false_iff_ne.mpr c63
      have c63b1 : (((rd_T48 t311 x113_4).f2) != t328) = true := bne_iff_ne.mpr c63
      exact absurd ((Option.some.inj H).trans hrt_.out) (by decide)
     rw [if_pos c63] at H; have c63b0 : (((rd_T48 t311 x113_4).f2) == t328) = true := beq_iff_eq.mpr c63
     have c63b1 : (((rd_T48 t311 x113_4).f2) != t328) = false := bne_eq_false_iff_eq.mpr c63
     clear c63; by_cases c64 : x113_4 < (t312.length : Int)
     rotate_left
     ·rw [if_neg c64] at H
      exact absurd H (by simp)
     rw [if_pos c64] at H; have c64b0 : decide (x113_4 < (t312.length : Int)) = true := decide_eq_true c64
     (try simp only [hl12_2] at c64b0)
     clear c64; by_cases c65 : (rd t312 x113_4) = x113_4
     rotate_left
     ·rw [if_neg c65] at H
      have c65b0 : ((rd t312 x113_4) == x113_4) = false := beq_eq_false_iff_ne.mpr c65
      have c65b1 : ((rd t312 x113_4) != x113_4) = true := bne_iff_ne.mpr c65
      exact absurd ((Option.some.inj H).trans hrt_.out) (by decide)
     rw [if_pos c65] at H; have c65b0 : ((rd t312 x113_4) == x113_4) = true := beq_iff_eq.mpr c65
     have c65b1 : ((rd t312 x113_4) != x113_4) = false := bne_eq_false_iff_eq.mpr c65
     clear c65; have H' := zA.mk H
     clear H; have p323 : 0 ≤ (x113_4 : Int) := aD
     have q323 : x113_4 < (t311.length : Int) := aD
     obtain ⟨ad323, e323, hx323_0, hx323_1, hx323_2, hx323_3⟩ := at_T48 (Kd.zI HO_111.out).2.2 x113_4 p323 q323; cases e323
     replace p323 := eq_true p323; replace q323 := eq_true q323; try go_wp2_with (first | ((with_reducible refine gate_dst (N := 19) rfl ?_); (try (refine gate_guard (by rfl) ?_; dsimp only)); refine box_event ?hg (N := 19) ?hd (cs := #[.int .i64 0, .int .i64 0, .int .i64 0, .int .u8 0]) (t := 48) ?hr ?_; (case hd => rfl); (case hg => rfl); (case hr => first | (go_simp; done) | (go_simp; rfl)); intro gb324 hg w66 hbox hb; have n0_ := zA.mk (Kd.zJ (aR HO_10) hb); have n1_ := zA.mk (Kd.zJ (aR HO_11) hb); have n2_ := zA.mk (Kd.zJ (aR HO_15) hb); have n3_ := zA.mk (Kd.zJ (Kd.R_elderB (aR HO_16) gb324 (Nat.le_of_eq hg.symm)) hb); have n4_ := zA.mk (Kd.zJ (Kd.R_elderB (aR HO_111) gb324 (Nat.le_of_eq hg.symm)) hb); have n5_ := zA.mk (blk_below (g := gb299) (o := ob299) (aB BK299) hb); have n6_ := zA.mk (blk_below (g := gb300) (o := ob300) (aB BK300) hb); have n7_ := zA.mk (below_step (aL HB) hb); have n8_ := zA.mk (hbox); have n9_ := zA.mk ((by rw [hg]; exact (below_size (aL HB)) : w.heap.size ≤ gb324)); have n10_ := zA.mk ((by rw [hg]; exact (below_size (aL HB)) : w.heap.size ≤ gb324)); have n11_ := zA.mk ((by rw [hg]; exact Nat.ne_of_lt (blk_lt (g := gb299) (o := ob299) (aB BK299)) : gb299 ≠ gb324)); have n12_ := zA.mk ((by rw [hg]; exact Nat.ne_of_gt (blk_lt (g := gb299) (o := ob299) (aB BK299)) : gb324 ≠ gb299)); have n13_ := zA.mk ((by rw [hg]; exact Nat.ne_of_lt (blk_lt (g := gb300) (o := ob300) (aB BK300)) : gb300 ≠ gb324)); have n14_ := zA.mk ((by rw [hg]; exact Nat.ne_of_gt (blk_lt (g := gb300) (o := ob300) (aB BK300)) : gb324 ≠ gb300)); clear HO_10; clear HO_11; clear HO_15; clear HO_16; clear HO_111; clear BK299; clear BK300; clear HB; have HO_10 := n0_; have HO_11 := n1_; have HO_15 := n2_; have HO_16 := n3_; have HO_111 := n4_; have BK299 := n5_; have BK300 := n6_; have HB := n7_; have BK324 := n8_; have GW324 := n9_; have GE324 := n10_; have NB299_324 := n11_; have NB324_299 := n12_; have NB300_324 := n13_; have NB324_300 := n14_; clear n0_ n1_ n2_ n3_ n4_ n5_ n6_ n7_ n8_ n9_ n10_ n11_ n12_ n13_ n14_; clear hb hbox hg; have hnb67 := NB324_299.out; have hnc67 := NB299_324.out; have hnb68 := NB324_300.out; have hnc68 := NB300_324.out; obtain ⟨hcz69_0, hcz69_1, hcz69_2, hcz69_3, hfz69_0, hfz69_1, hfz69_2, hfz69_3⟩ := aC4 BK324) | ((with_reducible refine gate_store (t := 48) (p := 19) rfl ?_); refine store_event (t := 48) (p := 19) (v := ?vo_w70) (w1 := ((((w66.setCell ⟨gb324, 0, none⟩ (.int .i64 ((rd_T48 t311 x113_4).f0))).setCell ⟨gb324, 1, none⟩ (.int .i64 ((rd_T48 t311 x113_4).f1))).setCell ⟨gb324, 2, none⟩ (.int .i64 ((rd_T48 t311 x113_4).f2))).setCell ⟨gb324, 3, none⟩ (.int .u8 ((rd_T48 t311 x113_4).f3)))) ?hg ?ho ?hn ?hr ?_; (case ho => rfl); (case hg => rfl); (case hn => rfl); (case hr => first | (go_simp; done) | (go_simp; rfl)); intro w70 hw; have n0_ : zA (Kd.R (Kd.int .u8) 5 w70 w.heap.size (fun k_ => k_ ≠ gb299 ∧ k_ ≠ gb300) (.slice Ao23 t301.length co23) t301) := ⟨(by rw [hw]; exact (by (with_reducible repeat (first | apply Kd.zB | apply Kd.zC | apply Kd.zD)); exact Kd.zN (Kd.zK (p := ⟨gb324, 3, none⟩) (Kd.zK (p := ⟨gb324, 2, none⟩) (Kd.zK (p := ⟨gb324, 1, none⟩) (Kd.zK (p := ⟨gb324, 0, none⟩) (Kd.zO HO_10.out BK324.out (by decide)) (fun _ hk => hk.2) (.int .i64 ((rd_T48 t311 x113_4).f0))) (fun _ hk => hk.2) (.int .i64 ((rd_T48 t311 x113_4).f1))) (fun _ hk => hk.2) (.int .i64 ((rd_T48 t311 x113_4).f2))) (fun _ hk => hk.2) (.int .u8 ((rd_T48 t311 x113_4).f3))) (fun _ hk => ⟨hk.1.1, hk.1.2⟩)))⟩; have n1_ : zA (Kd.R k50 50 w70 w.heap.size (fun k_ => k_ ≠ gb299 ∧ k_ ≠ gb300) (.slice Ao25 t304.length co25) t304) := ⟨(by rw [hw]; exact (by (with_reducible repeat (first | apply Kd.zB | apply Kd.zC | apply Kd.zD)); exact Kd.zN (Kd.zK (p := ⟨gb324, 3, none⟩) (Kd.zK (p := ⟨gb324, 2, none⟩) (Kd.zK (p := ⟨gb324, 1, none⟩) (Kd.zK (p := ⟨gb324, 0, none⟩) (Kd.zO HO_11.out BK324.out (by decide)) (fun _ hk => hk.2) (.int .i64 ((rd_T48 t311 x113_4).f0))) (fun _ hk => hk.2) (.int .i64 ((rd_T48 t311 x113_4).f1))) (fun _ hk => hk.2) (.int .i64 ((rd_T48 t311 x113_4).f2))) (fun _ hk => hk.2) (.int .u8 ((rd_T48 t311 x113_4).f3))) (fun _ hk => ⟨hk.1.1, hk.1.2⟩)))⟩; have n2_ : zA (Kd.R (Kd.int .i64) 3 w70 w.heap.size (fun k_ => k_ ≠ gb299 ∧ k_ ≠ gb300) v315 t312) := ⟨(by rw [hw]; exact (by (with_reducible repeat (first | apply Kd.zB | apply Kd.zC | apply Kd.zD)); exact Kd.zN (Kd.zK (p := ⟨gb324, 3, none⟩) (Kd.zK (p := ⟨gb324, 2, none⟩) (Kd.zK (p := ⟨gb324, 1, none⟩) (Kd.zK (p := ⟨gb324, 0, none⟩) (Kd.zO HO_15.out BK324.out (by decide)) (fun _ hk => hk.2) (.int .i64 ((rd_T48 t311 x113_4).f0))) (fun _ hk => hk.2) (.int .i64 ((rd_T48 t311 x113_4).f1))) (fun _ hk => hk.2) (.int .i64 ((rd_T48 t311 x113_4).f2))) (fun _ hk => hk.2) (.int .u8 ((rd_T48 t311 x113_4).f3))) (fun _ hk => ⟨hk.1.1, hk.1.2⟩)))⟩; have n3_ : zA (Kd.R k48 48 w70 w.heap.size (fun k_ => some k_ ≠ (.slice (some ad323) t311.length co55 : Value).ownBlock ∧ k_ ≠ gb299 ∧ k_ ≠ gb300 ∧ k_ ≠ gb324) v319 t317) := ⟨(by rw [hw]; exact (by (with_reducible repeat (first | apply Kd.zB | apply Kd.zC | apply Kd.zD)); exact Kd.zN (Kd.zK (p := ⟨gb324, 3, none⟩) (Kd.zK (p := ⟨gb324, 2, none⟩) (Kd.zK (p := ⟨gb324, 1, none⟩) (Kd.zK (p := ⟨gb324, 0, none⟩) (Kd.zN HO_16.out (fun k_ hk => (⟨hk, hk.2⟩ : _ ∧ k_ ≠ gb324))) (fun _ hk => hk.2) (.int .i64 ((rd_T48 t311 x113_4).f0))) (fun _ hk => hk.2) (.int .i64 ((rd_T48 t311 x113_4).f1))) (fun _ hk => hk.2) (.int .i64 ((rd_T48 t311 x113_4).f2))) (fun _ hk => hk.2) (.int .u8 ((rd_T48 t311 x113_4).f3))) (fun _ hk => ⟨hk.1.1.1, ⟨hk.1.1.2.1, ⟨hk.1.1.2.2, hk.1.2⟩⟩⟩)))⟩; have n4_ : zA (Kd.R k48 48 w70 w.heap.size (fun k_ => some k_ ≠ (v319 : Value).ownBlock ∧ k_ ≠ gb299 ∧ k_ ≠ gb300 ∧ k_ ≠ gb324) (.slice (some ad323) t311.length co55) t311) := ⟨(by rw [hw]; exact (by (with_reducible repeat (first | apply Kd.zB | apply Kd.zC | apply Kd.zD)); exact Kd.zN (Kd.zK (p := ⟨gb324, 3, none⟩) (Kd.zK (p := ⟨gb324, 2, none⟩) (Kd.zK (p := ⟨gb324, 1, none⟩) (Kd.zK (p := ⟨gb324, 0, none⟩) (Kd.zN HO_111.out (fun k_ hk => (⟨hk, hk.2⟩ : _ ∧ k_ ≠ gb324))) (fun _ hk => hk.2) (.int .i64 ((rd_T48 t311 x113_4).f0))) (fun _ hk => hk.2) (.int .i64 ((rd_T48 t311 x113_4).f1))) (fun _ hk => hk.2) (.int .i64 ((rd_T48 t311 x113_4).f2))) (fun _ hk => hk.2) (.int .u8 ((rd_T48 t311 x113_4).f3))) (fun _ hk => ⟨hk.1.1.1, ⟨hk.1.1.2.1, ⟨hk.1.1.2.2, hk.1.2⟩⟩⟩)))⟩; have n5_ : zA (w70.heap[gb299]? = some (ob299)) := ⟨(by rw [hw]; exact (by (with_reducible repeat (first | refine blk_drewN ?_ _ | refine blk_drew ?_ | refine blk_alloc ?_ _)); refine blk_farO ?_ NB299_324.out _; (with_reducible repeat (first | refine blk_drewN ?_ _ | refine blk_drew ?_ | refine blk_alloc ?_ _)); refine blk_farO ?_ NB299_324.out _; (with_reducible repeat (first | refine blk_drewN ?_ _ | refine blk_drew ?_ | refine blk_alloc ?_ _)); refine blk_farO ?_ NB299_324.out _; (with_reducible repeat (first | refine blk_drewN ?_ _ | refine blk_drew ?_ | refine blk_alloc ?_ _)); refine blk_farO ?_ NB299_324.out _; (with_reducible repeat (first | refine blk_drewN ?_ _ | refine blk_drew ?_ | refine blk_alloc ?_ _)); exact BK299.out))⟩; have n6_ : zA (w70.heap[gb300]? = some (ob300)) := ⟨(by rw [hw]; exact (by (with_reducible repeat (first | refine blk_drewN ?_ _ | refine blk_drew ?_ | refine blk_alloc ?_ _)); refine blk_farO ?_ NB300_324.out _; (with_reducible repeat (first | refine blk_drewN ?_ _ | refine blk_drew ?_ | refine blk_alloc ?_ _)); refine blk_farO ?_ NB300_324.out _; (with_reducible repeat (first | refine blk_drewN ?_ _ | refine blk_drew ?_ | refine blk_alloc ?_ _)); refine blk_farO ?_ NB300_324.out _; (with_reducible repeat (first | refine blk_drewN ?_ _ | refine blk_drew ?_ | refine blk_alloc ?_ _)); refine blk_farO ?_ NB300_324.out _; (with_reducible repeat (first | refine blk_drewN ?_ _ | refine blk_drew ?_ | refine blk_alloc ?_ _)); exact BK300.out))⟩; have n7_ : zA (w70.heap[gb324]? = some (.cells #[.int .i64 ((rd_T48 t311 x113_4).f0), .int .i64 ((rd_T48 t311 x113_4).f1), .int .i64 ((rd_T48 t311 x113_4).f2), .int .u8 ((rd_T48 t311 x113_4).f3)] 48 (0, 0))) := ⟨(by rw [hw]; exact (by (with_reducible repeat (first | refine blk_drewN ?_ _ | refine blk_drew ?_ | refine blk_alloc ?_ _)); refine blk_put (cs := #[.int .i64 ((rd_T48 t311 x113_4).f0), .int .i64 ((rd_T48 t311 x113_4).f1), .int .i64 ((rd_T48 t311 x113_4).f2), .int .u8 0]) ?_ 3 _ rfl; (with_reducible repeat (first | refine blk_drewN ?_ _ | refine blk_drew ?_ | refine blk_alloc ?_ _)); refine blk_put (cs := #[.int .i64 ((rd_T48 t311 x113_4).f0), .int .i64 ((rd_T48 t311 x113_4).f1), .int .i64 0, .int .u8 0]) ?_ 2 _ rfl; (with_reducible repeat (first | refine blk_drewN ?_ _ | refine blk_drew ?_ | refine blk_alloc ?_ _)); refine blk_put (cs := #[.int .i64 ((rd_T48 t311 x113_4).f0), .int .i64 0, .int .i64 0, .int .u8 0]) ?_ 1 _ rfl; (with_reducible repeat (first | refine blk_drewN ?_ _ | refine blk_drew ?_ | refine blk_alloc ?_ _)); refine blk_put (cs := #[.int .i64 0, .int .i64 0, .int .i64 0, .int .u8 0]) ?_ 0 _ rfl; (with_reducible repeat (first | refine blk_drewN ?_ _ | refine blk_drew ?_ | refine blk_alloc ?_ _)); exact BK324.out))⟩; have n8_ : zA (Below w.heap.size w w70) := ⟨(by rw [hw]; exact (aL HB))⟩; clear hw; clear HO_10; clear HO_11; clear HO_15; clear HO_16; clear HO_111; clear BK299; clear BK300; clear BK324; clear HB; have HO_10 := n0_; have HO_11 := n1_; have HO_15 := n2_; have HO_16 := n3_; have HO_111 := n4_; have BK299 := n5_; have BK300 := n6_; have BK324 := n7_; have HB := n8_; clear n0_ n1_ n2_ n3_ n4_ n5_ n6_ n7_ n8_))
     have n0_ := zA.mk (Kd.zD HO_10.out); have n1_ := zA.mk (Kd.zD HO_11.out); have n2_ := zA.mk (Kd.zD HO_15.out); have n3_ := zA.mk (Kd.zD HO_16.out); have n4_ := zA.mk (Kd.zD HO_111.out); have n5_ := zA.mk (blk_drew BK299.out); have n6_ := zA.mk (blk_drew BK300.out); have n7_ := zA.mk (blk_drew BK324.out); have n8_ := zA.mk (below_drew1 HB.out); clear HO_10; clear HO_11; clear HO_15; clear HO_16; clear HO_111; clear BK299; clear BK300; clear BK324; clear HB; have HO_10 := n0_; have HO_11 := n1_; have HO_15 := n2_; have HO_16 := n3_; have HO_111 := n4_; have BK299 := n5_; have BK300 := n6_; have BK324 := n7_; have HB := n8_; clear n0_ n1_ n2_ n3_ n4_ n5_ n6_ n7_ n8_; have p325 : 0 ≤ (x113_4 : Int) := aD
     have q325 : x113_4 < (t304.length : Int) := aD
     obtain ⟨ad325, e325, hx325_0, hx325_1, hx325_2⟩ := at_T50 (Kd.zI HO_11.out).2.2 x113_4 p325 q325; cases e325
     replace p325 := eq_true p325; replace q325 := eq_true q325; have p326 : 0 ≤ (x113_4 : Int) := aD
     have q326 : x113_4 < (t304.length : Int) := aD
     obtain ⟨ad326, e326, hx326_0, hx326_1, hx326_2⟩ := at_T50 (Kd.zI HO_11.out).2.2 x113_4 p326 q326; obtain rfl : ad325 = ad326 := (by injection e326)
     replace p326 := eq_true p326; replace q326 := eq_true q326; have p327 : 0 ≤ (x113_4 : Int) := aD
     have q327 : x113_4 < (t304.length : Int) := aD
     obtain ⟨ad327, e327, hx327_0, hx327_1, hx327_2⟩ := at_T50 (Kd.zI HO_11.out).2.2 x113_4 p327 q327; obtain rfl : ad325 = ad327 := (by injection e327)
     replace p327 := eq_true p327; replace q327 := eq_true q327; obtain ⟨Ao72, co72, eo72⟩ := Kd.zL HO_15.out; (first | subst eo72 | (injection eo72 with f1_ f2_ f3_; have f4_ := f1_.symm; have f5_ := f3_.symm; clear f1_ f2_ f3_; subst f4_; subst f5_))
     have p329 : 0 ≤ (x113_4 : Int) := aD
     have q329 : x113_4 < (t312.length : Int) := aD
     obtain ⟨ad329, e329, hx329_0⟩ := Kd.at_int (Kd.zI HO_15.out).2.2 x113_4 p329 q329; cases e329
     replace p329 := eq_true p329; replace q329 := eq_true q329; refine start_ (n := 38) (S := fun w' => w'.cell? ⟨gb324, 0, none⟩ = some (.int .i64 ((rd_T48 t311 x113_4).f0)) ∧ w'.cell? ⟨gb324, 1, none⟩ = some (.int .i64 ((rd_T48 t311 x113_4).f1)) ∧ w'.cell? ⟨gb324, 2, none⟩ = some (.int .i64 ((rd_T48 t311 x113_4).f2)) ∧ w'.cell? ⟨gb324, 3, none⟩ = some (.int .u8 ((rd_T48 t311 x113_4).f3)) ∧ w'.cell? (ad325.add ((x113_4).toNat * 3)) = some (.int .i32 ((rd_T50 t304 x113_4).f0)) ∧ w'.cell? ⟨(ad325.add ((x113_4).toNat * 3)).block, (ad325.add ((x113_4).toNat * 3)).off + 1, none⟩ = some (.int .i64 ((rd_T50 t304 x113_4).f1)) ∧ w'.cell? ⟨(ad325.add ((x113_4).toNat * 3)).block, (ad325.add ((x113_4).toNat * 3)).off + 2, none⟩ = some (.int .i64 ((rd_T50 t304 x113_4).f2)) ∧ w'.cell? (ad325.add ((x113_4).toNat * 3)) = some (.int .i32 ((rd_T50 t304 x113_4).f0)) ∧ w'.cell? ⟨(ad325.add ((x113_4).toNat * 3)).block, (ad325.add ((x113_4).toNat * 3)).off + 1, none⟩ = some (.int .i64 ((rd_T50 t304 x113_4).f1)) ∧ w'.cell? ⟨(ad325.add ((x113_4).toNat * 3)).block, (ad325.add ((x113_4).toNat * 3)).off + 2, none⟩ = some (.int .i64 ((rd_T50 t304 x113_4).f2)) ∧ w'.cell? (ad325.add ((x113_4).toNat * 3)) = some (.int .i32 ((rd_T50 t304 x113_4).f0)) ∧ w'.cell? ⟨(ad325.add ((x113_4).toNat * 3)).block, (ad325.add ((x113_4).toNat * 3)).off + 1, none⟩ = some (.int .i64 ((rd_T50 t304 x113_4).f1)) ∧ w'.cell? ⟨(ad325.add ((x113_4).toNat * 3)).block, (ad325.add ((x113_4).toNat * 3)).off + 2, none⟩ = some (.int .i64 ((rd_T50 t304 x113_4).f2)) ∧ w'.cell? (ad329.add (x113_4).toNat) = some (.int .i64 (rd t312 x113_4))) (ds := []) #[false, false, false, false, false, false, false, false, false, false, false, false, false, false, false, false, false, false, false, false, false, false, false, false, false, false, false, false, false, false, false, false, false, false, false, false, false, false] (by kernel_rfl) rfl rfl ⟨(blk_cell BK324.out 0).trans rfl, (blk_cell BK324.out 1).trans rfl, (blk_cell BK324.out 2).trans rfl, (blk_cell BK324.out 3).trans rfl, hx325_0, hx325_1, hx325_2, hx326_0, hx326_1, hx326_2, hx327_0, hx327_1, hx327_2, hx329_0⟩ (fun hHeld => ?_); refine with_tabW stanzalaw10_CellsAlone.tab30 stanzalaw10_CellsAlone.bits30 (fun HT_ HW_ => ?_)
     generalize w70.drew = w71 at HO_10 HO_11 HO_15 HO_16 HO_111 BK299 BK300 BK324 HB hx325_0 hx325_1 hx325_2 hx326_0 hx326_1 hx326_2 hx327_0 hx327_1 hx327_2 hx329_0 hHeld ⊢
     refine aP 0 (some 118) (tf_ 1 38) HT_ ?_
     refine aP 2 (some 120) #[true, false, true, false, false, false, false, false, false, false, false, false, false, false, false, false, false, false, false, false, false, false, false, false, false, false, false, false, false, false, false, false, false, false, false, false, false, false] HT_ ?_
     refine aP 3 (some 121) #[true, false, true, true, false, false, false, false, false, false, false, false, false, false, false, false, false, false, false, false, false, false, false, false, false, false, false, false, false, false, false, false, false, false, false, false, false, false] HT_ ?_
     refine aP 4 (some 122) #[true, false, true, true, true, false, false, false, false, false, false, false, false, false, false, false, false, false, false, false, false, false, false, false, false, false, false, false, false, false, false, false, false, false, false, false, false, false] HT_ ?_
     refine aP 5 (some 123) #[true, false, true, true, true, true, false, false, false, false, false, false, false, false, false, false, false, false, false, false, false, false, false, false, false, false, false, false, false, false, false, false, false, false, false, false, false, false] HT_ ?_
     refine take_ (i := 1) (N := some 119) (v := ?_) (a' := ?_) (tf_ 6 38) rfl rfl (take_ofW HT_.out HW_.out (by kernel_rfl)) (fun _ _ _ h => h) (Or.inl ⟨by rfl, ?_⟩) hHeld ?_ ?_
     rotate_left
     ·rintro w' ⟨s0, s1, s2, s3, s4, s5, s6, s7, s8, s9, s10, s11, s12, s13⟩
      go_simp
      with_reducible rfl
     rotate_left
     ·simp only [Act.put, sA_, sB_, sC_, i64_w, i32_w]
      rfl
     refine take_ (i := 6) (N := some 124) (v := ?_) (a' := ?_) (tf_ 7 38) rfl rfl (take_ofW HT_.out HW_.out (by kernel_rfl)) (fun _ _ _ h => h) (Or.inl ⟨by rfl, ?_⟩) hHeld ?_ ?_
     rotate_left
     ·rintro w' ⟨s0, s1, s2, s3, s4, s5, s6, s7, s8, s9, s10, s11, s12, s13⟩
      go_simp
      with_reducible rfl
     rotate_left
     ·simp only [Act.put, sA_, sB_, sC_, i64_w, i32_w]
      rfl
     refine aP 7 (some 125) (tf_ 8 38) HT_ ?_
     refine aP 8 (some 126) (tf_ 9 38) HT_ ?_
     refine aP 9 (some 127) (tf_ 10 38) HT_ ?_
     refine aP 11 (some 129) #[true, true, true, true, true, true, true, true, true, true, false, true, false, false, false, false, false, false, false, false, false, false, false, false, false, false, false, false, false, false, false, false, false, false, false, false, false, false] HT_ ?_
     refine aP 12 (some 130) #[true, true, true, true, true, true, true, true, true, true, false, true, true, false, false, false, false, false, false, false, false, false, false, false, false, false, false, false, false, false, false, false, false, false, false, false, false, false] HT_ ?_
     refine aP 13 (some 131) #[true, true, true, true, true, true, true, true, true, true, false, true, true, true, false, false, false, false, false, false, false, false, false, false, false, false, false, false, false, false, false, false, false, false, false, false, false, false] HT_ ?_
     refine aP 14 (some 132) #[true, true, true, true, true, true, true, true, true, true, false, true, true, true, true, false, false, false, false, false, false, false, false, false, false, false, false, false, false, false, false, false, false, false, false, false, false, false] HT_ ?_
     refine take_ (i := 10) (N := some 128) (v := ?_) (a' := ?_) (tf_ 15 38) rfl rfl (take_ofW HT_.out HW_.out (by kernel_rfl)) (fun _ _ _ h => h) (Or.inl ⟨by rfl, ?_⟩) hHeld ?_ ?_
     rotate_left
     ·rintro w' ⟨s0, s1, s2, s3, s4, s5, s6, s7, s8, s9, s10, s11, s12, s13⟩
      go_simp
      with_reducible rfl
     rotate_left
     ·simp only [Act.put, sA_, sB_, sC_, i64_w, i32_w]
      rfl
     refine take_ (i := 15) (N := some 133) (v := ?_) (a' := ?_) (tf_ 16 38) rfl rfl (take_ofW HT_.out HW_.out (by kernel_rfl)) (fun _ _ _ h => h) (Or.inl ⟨by rfl, ?_⟩) hHeld ?_ ?_
     rotate_left
     ·rintro w' ⟨s0, s1, s2, s3, s4, s5, s6, s7, s8, s9, s10, s11, s12, s13⟩
      go_simp
      with_reducible rfl
     rotate_left
     ·simp only [Act.put, sA_, sB_, sC_, i64_w, i32_w]
      rfl
     refine aP 16 (some 134) (tf_ 17 38) HT_ ?_
     refine aP 17 (some 135) (tf_ 18 38) HT_ ?_
     refine aP 18 (some 136) (tf_ 19 38) HT_ ?_
     refine aP 19 (some 137) (tf_ 20 38) HT_ ?_
     refine aP 21 (some 139) #[true, true, true, true, true, true, true, true, true, true, true, true, true, true, true, true, true, true, true, true, false, true, false, false, false, false, false, false, false, false, false, false, false, false, false, false, false, false] HT_ ?_
     refine aP 22 (some 140) #[true, true, true, true, true, true, true, true, true, true, true, true, true, true, true, true, true, true, true, true, false, true, true, false, false, false, false, false, false, false, false, false, false, false, false, false, false, false] HT_ ?_
     refine aP 23 (some 141) #[true, true, true, true, true, true, true, true, true, true, true, true, true, true, true, true, true, true, true, true, false, true, true, true, false, false, false, false, false, false, false, false, false, false, false, false, false, false] HT_ ?_
     refine aP 24 (some 142) #[true, true, true, true, true, true, true, true, true, true, true, true, true, true, true, true, true, true, true, true, false, true, true, true, true, false, false, false, false, false, false, false, false, false, false, false, false, false] HT_ ?_
     refine aP 25 (some 143) #[true, true, true, true, true, true, true, true, true, true, true, true, true, true, true, true, true, true, true, true, false, true, true, true, true, true, false, false, false, false, false, false, false, false, false, false, false, false] HT_ ?_
     refine take_ (i := 20) (N := some 138) (v := ?_) (a' := ?_) (tf_ 26 38) rfl rfl (take_ofW HT_.out HW_.out (by kernel_rfl)) (fun _ _ _ h => h) (Or.inl ⟨by rfl, ?_⟩) hHeld ?_ ?_
     rotate_left
     ·rintro w' ⟨s0, s1, s2, s3, s4, s5, s6, s7, s8, s9, s10, s11, s12, s13⟩
      go_simp
      with_reducible rfl
     rotate_left
     ·simp only [Act.put, sA_, sB_, sC_, i64_w, i32_w]
      rfl
     refine take_ (i := 26) (N := some 144) (v := ?_) (a' := ?_) (tf_ 27 38) rfl rfl (take_ofW HT_.out HW_.out (by kernel_rfl)) (fun _ _ _ h => h) (Or.inl ⟨by rfl, ?_⟩) hHeld ?_ ?_
     rotate_left
     ·rintro w' ⟨s0, s1, s2, s3, s4, s5, s6, s7, s8, s9, s10, s11, s12, s13⟩
      go_simp
      with_reducible rfl
     rotate_left
     ·simp only [Act.put, sA_, sB_, sC_, i64_w, i32_w]
      rfl
     refine one_ (i := 27) (N := some 145) #[true, true, true, true, true, true, true, true, true, true, true, true, true, true, true, true, true, true, true, true, true, true, true, true, true, true, true, true, false, false, false, false, false, false, false, false, false, false] rfl rfl (one_of HT_.out (by kernel_rfl)) (by decide) (fun K hK => ?_)
     refine goes_ Try.func22 (by kernel_rfl) rfl #[.pointer (some ⟨gb299, 0, none⟩), .int .i32 ((rd_T50 t304 x113_4).f0)] (by rfl) rfl rfl aT ?_
     with_reducible refine (prop_Table_Of.calls (.pointer (some ⟨gb299, 0, none⟩)) t300 ((rd_T50 t304 x113_4).f0) t328 _ ?side1 A62.out).mono ?_
     (case side1 => exact TabO.at HTt300.out (aB BK299) (aB BK300))
     rintro e w' ⟨rfl, ⟨nd, rfl⟩⟩
     refine ⟨_, rfl, ?_⟩
     refine hK.out _ _ ⟨(blk_cell BK324.out 0).trans rfl, (blk_cell BK324.out 1).trans rfl, (blk_cell BK324.out 2).trans rfl, (blk_cell BK324.out 3).trans rfl, hHeld.2.2.2.2.1, hHeld.2.2.2.2.2.1, hHeld.2.2.2.2.2.2.1, hHeld.2.2.2.2.2.2.2.1, hHeld.2.2.2.2.2.2.2.2.1, hHeld.2.2.2.2.2.2.2.2.2.1, hHeld.2.2.2.2.2.2.2.2.2.2.1, hHeld.2.2.2.2.2.2.2.2.2.2.2.1, hHeld.2.2.2.2.2.2.2.2.2.2.2.2.1, hHeld.2.2.2.2.2.2.2.2.2.2.2.2.2⟩ (fun hHeld => ?_)
     clear hK K; refine norm_ (a' := ?_) ?_ ?_
     rotate_left
     ·show Act.put _ (some 145) _ = _
      simp only [Act.put, sA_, sB_, sC_, i64_w, i32_w]; rfl
     refine aP 28 (some 146) (tf_ 29 38) HT_ ?_
     refine aP 29 (some 147) (tf_ 30 38) HT_ ?_
     refine aP 30 (some 148) (tf_ 31 38) HT_ ?_
     refine aP 31 (some 149) (tf_ 32 38) HT_ ?_
     refine aP 32 (some 150) (tf_ 33 38) HT_ ?_
     refine aP 33 (some 151) (tf_ 34 38) HT_ ?_
     refine aP 35 (some 153) #[true, true, true, true, true, true, true, true, true, true, true, true, true, true, true, true, true, true, true, true, true, true, true, true, true, true, true, true, true, true, true, true, true, true, false, true, false, false] HT_ ?_
     refine take_ (i := 34) (N := some 152) (v := ?_) (a' := ?_) (tf_ 36 38) rfl rfl (take_ofW HT_.out HW_.out (by kernel_rfl)) (fun _ _ _ h => h) (Or.inl ⟨by rfl, ?_⟩) hHeld ?_ ?_
     rotate_left
     ·rintro w' ⟨s0, s1, s2, s3, s4, s5, s6, s7, s8, s9, s10, s11, s12, s13⟩
      go_simp
      with_reducible rfl
     rotate_left
     ·simp only [Act.put, sA_, sB_, sC_, i64_w, i32_w]
      rfl
     refine aP 36 (some 154) (tf_ 37 38) HT_ ?_
     refine aP 37 (some 155) #[true, true, true, true, true, true, true, true, true, true, true, true, true, true, true, true, true, true, true, true, true, true, true, true, true, true, true, true, true, true, true, true, true, true, true, true, true, true] HT_ ?_
     refine done_ (done_of HT_.out (by kernel_rfl)) ?_
     try go_wp2
     go_roundg k4
     case measure => have := HK1.out; have := HK2.out; have := HJ36.out; have := HK4.out; omega
     case rel => exact ⟨(wrap64 (x113_4 + 1)), aZ, H', ⟨by have := HK1.out; have := HK2.out; have := HJ36.out; have := HK4.out; omega⟩, ⟨by (try simp only [hl12_2]); (with_reducible repeat (first | apply Kd.zB | apply Kd.zC | apply Kd.zD)); exact HO_10.out⟩, ⟨by (try simp only [hl12_2]); (with_reducible repeat (first | apply Kd.zB | apply Kd.zC | apply Kd.zD)); exact HO_11.out⟩, ⟨by (try simp only [hl12_2]); (with_reducible repeat (first | apply Kd.zB | apply Kd.zC | apply Kd.zD)); exact HO_15.out⟩, ⟨by (try simp only [hl12_2]); (with_reducible repeat (first | apply Kd.zB | apply Kd.zC | apply Kd.zD)); exact Kd.zN HO_16.out (fun _ hk => ⟨hk.1, ⟨hk.2.1, hk.2.2.1⟩⟩)⟩, ⟨by (try simp only [hl12_2]); (with_reducible repeat (first | apply Kd.zB | apply Kd.zC | apply Kd.zD)); exact Kd.zN HO_111.out (fun _ hk => ⟨hk.1, ⟨hk.2.1, hk.2.2.1⟩⟩)⟩, ⟨by (try simp only [hl12_2]); (with_reducible repeat (first | refine blk_drewN ?_ _ | refine blk_drew ?_ | refine blk_alloc ?_ _)); exact BK299.out⟩, ⟨by (try simp only [hl12_2]); (with_reducible repeat (first | refine blk_drewN ?_ _ | refine blk_drew ?_ | refine blk_alloc ?_ _)); exact BK300.out⟩, ⟨aL HB⟩⟩
def stanzalaw10_CellsAlone.Pure : Prop := ∀ (l0 : List Int) (l1 : List Int), (l0.length * 1 ≤ 140737488351232 ∧ ∀ y0 ∈ l0, (Lit.int .u8 y0).wf = true) → (l1.length * 1 ≤ 140737488351232 ∧ ∀ y0 ∈ l1, (Lit.int .u8 y0).wf = true) → ∃ k, stanzalaw10_CellsAlone.f k l0 l1 = some true
def stanzaref01_Of.l0 : Nat → List (S45) → Int → Int → Option (Int)
 | 0, _, _, _ => none
 | k + 1, x0, x1, x5 => if x5 < (x0.length : Int) then (if 0 ≤ x5 then (if ((rd_T45 x0 x5).f0) ≤ x1 then (if x1 ≤ ((rd_T45 x0 x5).f1) then (some ((rd_T45 x0 x5).f2)) else (stanzaref01_Of.l0 k x0 x1 (wrap64 (x5 + 1)))) else (stanzaref01_Of.l0 k x0 x1 (wrap64 (x5 + 1)))) else (none)) else (some 0)
def stanzaref01_Of.f (k : Nat) (l0 : List (S45)) (a1 : Int) : Option (Int) := stanzaref01_Of.l0 k l0 a1 0
theorem stanzaref01_Of.mono_l : ∀ k, (∀ y0 y1 y2, LeO (stanzaref01_Of.l0 k y0 y1 y2) (stanzaref01_Of.l0 (k + 1) y0 y1 y2))
 | 0 => fun _ _ _ r h => by simp [stanzaref01_Of.l0] at h
 | k + 1 => by
  have ih0 := stanzaref01_Of.mono_l k
  ·intro y0 y1 y2
   unfold stanzaref01_Of.l0
   repeat' (with_reducible first | exact ih0 _ _ _ | exact LeO.refl _ | exact LeO.none _ | refine LeO.ite ?_ ?_ | refine LeO.bind ?_ (fun _ => ?_))
theorem stanzaref01_Of.mono : ∀ a0 a1 k, LeO (stanzaref01_Of.f k a0 a1) (stanzaref01_Of.f (k + 1) a0 a1) := by
 intro a0 a1 k
 have ih0 := stanzaref01_Of.mono_l k; unfold stanzaref01_Of.f
 repeat' (with_reducible first | exact ih0 _ _ _ | exact LeO.refl _ | exact LeO.none _ | refine LeO.ite ?_ ?_ | refine LeO.bind ?_ (fun _ => ?_))
set_option maxHeartbeats 8000000 in
set_option maxRecDepth 100000 in
theorem stanzaref01_Of.calls (k : Nat) (A0 : Option Addr) (c0 : Nat) (l0 : List (S45)) (a1 : Int) (r : Int) (w : World) (hr0 : Kd.C k45 w A0 l0.length l0) (hc0 : l0.length ≤ c0) (h : stanzaref01_Of.f k l0 a1 = some r) :
  Calls Try.prog 37 #[.slice A0 l0.length c0, .int .i32 a1] w fun e w' => e = .returned (.int .i64 r) ∧ Drawn0 w w' := by
 have HR0 := zA.mk hr0; have HC0 := zA.mk hc0; clear hr0 hc0; have H : (stanzaref01_Of.l0 k l0 a1 0) = some r := h
 clear h; have H' := zA.mk H
 clear H; go_enter Try.func37, Try.ntmps37
 go_wp2
 go_loopg [5] k (fun kq v5 w' => ∃ (x5_1 : Int), v5 = .int .i64 x5_1 ∧ zA (stanzaref01_Of.l0 kq l0 a1 x5_1 = some r) ∧ zA (kq ≤ k) ∧ Drawn0 w w')
 case atStart => exact ⟨(0), aZ, H', ⟨Nat.le_refl _⟩, by repeat (first | exact Drawn0.refl _ | apply Drawn0.step)⟩
 clear H'; obtain ⟨x5_1, rfl, HA, HK1, ⟨m1, rfl⟩⟩ := hrel; cases gk with
 | zero => exact absurd HA.out (by simp [stanzaref01_Of.l0])
 | succ k1 =>
  have H := HA.out; clear HA; simp only [stanzaref01_Of.l0] at H; by_cases c3 : x5_1 < (l0.length : Int)
  rotate_left
  ·rw [if_neg c3] at H
   have c3b0 : decide (x5_1 < (l0.length : Int)) = false := decide_eq_false c3
   clear c3; obtain rfl := Option.some.inj H
   go_wp2
   go_ret
   exact ⟨by first | rfl | (simp; done) | (simp [*]; done), by repeat (first | exact Drawn0.refl _ | apply Drawn0.step)⟩
  rw [if_pos c3] at H; have c3b0 : decide (x5_1 < (l0.length : Int)) = true := decide_eq_true c3
  clear c3; by_cases c4 : 0 ≤ x5_1
  rotate_left
  ·rw [if_neg c4] at H
   exact absurd H (by simp)
  rw [if_pos c4] at H; have c4b0 : decide (0 ≤ x5_1) = true := decide_eq_true c4
  clear c4; by_cases c5 : ((rd_T45 l0 x5_1).f0) ≤ a1
  rotate_left
  ·rw [if_neg c5] at H
   have c5b0 : decide (((rd_T45 l0 x5_1).f0) ≤ a1) = false := decide_eq_false c5
   clear c5; have H' := zA.mk H
   clear H; have p422 : 0 ≤ (x5_1 : Int) := aD
   have q422 : x5_1 < (l0.length : Int) := aD
   obtain ⟨ad422, e422, hx422_0, hx422_1, hx422_2⟩ := at_T45 HR0.out x5_1 p422 q422; cases e422
   replace p422 := eq_true p422; replace q422 := eq_true q422; go_wp2
   go_roundg k1
   case measure => have := HK1.out; omega
   case rel => exact ⟨(wrap64 (x5_1 + 1)), aZ, H', ⟨by have := HK1.out; omega⟩, by repeat (first | exact Drawn0.refl _ | apply Drawn0.step)⟩
  rw [if_pos c5] at H; have c5b0 : decide (((rd_T45 l0 x5_1).f0) ≤ a1) = true := decide_eq_true c5
  clear c5; by_cases c6 : a1 ≤ ((rd_T45 l0 x5_1).f1)
  rotate_left
  ·rw [if_neg c6] at H
   have c6b0 : decide (a1 ≤ ((rd_T45 l0 x5_1).f1)) = false := decide_eq_false c6
   clear c6; have H' := zA.mk H
   clear H; have p422 : 0 ≤ (x5_1 : Int) := aD
   have q422 : x5_1 < (l0.length : Int) := aD
   obtain ⟨ad422, e422, hx422_0, hx422_1, hx422_2⟩ := at_T45 HR0.out x5_1 p422 q422; cases e422
   replace p422 := eq_true p422; replace q422 := eq_true q422; have p423 : 0 ≤ (x5_1 : Int) := aD
   have q423 : x5_1 < (l0.length : Int) := aD
   obtain ⟨ad423, e423, hx423_0, hx423_1, hx423_2⟩ := at_T45 HR0.out x5_1 p423 q423; obtain rfl : ad422 = ad423 := (by injection e423)
   replace p423 := eq_true p423; replace q423 := eq_true q423; go_wp2
   go_roundg k1
   case measure => have := HK1.out; omega
   case rel => exact ⟨(wrap64 (x5_1 + 1)), aZ, H', ⟨by have := HK1.out; omega⟩, by repeat (first | exact Drawn0.refl _ | apply Drawn0.step)⟩
  rw [if_pos c6] at H; have c6b0 : decide (a1 ≤ ((rd_T45 l0 x5_1).f1)) = true := decide_eq_true c6
  clear c6; obtain rfl := Option.some.inj H
  have p422 : 0 ≤ (x5_1 : Int) := aD
  have q422 : x5_1 < (l0.length : Int) := aD
  obtain ⟨ad422, e422, hx422_0, hx422_1, hx422_2⟩ := at_T45 HR0.out x5_1 p422 q422; cases e422
  replace p422 := eq_true p422; replace q422 := eq_true q422; have p423 : 0 ≤ (x5_1 : Int) := aD
  have q423 : x5_1 < (l0.length : Int) := aD
  obtain ⟨ad423, e423, hx423_0, hx423_1, hx423_2⟩ := at_T45 HR0.out x5_1 p423 q423; obtain rfl : ad422 = ad423 := (by injection e423)
  replace p423 := eq_true p423; replace q423 := eq_true q423; have p424 : 0 ≤ (x5_1 : Int) := aD
  have q424 : x5_1 < (l0.length : Int) := aD
  obtain ⟨ad424, e424, hx424_0, hx424_1, hx424_2⟩ := at_T45 HR0.out x5_1 p424 q424; obtain rfl : ad422 = ad424 := (by injection e424)
  replace p424 := eq_true p424; replace q424 := eq_true q424; go_wp2
  go_ret
  exact ⟨by first | rfl | (simp; done) | (simp [*]; done), by repeat (first | exact Drawn0.refl _ | apply Drawn0.step)⟩
def h3_Opps.l0 : Nat → List Int → List Int → Int → Option (List Int)
 | 0, _, _, _ => none
 | k + 1, x0, x3, x4 => if x4 < (x0.length : Int) then (if 0 ≤ x4 then (if x3.length < 140737488355328 then (h3_Opps.l0 k x0 (x3 ++ [rd x0 x4]) (wrap64 (x4 + 1))) else (none)) else (none)) else (some x3)
def h3_Opps.f (k : Nat) (l0 : List Int) : Option (List Int) := h3_Opps.l0 k l0 ([] : List Int) 0
theorem h3_Opps.mono_l : ∀ k, (∀ y0 y1 y2, LeO (h3_Opps.l0 k y0 y1 y2) (h3_Opps.l0 (k + 1) y0 y1 y2))
 | 0 => fun _ _ _ r h => by simp [h3_Opps.l0] at h
 | k + 1 => by
  have ih0 := h3_Opps.mono_l k
  ·intro y0 y1 y2
   unfold h3_Opps.l0
   repeat' (with_reducible first | exact ih0 _ _ _ | exact LeO.refl _ | exact LeO.none _ | refine LeO.ite ?_ ?_ | refine LeO.bind ?_ (fun _ => ?_))
theorem h3_Opps.mono : ∀ a0 k, LeO (h3_Opps.f k a0) (h3_Opps.f (k + 1) a0) := by
 intro a0 k
 have ih0 := h3_Opps.mono_l k; unfold h3_Opps.f
 repeat' (with_reducible first | exact ih0 _ _ _ | exact LeO.refl _ | exact LeO.none _ | refine LeO.ite ?_ ?_ | refine LeO.bind ?_ (fun _ => ?_))
set_option maxHeartbeats 8000000 in
set_option maxRecDepth 100000 in
theorem h3_Opps.calls (k : Nat) (A0 : Option Addr) (c0 : Nat) (l0 : List Int) (r : List Int) (w : World) (hr0 : Kd.C (Kd.int .u8) w A0 l0.length l0) (hc0 : l0.length ≤ c0) (h : h3_Opps.f k l0 = some r) :
  Calls Try.prog 18 #[.slice A0 l0.length c0] w fun e w' => ∃ v0_ : Value, e = .returned (v0_) ∧ Kd.R (Kd.int .u8) 53 w' w.heap.size (fun _ => True) v0_ r ∧ Below w.heap.size w w' := by
 have HR0 := zA.mk hr0; have HC0 := zA.mk hc0; clear hr0 hc0; have HB := zA.mk (Below.refl w.heap.size w); have H : (h3_Opps.l0 k l0 ([] : List Int) 0) = some r := h
 clear h; have H' := zA.mk H
 clear H; go_enter Try.func18, Try.ntmps18
 go_wp2
 go_loopg [3, 4] k (fun kq v3 v4 w' => ∃ (x3_1 : List Int) (x4_1 : Int), v4 = .int .i64 x4_1 ∧ zA (h3_Opps.l0 kq l0 x3_1 x4_1 = some r) ∧ zA (kq ≤ k) ∧ zA (Kd.R (Kd.int .u8) 53 w' w.heap.size (fun _ => True) v3 x3_1) ∧ zA (Below w.heap.size w w'))
 case atStart => exact ⟨(([] : List Int)), (0), aZ, H', ⟨Nat.le_refl _⟩, ⟨by first | exact Kd.R_nil _ _ _ _ _ | exact Kd.N_nil _ _ _ _ _ | exact Kd.V_nil _ _ _ _ _ | exact Kd.Q_nil _ _ _ _ _ | exact Kd.S_nil _ _ _ _ _⟩, ⟨aL HB⟩⟩
 clear H'; obtain ⟨x3_1, x4_1, rfl, HA, HK1, HO_3, HB⟩ := hrel; cases gk with
 | zero => exact absurd HA.out (by simp [h3_Opps.l0])
 | succ k1 =>
  have H := HA.out; clear HA; simp only [h3_Opps.l0] at H; by_cases c2 : x4_1 < (l0.length : Int)
  rotate_left
  ·rw [if_neg c2] at H
   have c2b0 : decide (x4_1 < (l0.length : Int)) = false := decide_eq_false c2
   clear c2; obtain rfl := Option.some.inj H
   go_wp2
   go_ret
   exact ⟨_, aX, aR HO_3, aL HB⟩
  rw [if_pos c2] at H; have c2b0 : decide (x4_1 < (l0.length : Int)) = true := decide_eq_true c2
  clear c2; by_cases c3 : 0 ≤ x4_1
  rotate_left
  ·rw [if_neg c3] at H
   exact absurd H (by simp)
  rw [if_pos c3] at H; have c3b0 : decide (0 ≤ x4_1) = true := decide_eq_true c3
  clear c3; by_cases c4 : x3_1.length < 140737488355328
  rotate_left
  ·rw [if_neg c4] at H
   exact absurd H (by simp)
  rw [if_pos c4] at H; have LMc4 := zA.mk c4; clear c4; obtain ⟨y202, hy202⟩ : ∃ y_ : List Int, y_ = (x3_1 ++ [rd l0 x4_1]) := ⟨_, rfl⟩; replace H : (h3_Opps.l0 k1 l0 y202 (wrap64 (x4_1 + 1))) = some r := by first | (rw [hy202]; with_reducible exact H) | (have H2_ := (Option.bind_some _ _).symm.trans H; rw [hy202]; with_reducible exact H2_) | (have H2_ := (Option.bind_some _ _).symm.trans H; with_reducible exact H2_) | with_reducible exact H | (rw [hy202]; exact H) | exact H
  have Ny202 := zA.mk hy202; clear hy202; have H' := zA.mk H
  clear H; have p201 : 0 ≤ (x4_1 : Int) := aD
  have q201 : x4_1 < (l0.length : Int) := aD
  obtain ⟨ad201, e201, hx201_0⟩ := Kd.at_int HR0.out x4_1 p201 q201; cases e201
  replace hx201_0 := (HB.out.cell (World.block_lt_of_cell? w _ hx201_0)).trans hx201_0; replace p201 := eq_true p201; replace q201 := eq_true q201; go_wp2_with (first | ((with_reducible refine gate_builtin (b := .append) (xs := #[.tmp 11, .tmp 16]) rfl ?_); at_builtin; refine Kd.R_append (Kd.int .u8) (w0 := w) w.heap.size rfl (.tmp 11) (.tmp 16) 38 53 (.int .u8 0) 1 rfl Try.underlying38 info53 rfl (by decide) (by omega) u3 x3_1 (rd l0 x4_1) [.int .u8 (rd l0 x4_1)] (fun _ => True) (fun _ => False) rfl rfl ?aP (fun _ hk => hk.elim) ?aF ?aO ?aB ?aS ?aL ?_; (case aP => exact rfl); (case aB => exact (aL HB)); (case aF => exact (fun _ _ => trivial)); (case aO => exact (aR HO_3)); (case aS => exact (below_size (aL HB))); (case aL => have := LMc4.out; omega); intro v203 w5 ho hb hg hat; rw [← Ny202.out] at ho; replace HB := zA.mk (hb); have HO204 := zA.mk (ho); clear HO_3; clear ho hb hg hat))
  go_roundg k1
  case measure => have := HK1.out; omega
  case rel => exact ⟨(y202), (wrap64 (x4_1 + 1)), aZ, H', ⟨by have := HK1.out; omega⟩, ⟨aR HO204⟩, ⟨aL HB⟩⟩
end Go.Proofs.Ytigajcipjklknaa.F
end
