/- Printed by a program: Lean functions that answer as the Go functions do, and the proofs of it. -/
import Derived.Test.YtigajcipjklknaaXCellsWhole0
import Derived.Test.YtigajcipjklknaaVCellsWhole0
section
namespace Go.Proofs.Ytigajcipjklknaa.F
open Go.RowKit Go.Proofs.YtigajcipjklknaaW.PrintWords Go.Proofs.YtigajcipjklknaaW.PrintLast Go.Proofs.YtigajcipjklknaaW.PrintMore
attribute [local go_sem] max2_int min2_int max_two min_two max_three min_three max_four min_four   -- for this text's walks alone
set_option linter.unusedVariables false
set_option linter.unusedSimpArgs false
def h3_Words.l0 : Nat → List Int → List Int → Int → Option (List Int)
 | 0, _, _, _ => none
 | k + 1, x0, x3, x4 => if x4 < (x0.length : Int) then ((h3_signs.f).bind fun t166 => (if 0 ≤ x4 then (if 0 ≤ (Int.tmod (wrap64 (rd x0 x4)) 14) then (if (Int.tmod (wrap64 (rd x0 x4)) 14) < (t166.length : Int) then (if x3.length + (rdOf ByteArray.empty t166 (Int.tmod (wrap64 (rd x0 x4)) 14)).size < 140737488355328 then (h3_Words.l0 k x0 (x3 ++ bytesOf (rdOf ByteArray.empty t166 (Int.tmod (wrap64 (rd x0 x4)) 14))) (wrap64 (x4 + 1))) else (none)) else (none)) else (none)) else (none))) else (some x3)
def h3_Words.f (k : Nat) (l0 : List Int) : Option (List Int) := h3_Words.l0 k l0 ([] : List Int) 0
theorem h3_Words.mono_l : ∀ k, (∀ y0 y1 y2, LeO (h3_Words.l0 k y0 y1 y2) (h3_Words.l0 (k + 1) y0 y1 y2))
 | 0 => fun _ _ _ r h => by simp [h3_Words.l0] at h
 | k + 1 => by
  have ih0 := h3_Words.mono_l k
  ·intro y0 y1 y2
   unfold h3_Words.l0
   repeat' (with_reducible first | exact ih0 _ _ _ | exact LeO.refl _ | exact LeO.none _ | refine LeO.ite ?_ ?_ | refine LeO.bind ?_ (fun _ => ?_))
theorem h3_Words.mono : ∀ a0 k, LeO (h3_Words.f k a0) (h3_Words.f (k + 1) a0) := by
 intro a0 k
 have ih0 := h3_Words.mono_l k; unfold h3_Words.f
 repeat' (with_reducible first | exact ih0 _ _ _ | exact LeO.refl _ | exact LeO.none _ | refine LeO.ite ?_ ?_ | refine LeO.bind ?_ (fun _ => ?_))
def h3_Words.T5 : Bool × List (List Nat × List Nat) := (true, [([], []), ([], []), ([], []), ([], []), ([2, 3], [2, 3]), ([4], [4]), ([5], [5]), ([6], [6]), ([1, 7], [1, 7]), ([8], [8]), ([0, 9, 1], [0, 9]), ([10, 10, 0, 1, 2, 3, 4, 5, 6, 7, 8, 9, 10], [0, 10])])
def h3_Words.B5 : List Nat := [0, 0, 0, 0, 12, 28, 60, 124, 254, 510, 1023, 2047]
theorem h3_Words.tab5 : rtab .any (opsOf Try.f15 5) = h3_Words.T5 := by kernel_rfl
theorem h3_Words.bits5 : waitsOk h3_Words.T5.2 h3_Words.B5 = true := by kernel_rfl
set_option maxHeartbeats 8000000 in
set_option maxRecDepth 100000 in
theorem h3_Words.calls (k : Nat) (A0 : Option Addr) (c0 : Nat) (l0 : List Int) (r : List Int) (w : World) (hr0 : Kd.C (Kd.int .u8) w A0 l0.length l0) (hc0 : l0.length ≤ c0) (h : h3_Words.f k l0 = some r) :
  Calls Try.prog 15 #[.slice A0 l0.length c0] w fun e w' => ∃ v0_ : Value, e = .returned (v0_) ∧ Kd.R (Kd.int .u8) 5 w' w.heap.size (fun _ => True) v0_ r ∧ Below w.heap.size w w' := by
 have HR0 := zA.mk hr0; have HC0 := zA.mk hc0; clear hr0 hc0; have HB := zA.mk (Below.refl w.heap.size w); have H : (h3_Words.l0 k l0 ([] : List Int) 0) = some r := h
 clear h; have H' := zA.mk H
 clear H; go_enter Try.func15, Try.ntmps15
 go_wp2
 go_loopg [3, 4] k (fun kq v3 v4 w' => ∃ (x3_1 : List Int) (x4_1 : Int), v4 = .int .i64 x4_1 ∧ zA (h3_Words.l0 kq l0 x3_1 x4_1 = some r) ∧ zA (kq ≤ k) ∧ zA (Kd.R (Kd.int .u8) 5 w' w.heap.size (fun _ => True) v3 x3_1) ∧ zA (Below w.heap.size w w'))
 case atStart => exact ⟨(([] : List Int)), (0), aZ, H', ⟨Nat.le_refl _⟩, ⟨by first | exact Kd.R_nil _ _ _ _ _ | exact Kd.N_nil _ _ _ _ _ | exact Kd.V_nil _ _ _ _ _ | exact Kd.Q_nil _ _ _ _ _ | exact Kd.S_nil _ _ _ _ _⟩, ⟨aL HB⟩⟩
 clear H'; obtain ⟨x3_1, x4_1, rfl, HA, HK1, HO_3, HB⟩ := hrel; cases gk with
 | zero => exact absurd HA.out (by simp [h3_Words.l0])
 | succ k1 =>
  have H := HA.out; clear HA; simp only [h3_Words.l0] at H; by_cases c2 : x4_1 < (l0.length : Int)
  rotate_left
  ·rw [if_neg c2] at H
   have c2b0 : decide (x4_1 < (l0.length : Int)) = false := decide_eq_false c2
   clear c2; obtain rfl := Option.some.inj H
   go_wp2
   go_ret
   exact ⟨_, aX, aR HO_3, aL HB⟩
  rw [if_pos c2] at H; have c2b0 : decide (x4_1 < (l0.length : Int)) = true := decide_eq_true c2
  clear c2; replace H := Option.bind_eq_some_iff.mp H; obtain ⟨t166, A30, H⟩ := H; replace H : (if 0 ≤ x4_1 then (if 0 ≤ (Int.tmod (wrap64 (rd l0 x4_1)) 14) then (if (Int.tmod (wrap64 (rd l0 x4_1)) 14) < (t166.length : Int) then (if x3_1.length + (rdOf ByteArray.empty t166 (Int.tmod (wrap64 (rd l0 x4_1)) 14)).size < 140737488355328 then (h3_Words.l0 k1 l0 (x3_1 ++ bytesOf (rdOf ByteArray.empty t166 (Int.tmod (wrap64 (rd l0 x4_1)) 14))) (wrap64 (x4_1 + 1))) else (none)) else (none)) else (none)) else (none)) = some r := H; have A3 := zA.mk A30; clear A30; by_cases c4 : 0 ≤ x4_1
  rotate_left
  ·rw [if_neg c4] at H
   exact absurd H (by simp)
  rw [if_pos c4] at H; have c4b0 : decide (0 ≤ x4_1) = true := decide_eq_true c4
  clear c4; obtain ⟨ji5, hji5⟩ : ∃ j_ : Int, (Int.tmod (wrap64 (rd l0 x4_1)) 14) = j_ := ⟨_, rfl⟩; replace H : (if 0 ≤ (ji5) then (if (ji5) < (t166.length : Int) then (if x3_1.length + (rdOf ByteArray.empty t166 (ji5)).size < 140737488355328 then (h3_Words.l0 k1 l0 (x3_1 ++ bytesOf (rdOf ByteArray.empty t166 (ji5))) (wrap64 (x4_1 + 1))) else (none)) else (none)) else (none)) = some r := by first | (rw [hji5] at H; exact H) | (simp only [hji5] at H ⊢; exact H)
  (try rw [hji5] at A3)
  by_cases c6 : 0 ≤ (ji5)
  rotate_left
  ·rw [if_neg c6] at H
   exact absurd H (by simp)
  rw [if_pos c6] at H; have c6b0 : decide (0 ≤ (ji5)) = true := decide_eq_true c6
  clear c6; by_cases c7 : (ji5) < (t166.length : Int)
  rotate_left
  ·rw [if_neg c7] at H
   exact absurd H (by simp)
  rw [if_pos c7] at H; have c7b0 : decide ((ji5) < (t166.length : Int)) = true := decide_eq_true c7
  clear c7; by_cases c8 : x3_1.length + (rdOf ByteArray.empty t166 (ji5)).size < 140737488355328
  rotate_left
  ·rw [if_neg c8] at H
   exact absurd H (by simp)
  rw [if_pos c8] at H; have LMc8 := zA.mk c8; clear c8; obtain ⟨y171, hy171⟩ : ∃ y_ : List Int, y_ = (x3_1 ++ bytesOf (rdOf ByteArray.empty t166 (ji5))) := ⟨_, rfl⟩; replace H : (h3_Words.l0 k1 l0 y171 (wrap64 (x4_1 + 1))) = some r := by first | (rw [hy171]; with_reducible exact H) | (have H2_ := (Option.bind_some _ _).symm.trans H; rw [hy171]; with_reducible exact H2_) | (have H2_ := (Option.bind_some _ _).symm.trans H; with_reducible exact H2_) | with_reducible exact H | (rw [hy171]; exact H) | exact H
  have Ny171 := zA.mk hy171; clear hy171; have H' := zA.mk H
  clear H; try go_wp2
  have pi170 : (0 ≤ ((ji5) : Int)) = True := eq_true (aD)
  have qi170 : ((ji5) < (t166.length : Int)) = True := eq_true (aD)
  replace HO_3 := zA.mk (Kd.zG HO_3.out); replace HB := zA.mk (below_drew1 HB.out); have p169 : 0 ≤ (x4_1 : Int) := aD
  have q169 : x4_1 < (l0.length : Int) := aD
  obtain ⟨ad169, e169, hx169_0⟩ := Kd.at_int HR0.out x4_1 p169 q169; have hw169_0 := hx169_0; cases e169
  replace hx169_0 := (HB.out.cell (World.block_lt_of_cell? w _ hx169_0)).trans hx169_0; replace p169 := eq_true p169; replace q169 := eq_true q169; refine start_ (n := 12) (S := fun w' => w'.cell? (ad169.add (x4_1).toNat) = some (.int .u8 (rd l0 x4_1))) (ds := []) #[false, false, false, false, false, false, false, false, false, false, false, false] (by kernel_rfl) rfl rfl (((HB.out.cell (World.block_lt_of_cell? w _ hw169_0)).trans hw169_0)) (fun hHeld => ?_); refine with_tabW h3_Words.tab5 h3_Words.bits5 (fun HT_ HW_ => ?_)
  generalize wr.drew = w9 at HO_3 HB hx169_0 hHeld ⊢
  refine aP 0 (some 11) (tf_ 1 12) HT_ ?_
  refine aP 2 (some 13) (tb_ 5 12) HT_ ?_
  refine aP 3 (some 14) (tb_ 13 12) HT_ ?_
  refine aP 4 (some 15) (tb_ 29 12) HT_ ?_
  refine take_ (i := 5) (N := some 16) (v := ?_) (a' := ?_) (tb_ 61 12) rfl rfl (take_ofW HT_.out HW_.out (by kernel_rfl)) (fun _ _ _ h => h) (Or.inl ⟨by rfl, ?_⟩) hHeld ?_ ?_
  rotate_left
  ·intro w' s0
   go_simp
   with_reducible rfl
  rotate_left
  ·simp only [Act.put, sA_, sB_, sC_, i64_w, i32_w]
   rfl
  refine aP 6 (some 17) (tb_ 125 12) HT_ ?_
  refine aP 7 (some 18) (tb_ 253 12) HT_ ?_
  refine one_ (i := 1) (N := some 12) (tb_ 255 12) rfl rfl (one_of HT_.out (by kernel_rfl)) (by decide) (fun K hK => ?_)
  refine goes_ Try.func34 (by kernel_rfl) rfl #[] (by rfl) rfl rfl aT ?_
  with_reducible refine (h3_signs.calls  t166 _ A3.out).mono ?_
  rintro e w10 ⟨v167, rfl, ho0, hb⟩
  refine ⟨_, rfl, ?_⟩
  replace HO_3 := zA.mk (Kd.zM (aR HO_3) hb); have HO168 := zA.mk (Kd.zP ho0 (below_size (aL HB))); replace HB := zA.mk (below_step (aL HB) hb); (try clear hb)
  (try clear hb2)
  (try clear hk)
  (try clear hi)
  (try clear ho0)
  obtain ⟨Ao11, co11, eo11⟩ := Kd.zO HO168.out; subst eo11; obtain ⟨ado11, fo11, _⟩ := Kd.at_string (Kd.zL HO168.out).2.2 0 (by decide) (by have h1_ := of_eq_true pi170; have h2_ := of_eq_true qi170; omega)
  cases fo11
  refine hK.out _ _ (((HB.out.cell (World.block_lt_of_cell? w _ hw169_0)).trans hw169_0)) (fun hHeld => ?_)
  clear hK K; refine norm_ (a' := ?_) ?_ ?_
  rotate_left
  ·show Act.put _ (some 12) _ = _
   simp only [Act.put, sA_, sB_, sC_, i64_w, i32_w]; rfl
  refine aP 8 (some 19) (tf_ 9 12) HT_ ?_
  refine one_ (i := 9) (N := some 20) (tb_ 1023 12) rfl rfl (one_of HT_.out (by kernel_rfl)) (by decide) (fun K hK => ?_)
  (have p170 : 0 ≤ ((ji5) : Int) := aD; have q170 : (ji5) < (t166.length : Int) := aD; obtain ⟨ad170, e170, hx170_0⟩ := Kd.at_string (Kd.zL HO168.out).2.2 (ji5) p170 q170; obtain rfl : ado11 = ad170 := (by injection e170))
  refine value_ (w1 := ?_) (v := ?_) (by rfl) rfl ?_ ?_
  rotate_left 2
  ·go_simp
   constructor
   ·rfl
   rfl
  clear hx170_0; refine hK.out _ _ (((HB.out.cell (World.block_lt_of_cell? w _ hw169_0)).trans hw169_0)) (fun hHeld => ?_)
  clear hK K; refine norm_ (a' := ?_) ?_ ?_
  rotate_left
  ·show Act.put _ (some 20) _ = _
   simp only [Act.put, sA_, sB_, sC_, i64_w, i32_w]; rfl
  refine one_ (i := 10) (N := some 21) (tb_ 2047 12) rfl rfl (one_of HT_.out (by kernel_rfl)) (by decide) (fun K hK => ?_)
  refine print_append_str_step (w0 := w) w.heap.size (by rfl) (.tmp 11) _ 22 9 5 rfl Try.underlying22 Try.underlying9 info5 u3 x3_1 (rdOf ByteArray.empty t166 (ji5)) rfl rfl ?aO ?aB ?aS ?aL ?_
  (case aB => exact (aL HB))
  (case aO => exact (Kd.own_of_R (aR HO_3)))
  (case aS => exact (below_size (aL HB)))
  (case aL => have := LMc8.out; omega)
  intro v172 w12 ho0 hb hg
  have ho := Kd.R_of_own (h1 := fun _ => rfl) (ok := fun _ => True) ho0 (fun _ _ => trivial)
  clear ho0; have hat := True.intro; rw [← Ny171.out] at ho; change Kd.R (Kd.int .u8) 5 w12 w.heap.size (fun _ => True) v172 y171 at ho
  replace HO168 := zA.mk (Kd.R_over' (aR HO168) (Kd.R_typed (aR HO_3)) (by decide) hg)
  replace HB := zA.mk (hb); have HO173 := zA.mk (ho); clear HO_3; clear ho hb hg hat; refine hK.out _ _ (((HB.out.cell (World.block_lt_of_cell? w _ hw169_0)).trans hw169_0)) (fun hHeld => ?_)
  clear hK K; refine norm_ (a' := ?_) ?_ ?_
  rotate_left
  ·show Act.put _ (some 21) _ = _
   simp only [Act.put, sA_, sB_, sC_, i64_w, i32_w]; rfl
  refine aP 11 (some 3) (tb_ 4095 12) HT_ ?_
  refine done_ (done_of HT_.out (by kernel_rfl)) ?_
  try go_wp2
  go_roundg k1
  case measure => have := HK1.out; omega
  case rel => exact ⟨(y171), (wrap64 (x4_1 + 1)), aZ, H', ⟨by have := HK1.out; omega⟩, ⟨aR HO173⟩, ⟨aL HB⟩⟩
mutual
def stanzaref01_length.j0 : Nat → Int → Bool → Option (Int)
 | 0, _, _ => none
 | k + 1, x0, x6 => if x6 = true then (some 2) else (if x0 ≥ 224 then (stanzaref01_length.j1 k x0 (decide (x0 ≤ 239))) else (stanzaref01_length.j1 k x0 false))
def stanzaref01_length.j1 : Nat → Int → Bool → Option (Int)
 | 0, _, _ => none
 | k + 1, x0, x13 => if x13 = true then (some 3) else (if x0 ≥ 240 then (if x0 ≤ 244 then (some 4) else (some 0)) else (some 0))
end
def stanzaref01_length.f (k : Nat) (a0 : Int) : Option (Int) := if a0 < 128 then (some 1) else (if a0 ≥ 194 then (stanzaref01_length.j0 k a0 (decide (a0 ≤ 223))) else (stanzaref01_length.j0 k a0 false))
theorem stanzaref01_length.mono_l : ∀ k, (∀ y0 y1, LeO (stanzaref01_length.j0 k y0 y1) (stanzaref01_length.j0 (k + 1) y0 y1)) ∧ (∀ y0 y1, LeO (stanzaref01_length.j1 k y0 y1) (stanzaref01_length.j1 (k + 1) y0 y1))
 | 0 => ⟨fun _ _ r h => by simp [stanzaref01_length.j0] at h, fun _ _ r h => by simp [stanzaref01_length.j1] at h⟩
 | k + 1 => by
  obtain ⟨ih0, ih1⟩ := stanzaref01_length.mono_l k; refine ⟨?_, ?_⟩
  ·intro y0 y1
   unfold stanzaref01_length.j0
   repeat' (with_reducible first | exact ih0 _ _ | exact ih1 _ _ | exact LeO.refl _ | exact LeO.none _ | refine LeO.ite ?_ ?_ | refine LeO.bind ?_ (fun _ => ?_))
  ·intro y0 y1
   unfold stanzaref01_length.j1
   repeat' (with_reducible first | exact ih0 _ _ | exact ih1 _ _ | exact LeO.refl _ | exact LeO.none _ | refine LeO.ite ?_ ?_ | refine LeO.bind ?_ (fun _ => ?_))
theorem stanzaref01_length.mono : ∀ a0 k, LeO (stanzaref01_length.f k a0) (stanzaref01_length.f (k + 1) a0) := by
 intro a0 k
 obtain ⟨ih0, ih1⟩ := stanzaref01_length.mono_l k; unfold stanzaref01_length.f
 repeat' (with_reducible first | exact ih0 _ _ | exact ih1 _ _ | exact LeO.refl _ | exact LeO.none _ | refine LeO.ite ?_ ?_ | refine LeO.bind ?_ (fun _ => ?_))
set_option maxHeartbeats 8000000 in
set_option maxRecDepth 100000 in
theorem stanzaref01_length.calls (k : Nat) (a0 : Int) (r : Int) (w : World) (h : stanzaref01_length.f k a0 = some r) :
  Calls Try.prog 39 #[.int .u8 a0] w fun e w' => e = .returned (.int .i64 r) ∧ Drawn0 w w' := by
 have H : (if a0 < 128 then (some 1) else (if a0 ≥ 194 then (stanzaref01_length.j0 k a0 (decide (a0 ≤ 223))) else (stanzaref01_length.j0 k a0 false))) = some r := h
 clear h; by_cases c2 : a0 < 128
 ·rw [if_pos c2] at H
  have c2b0 : decide (a0 < 128) = true := decide_eq_true c2
  clear c2; obtain rfl := Option.some.inj H
  go_enter Try.func39, Try.ntmps39
  go_wp2
  go_ret
  exact ⟨by first | rfl | (simp; done) | (simp [*]; done), by repeat (first | exact Drawn0.refl _ | apply Drawn0.step)⟩
 rw [if_neg c2] at H; have c2b0 : decide (a0 < 128) = false := decide_eq_false c2
 clear c2; have HC3 := zA.mk H; clear H; go_enter Try.func39, Try.ntmps39
 go_upto_region 3 with (fail)
 go_cut [6] (fun v6 wc => ∃ (kq : Nat) (x6_2 : Bool), v6 = .bool x6_2 ∧ zA (stanzaref01_length.j0 kq a0 x6_2 = some r) ∧ zA (kq ≤ k) ∧ Drawn0 w wc)
 case first =>
  have H := HC3.out; clear HC3; by_cases c4 : a0 ≥ 194
  ·rw [if_pos c4] at H
   have c4b0 : decide (194 ≤ a0) = true := decide_eq_true c4
   clear c4; (first | rw [c4b0] | (simp only [i64_w, i32_w]; rw [c4b0]) | skip)
   have H' := zA.mk H
   clear H; go_wp2
   go_meet
   case rel => exact ⟨_, (decide (a0 ≤ 223)), aZ, H', ⟨by first | omega | exact Nat.le_refl _⟩, by repeat (first | exact Drawn0.refl _ | apply Drawn0.step)⟩
  rw [if_neg c4] at H; have c4b0 : decide (194 ≤ a0) = false := decide_eq_false c4
  clear c4; (first | rw [c4b0] | (simp only [i64_w, i32_w]; rw [c4b0]) | skip)
  have H' := zA.mk H
  clear H; go_wp2
  go_meet
  case rel => exact ⟨_, (false), aZ, H', ⟨by first | omega | exact Nat.le_refl _⟩, by repeat (first | exact Drawn0.refl _ | apply Drawn0.step)⟩
 clear HC3; obtain ⟨kq, x6_2, rfl, HA, HJ2, ⟨mc2, rfl⟩⟩ := hcut; cases kq with
 | zero => exact absurd HA.out (by simp [stanzaref01_length.j0])
 | succ kj2 =>
  have H := HA.out; clear HA; simp only [stanzaref01_length.j0] at H; by_cases c5 : x6_2 = true
  ·subst c5
   have H1 : (some 2) = some r := by rw [if_pos rfl] at H; exact H
   clear H; have H := H1; clear H1; obtain rfl := Option.some.inj H
   go_wp2
   go_ret
   exact ⟨by first | rfl | (simp; done) | (simp [*]; done), by repeat (first | exact Drawn0.refl _ | apply Drawn0.step)⟩
  replace c5 := Bool.eq_false_iff.mpr c5; subst c5; have H1 : (if a0 ≥ 224 then (stanzaref01_length.j1 kj2 a0 (decide (a0 ≤ 239))) else (stanzaref01_length.j1 kj2 a0 false)) = some r := by rw [if_neg (show ¬ (false = true) by decide)] at H; exact H
  clear H; have H := H1; clear H1; have HC6 := zA.mk H; clear H; go_upto_region 5 with (fail)
  go_cut [13] (fun v13 wc => ∃ (kq : Nat) (x13_5 : Bool), v13 = .bool x13_5 ∧ zA (stanzaref01_length.j1 kq a0 x13_5 = some r) ∧ zA (kq ≤ kj2) ∧ Drawn0 w wc)
  case first =>
   have H := HC6.out; clear HC6; by_cases c7 : a0 ≥ 224
   ·rw [if_pos c7] at H
    have c7b0 : decide (224 ≤ a0) = true := decide_eq_true c7
    clear c7; (first | rw [c7b0] | (simp only [i64_w, i32_w]; rw [c7b0]) | skip)
    have H' := zA.mk H
    clear H; go_wp2
    go_meet
    case rel => exact ⟨_, (decide (a0 ≤ 239)), aZ, H', ⟨by have := HJ2.out; first | omega | exact Nat.le_refl _⟩, by repeat (first | exact Drawn0.refl _ | apply Drawn0.step)⟩
   rw [if_neg c7] at H; have c7b0 : decide (224 ≤ a0) = false := decide_eq_false c7
   clear c7; (first | rw [c7b0] | (simp only [i64_w, i32_w]; rw [c7b0]) | skip)
   have H' := zA.mk H
   clear H; go_wp2
   go_meet
   case rel => exact ⟨_, (false), aZ, H', ⟨by have := HJ2.out; first | omega | exact Nat.le_refl _⟩, by repeat (first | exact Drawn0.refl _ | apply Drawn0.step)⟩
  clear HC6; obtain ⟨kq, x13_5, rfl, HA, HJ5, ⟨mc5, rfl⟩⟩ := hcut; cases kq with
  | zero => exact absurd HA.out (by simp [stanzaref01_length.j1])
  | succ kj5 =>
   have H := HA.out; clear HA; simp only [stanzaref01_length.j1] at H; by_cases c8 : x13_5 = true
   ·subst c8
    have H1 : (some 3) = some r := by rw [if_pos rfl] at H; exact H
    clear H; have H := H1; clear H1; obtain rfl := Option.some.inj H
    go_wp2
    go_ret
    exact ⟨by first | rfl | (simp; done) | (simp [*]; done), by repeat (first | exact Drawn0.refl _ | apply Drawn0.step)⟩
   replace c8 := Bool.eq_false_iff.mpr c8; subst c8; have H1 : (if a0 ≥ 240 then (if a0 ≤ 244 then (some 4) else (some 0)) else (some 0)) = some r := by rw [if_neg (show ¬ (false = true) by decide)] at H; exact H
   clear H; have H := H1; clear H1; by_cases c9 : a0 ≥ 240
   rotate_left
   ·rw [if_neg c9] at H
    have c9b0 : decide (240 ≤ a0) = false := decide_eq_false c9
    clear c9; obtain rfl := Option.some.inj H
    go_wp2
    go_ret
    exact ⟨by first | rfl | (simp; done) | (simp [*]; done), by repeat (first | exact Drawn0.refl _ | apply Drawn0.step)⟩
   rw [if_pos c9] at H; have c9b0 : decide (240 ≤ a0) = true := decide_eq_true c9
   clear c9; by_cases c10 : a0 ≤ 244
   ·rw [if_pos c10] at H
    have c10b0 : decide (a0 ≤ 244) = true := decide_eq_true c10
    clear c10; obtain rfl := Option.some.inj H
    go_wp2
    go_ret
    exact ⟨by first | rfl | (simp; done) | (simp [*]; done), by repeat (first | exact Drawn0.refl _ | apply Drawn0.step)⟩
   rw [if_neg c10] at H; have c10b0 : decide (a0 ≤ 244) = false := decide_eq_false c10
   clear c10; obtain rfl := Option.some.inj H
   go_wp2
   go_ret
   exact ⟨by first | rfl | (simp; done) | (simp [*]; done), by repeat (first | exact Drawn0.refl _ | apply Drawn0.step)⟩
mutual
def stanzaref01_Begins.j0 : Nat → List Int → Bool → Option (Bool)
 | 0, _, _ => none
 | k + 1, x0, x15 => if x15 = true then (some false) else (stanzaref01_Begins.l0 k x0 1)
def stanzaref01_Begins.l0 : Nat → List Int → Int → Option (Bool)
 | 0, _, _ => none
 | k + 1, x0, x3 => if x3 < (x0.length : Int) then (if 0 ≤ x3 then (if (rd x0 x3) < 128 then (some false) else (if (rd x0 x3) > 191 then (some false) else (stanzaref01_Begins.l0 k x0 (wrap64 (x3 + 1))))) else (none)) else (if (x0.length : Int) = 1 then (some true) else (if 0 < (x0.length : Int) then (if (rd x0 0) = 224 then (if 1 < (x0.length : Int) then (some (decide ((rd x0 1) ≥ 160))) else (none)) else (if (rd x0 0) = 237 then (if 1 < (x0.length : Int) then (some (decide ((rd x0 1) < 160))) else (none)) else (if (rd x0 0) = 240 then (if 1 < (x0.length : Int) then (some (decide ((rd x0 1) ≥ 144))) else (none)) else (if (rd x0 0) = 244 then (if 1 < (x0.length : Int) then (some (decide ((rd x0 1) < 144))) else (none)) else (some true))))) else (none)))
end
def stanzaref01_Begins.f (k : Nat) (l0 : List Int) : Option (Bool) := if (l0.length : Int) = 0 then (stanzaref01_Begins.j0 k l0 true) else (if 0 < (l0.length : Int) then ((stanzaref01_length.f k (rd l0 0)).bind fun t175 => (stanzaref01_Begins.j0 k l0 (decide ((l0.length : Int) > t175)))) else (none))
theorem stanzaref01_Begins.mono_l : ∀ k, (∀ y0 y1, LeO (stanzaref01_Begins.j0 k y0 y1) (stanzaref01_Begins.j0 (k + 1) y0 y1)) ∧ (∀ y0 y1, LeO (stanzaref01_Begins.l0 k y0 y1) (stanzaref01_Begins.l0 (k + 1) y0 y1))
 | 0 => ⟨fun _ _ r h => by simp [stanzaref01_Begins.j0] at h, fun _ _ r h => by simp [stanzaref01_Begins.l0] at h⟩
 | k + 1 => by
  obtain ⟨ih0, ih1⟩ := stanzaref01_Begins.mono_l k; refine ⟨?_, ?_⟩
  ·intro y0 y1
   unfold stanzaref01_Begins.j0
   repeat' (with_reducible first | exact ih0 _ _ | exact ih1 _ _ | exact stanzaref01_length.mono _ _ | exact LeO.refl _ | exact LeO.none _ | refine LeO.ite ?_ ?_ | refine LeO.bind ?_ (fun _ => ?_))
  ·intro y0 y1
   unfold stanzaref01_Begins.l0
   repeat' (with_reducible first | exact ih0 _ _ | exact ih1 _ _ | exact stanzaref01_length.mono _ _ | exact LeO.refl _ | exact LeO.none _ | refine LeO.ite ?_ ?_ | refine LeO.bind ?_ (fun _ => ?_))
theorem stanzaref01_Begins.mono : ∀ a0 k, LeO (stanzaref01_Begins.f k a0) (stanzaref01_Begins.f (k + 1) a0) := by
 intro a0 k
 obtain ⟨ih0, ih1⟩ := stanzaref01_Begins.mono_l k; unfold stanzaref01_Begins.f
 repeat' (with_reducible first | exact ih0 _ _ | exact ih1 _ _ | exact stanzaref01_length.mono _ _ | exact LeO.refl _ | exact LeO.none _ | refine LeO.ite ?_ ?_ | refine LeO.bind ?_ (fun _ => ?_))
set_option maxHeartbeats 8000000 in
set_option maxRecDepth 100000 in
theorem stanzaref01_Begins.calls (k : Nat) (A0 : Option Addr) (c0 : Nat) (l0 : List Int) (r : Bool) (w : World) (hr0 : Kd.C (Kd.int .u8) w A0 l0.length l0) (hc0 : l0.length ≤ c0) (h : stanzaref01_Begins.f k l0 = some r) :
  Calls Try.prog 38 #[.slice A0 l0.length c0] w fun e w' => e = .returned (.bool r) ∧ Drawn0 w w' := by
 have HR0 := zA.mk hr0; have HC0 := zA.mk hc0; clear hr0 hc0; have H : (if (l0.length : Int) = 0 then (stanzaref01_Begins.j0 k l0 true) else (if 0 < (l0.length : Int) then ((stanzaref01_length.f k (rd l0 0)).bind fun t175 => (stanzaref01_Begins.j0 k l0 (decide ((l0.length : Int) > t175)))) else (none))) = some r := h
 clear h; have HC2 := zA.mk H; clear H; go_enter Try.func38, Try.ntmps38
 go_upto_region 1 with (fail)
 go_cut [15] (fun v15 wc => ∃ (kq : Nat) (x15_1 : Bool), v15 = .bool x15_1 ∧ zA (stanzaref01_Begins.j0 kq l0 x15_1 = some r) ∧ zA (kq ≤ k) ∧ Drawn0 w wc)
 case first =>
  have H := HC2.out; clear HC2; by_cases c3 : (l0.length : Int) = 0
  ·rw [if_pos c3] at H
   have c3b0 : ((l0.length : Int) == 0) = true := beq_iff_eq.mpr c3
   have c3b1 : ((l0.length : Int) != 0) = false := bne_eq_false_iff_eq.mpr c3
   clear c3; (first | rw [c3b0] | (simp only [i64_w, i32_w]; rw [c3b0]) | skip)
   have H' := zA.mk H
   clear H; go_wp2
   go_meet
   case rel => exact ⟨_, (true), aZ, H', ⟨by first | omega | exact Nat.le_refl _⟩, by repeat (first | exact Drawn0.refl _ | apply Drawn0.step)⟩
  rw [if_neg c3] at H; have c3b0 : ((l0.length : Int) == 0) = false := beq_eq_false_iff_ne.mpr c3
  have c3b1 : ((l0.length : Int) != 0) = true := bne_iff_ne.mpr c3
  have c3b2 : ¬ (l0 = []) := fun h_ => c3 (by rw [h_]; rfl)
  (first | rw [c3b0] | (simp only [i64_w, i32_w]; rw [c3b0]) | skip)
  by_cases c4 : 0 < (l0.length : Int)
  rotate_left
  ·rw [if_neg c4] at H
   exact absurd H (by simp)
  rw [if_pos c4] at H; have c4b0 : decide (0 < (l0.length : Int)) = true := decide_eq_true c4
  have c4b1 : decide (0 < l0.length) = true := decide_eq_true (by omega)
  clear c4; replace H := Option.bind_eq_some_iff.mp H; obtain ⟨t175, A50, H⟩ := H; replace H : (stanzaref01_Begins.j0 k l0 (decide ((l0.length : Int) > t175))) = some r := H; have A5 := zA.mk A50; clear A50; have H' := zA.mk H
  clear H; have p174 : 0 ≤ (0 : Int) := (by omega)
  have q174 : 0 < (l0.length : Int) := aD
  obtain ⟨ad174, e174, hx174_0⟩ := Kd.at_int HR0.out 0 p174 q174; cases e174
  have qi174 : (0 < l0.length) = True := eq_true (by omega)
  (try rw [show ((0 : Int)).toNat = 0 from rfl] at hx174_0)
  (try rw [Addr.add_zero'] at hx174_0)
  replace p174 := eq_true p174; replace q174 := eq_true q174; go_wp2_with (first | (go_at_call 39; (with_reducible refine (stanzaref01_length.calls k (rd l0 0) t175 _ A5.out).mono ?_); rintro e w' ⟨rfl, ⟨nd, rfl⟩⟩))
  go_meet
  case rel => exact ⟨_, (decide ((l0.length : Int) > t175)), aZ, H', ⟨by first | omega | exact Nat.le_refl _⟩, by repeat (first | exact Drawn0.refl _ | apply Drawn0.step)⟩
 clear HC2; obtain ⟨kq, x15_1, rfl, HA, HJ1, ⟨mc1, rfl⟩⟩ := hcut; cases kq with
 | zero => exact absurd HA.out (by simp [stanzaref01_Begins.j0])
 | succ kj1 =>
  have H := HA.out; clear HA; simp only [stanzaref01_Begins.j0] at H; by_cases c6 : x15_1 = true
  ·subst c6
   have H1 : (some false) = some r := by rw [if_pos rfl] at H; exact H
   clear H; have H := H1; clear H1; obtain rfl := Option.some.inj H
   go_wp2
   go_ret
   exact ⟨by first | rfl | (simp; done) | (simp [*]; done), by repeat (first | exact Drawn0.refl _ | apply Drawn0.step)⟩
  replace c6 := Bool.eq_false_iff.mpr c6; subst c6; have H1 : (stanzaref01_Begins.l0 kj1 l0 1) = some r := by rw [if_neg (show ¬ (false = true) by decide)] at H; exact H
  clear H; have H := H1; clear H1; have H' := zA.mk H
  clear H; go_wp2
  go_loopg [3] kj1 (fun kq v3 w' => ∃ (x3_2 : Int), v3 = .int .i64 x3_2 ∧ zA (stanzaref01_Begins.l0 kq l0 x3_2 = some r) ∧ zA (kq ≤ kj1) ∧ Drawn0 w w')
  case atStart => exact ⟨(1), aZ, H', ⟨Nat.le_refl _⟩, by repeat (first | exact Drawn0.refl _ | apply Drawn0.step)⟩
  clear H'; obtain ⟨x3_2, rfl, HA, HK2, ⟨m2, rfl⟩⟩ := hrel; cases gk with
  | zero => exact absurd HA.out (by simp [stanzaref01_Begins.l0])
  | succ k2 =>
   have H := HA.out; clear HA; simp only [stanzaref01_Begins.l0] at H; by_cases c7 : x3_2 < (l0.length : Int)
   ·rw [if_pos c7] at H
    have c7b0 : decide (x3_2 < (l0.length : Int)) = true := decide_eq_true c7
    clear c7; by_cases c8 : 0 ≤ x3_2
    rotate_left
    ·rw [if_neg c8] at H
     exact absurd H (by simp)
    rw [if_pos c8] at H; have c8b0 : decide (0 ≤ x3_2) = true := decide_eq_true c8
    clear c8; by_cases c9 : (rd l0 x3_2) < 128
    ·rw [if_pos c9] at H
     have c9b0 : decide ((rd l0 x3_2) < 128) = true := decide_eq_true c9
     clear c9; obtain rfl := Option.some.inj H
     have p176 : 0 ≤ (x3_2 : Int) := aD
     have q176 : x3_2 < (l0.length : Int) := aD
     obtain ⟨ad176, e176, hx176_0⟩ := Kd.at_int HR0.out x3_2 p176 q176; cases e176
     replace p176 := eq_true p176; replace q176 := eq_true q176; go_wp2
     go_ret
     exact ⟨by first | rfl | (simp; done) | (simp [*]; done), by repeat (first | exact Drawn0.refl _ | apply Drawn0.step)⟩
    rw [if_neg c9] at H; have c9b0 : decide ((rd l0 x3_2) < 128) = false := decide_eq_false c9
    clear c9; by_cases c10 : (rd l0 x3_2) > 191
    ·rw [if_pos c10] at H
     have c10b0 : decide (191 < (rd l0 x3_2)) = true := decide_eq_true c10
     clear c10; obtain rfl := Option.some.inj H
     have p176 : 0 ≤ (x3_2 : Int) := aD
     have q176 : x3_2 < (l0.length : Int) := aD
     obtain ⟨ad176, e176, hx176_0⟩ := Kd.at_int HR0.out x3_2 p176 q176; cases e176
     replace p176 := eq_true p176; replace q176 := eq_true q176; have p177 : 0 ≤ (x3_2 : Int) := aD
     have q177 : x3_2 < (l0.length : Int) := aD
     obtain ⟨ad177, e177, hx177_0⟩ := Kd.at_int HR0.out x3_2 p177 q177; obtain rfl : ad176 = ad177 := (by injection e177)
     replace p177 := eq_true p177; replace q177 := eq_true q177; go_wp2
     go_ret
     exact ⟨by first | rfl | (simp; done) | (simp [*]; done), by repeat (first | exact Drawn0.refl _ | apply Drawn0.step)⟩
    rw [if_neg c10] at H; have c10b0 : decide (191 < (rd l0 x3_2)) = false := decide_eq_false c10
    clear c10; have H' := zA.mk H
    clear H; have p176 : 0 ≤ (x3_2 : Int) := aD
    have q176 : x3_2 < (l0.length : Int) := aD
    obtain ⟨ad176, e176, hx176_0⟩ := Kd.at_int HR0.out x3_2 p176 q176; cases e176
    replace p176 := eq_true p176; replace q176 := eq_true q176; have p177 : 0 ≤ (x3_2 : Int) := aD
    have q177 : x3_2 < (l0.length : Int) := aD
    obtain ⟨ad177, e177, hx177_0⟩ := Kd.at_int HR0.out x3_2 p177 q177; obtain rfl : ad176 = ad177 := (by injection e177)
    replace p177 := eq_true p177; replace q177 := eq_true q177; go_wp2
    go_roundg k2
    case measure => have := HJ1.out; have := HK2.out; omega
    case rel => exact ⟨(wrap64 (x3_2 + 1)), aZ, H', ⟨by have := HJ1.out; have := HK2.out; omega⟩, by repeat (first | exact Drawn0.refl _ | apply Drawn0.step)⟩
   rw [if_neg c7] at H; have c7b0 : decide (x3_2 < (l0.length : Int)) = false := decide_eq_false c7
   clear c7; by_cases c11 : (l0.length : Int) = 1
   ·rw [if_pos c11] at H
    have c11b0 : ((l0.length : Int) == 1) = true := beq_iff_eq.mpr c11
    have c11b1 : ((l0.length : Int) != 1) = false := bne_eq_false_iff_eq.mpr c11
    clear c11; obtain rfl := Option.some.inj H
    go_wp2
    go_ret
    exact ⟨by first | rfl | (simp; done) | (simp [*]; done), by repeat (first | exact Drawn0.refl _ | apply Drawn0.step)⟩
   rw [if_neg c11] at H; have c11b0 : ((l0.length : Int) == 1) = false := beq_eq_false_iff_ne.mpr c11
   have c11b1 : ((l0.length : Int) != 1) = true := bne_iff_ne.mpr c11
   by_cases c12 : 0 < (l0.length : Int)
   rotate_left
   ·rw [if_neg c12] at H
    exact absurd H (by simp)
   rw [if_pos c12] at H; have c12b0 : decide (0 < (l0.length : Int)) = true := decide_eq_true c12
   have c12b1 : decide (0 < l0.length) = true := decide_eq_true (by omega)
   clear c12; by_cases c13 : (rd l0 0) = 224
   ·rw [if_pos c13] at H
    have c13b0 : ((rd l0 0) == 224) = true := beq_iff_eq.mpr c13
    have c13b1 : ((rd l0 0) != 224) = false := bne_eq_false_iff_eq.mpr c13
    clear c13; by_cases c14 : 1 < (l0.length : Int)
    rotate_left
    ·rw [if_neg c14] at H
     exact absurd H (by simp)
    rw [if_pos c14] at H; have c14b0 : decide (1 < (l0.length : Int)) = true := decide_eq_true c14
    have c14b1 : decide (1 < l0.length) = true := decide_eq_true (by omega)
    clear c14; obtain rfl := Option.some.inj H
    have p178 : 0 ≤ (0 : Int) := (by omega)
    have q178 : 0 < (l0.length : Int) := aD
    obtain ⟨ad178, e178, hx178_0⟩ := Kd.at_int HR0.out 0 p178 q178; cases e178
    have qi178 : (0 < l0.length) = True := eq_true (by omega)
    (try rw [show ((0 : Int)).toNat = 0 from rfl] at hx178_0)
    (try rw [Addr.add_zero'] at hx178_0)
    replace p178 := eq_true p178; replace q178 := eq_true q178; have p179 : 0 ≤ (1 : Int) := (by omega)
    have q179 : 1 < (l0.length : Int) := aD
    obtain ⟨ad179, e179, hx179_0⟩ := Kd.at_int HR0.out 1 p179 q179; obtain rfl : ad178 = ad179 := (by injection e179)
    (try simp only [show (1 : Int).toNat = 1 from rfl, Nat.reduceMul, Nat.reduceEqDiff, Go.Addr.add, ↓reduceIte] at hx179_0)
    have qi179 : (1 < l0.length) = True := eq_true (by omega)
    (try rw [show ((1 : Int)).toNat = 1 from rfl] at hx179_0)
    replace p179 := eq_true p179; replace q179 := eq_true q179; go_wp2
    go_ret
    exact ⟨by first | rfl | (simp; done) | (simp [*]; done), by repeat (first | exact Drawn0.refl _ | apply Drawn0.step)⟩
   rw [if_neg c13] at H; have c13b0 : ((rd l0 0) == 224) = false := beq_eq_false_iff_ne.mpr c13
   have c13b1 : ((rd l0 0) != 224) = true := bne_iff_ne.mpr c13
   by_cases c15 : (rd l0 0) = 237
   ·rw [if_pos c15] at H
    have c15b0 : ((rd l0 0) == 237) = true := beq_iff_eq.mpr c15
    have c15b1 : ((rd l0 0) != 237) = false := bne_eq_false_iff_eq.mpr c15
    clear c15; by_cases c16 : 1 < (l0.length : Int)
    rotate_left
    ·rw [if_neg c16] at H
     exact absurd H (by simp)
    rw [if_pos c16] at H; have c16b0 : decide (1 < (l0.length : Int)) = true := decide_eq_true c16
    have c16b1 : decide (1 < l0.length) = true := decide_eq_true (by omega)
    clear c16; obtain rfl := Option.some.inj H
    have p178 : 0 ≤ (0 : Int) := (by omega)
    have q178 : 0 < (l0.length : Int) := aD
    obtain ⟨ad178, e178, hx178_0⟩ := Kd.at_int HR0.out 0 p178 q178; cases e178
    have qi178 : (0 < l0.length) = True := eq_true (by omega)
    (try rw [show ((0 : Int)).toNat = 0 from rfl] at hx178_0)
    (try rw [Addr.add_zero'] at hx178_0)
    replace p178 := eq_true p178; replace q178 := eq_true q178; have p180 : 0 ≤ (1 : Int) := (by omega)
    have q180 : 1 < (l0.length : Int) := aD
    obtain ⟨ad180, e180, hx180_0⟩ := Kd.at_int HR0.out 1 p180 q180; obtain rfl : ad178 = ad180 := (by injection e180)
    (try simp only [show (1 : Int).toNat = 1 from rfl, Nat.reduceMul, Nat.reduceEqDiff, Go.Addr.add, ↓reduceIte] at hx180_0)
    have qi180 : (1 < l0.length) = True := eq_true (by omega)
    (try rw [show ((1 : Int)).toNat = 1 from rfl] at hx180_0)
    replace p180 := eq_true p180; replace q180 := eq_true q180; go_wp2
    go_ret
    exact ⟨by first | rfl | (simp; done) | (simp [*]; done), by repeat (first | exact Drawn0.refl _ | apply Drawn0.step)⟩
   rw [if_neg c15] at H; have c15b0 : ((rd l0 0) == 237) = false := beq_eq_false_iff_ne.mpr c15
   have c15b1 : ((rd l0 0) != 237) = true := bne_iff_ne.mpr c15
   by_cases c17 : (rd l0 0) = 240
   ·rw [if_pos c17] at H
    have c17b0 : ((rd l0 0) == 240) = true := beq_iff_eq.mpr c17
    have c17b1 : ((rd l0 0) != 240) = false := bne_eq_false_iff_eq.mpr c17
    clear c17; by_cases c18 : 1 < (l0.length : Int)
    rotate_left
    ·rw [if_neg c18] at H
     exact absurd H (by simp)
    rw [if_pos c18] at H; have c18b0 : decide (1 < (l0.length : Int)) = true := decide_eq_true c18
    have c18b1 : decide (1 < l0.length) = true := decide_eq_true (by omega)
    clear c18; obtain rfl := Option.some.inj H
    have p178 : 0 ≤ (0 : Int) := (by omega)
    have q178 : 0 < (l0.length : Int) := aD
    obtain ⟨ad178, e178, hx178_0⟩ := Kd.at_int HR0.out 0 p178 q178; cases e178
    have qi178 : (0 < l0.length) = True := eq_true (by omega)
    (try rw [show ((0 : Int)).toNat = 0 from rfl] at hx178_0)
    (try rw [Addr.add_zero'] at hx178_0)
    replace p178 := eq_true p178; replace q178 := eq_true q178; have p181 : 0 ≤ (1 : Int) := (by omega)
    have q181 : 1 < (l0.length : Int) := aD
    obtain ⟨ad181, e181, hx181_0⟩ := Kd.at_int HR0.out 1 p181 q181; obtain rfl : ad178 = ad181 := (by injection e181)
    (try simp only [show (1 : Int).toNat = 1 from rfl, Nat.reduceMul, Nat.reduceEqDiff, Go.Addr.add, ↓reduceIte] at hx181_0)
    have qi181 : (1 < l0.length) = True := eq_true (by omega)
    (try rw [show ((1 : Int)).toNat = 1 from rfl] at hx181_0)
    replace p181 := eq_true p181; replace q181 := eq_true q181; go_wp2
    go_ret
    exact ⟨by first | rfl | (simp; done) | (simp [*]; done), by repeat (first | exact Drawn0.refl _ | apply Drawn0.step)⟩
   rw [if_neg c17] at H; have c17b0 : ((rd l0 0) == 240) = false := beq_eq_false_iff_ne.mpr c17
   have c17b1 : ((rd l0 0) != 240) = true := bne_iff_ne.mpr c17
   by_cases c19 : (rd l0 0) = 244
   rotate_left
   ·rw [if_neg c19] at H
    have c19b0 : ((rd l0 0) == 244) = false := beq_eq_false_iff_ne.mpr c19
    have c19b1 : ((rd l0 0) != 244) = true := bne_iff_ne.mpr c19
    obtain rfl := Option.some.inj H
    have p178 : 0 ≤ (0 : Int) := (by omega)
    have q178 : 0 < (l0.length : Int) := aD
    obtain ⟨ad178, e178, hx178_0⟩ := Kd.at_int HR0.out 0 p178 q178; cases e178
    have qi178 : (0 < l0.length) = True := eq_true (by omega)
    (try rw [show ((0 : Int)).toNat = 0 from rfl] at hx178_0)
    (try rw [Addr.add_zero'] at hx178_0)
    replace p178 := eq_true p178; replace q178 := eq_true q178; go_wp2
    go_ret
    exact ⟨by first | rfl | (simp; done) | (simp [*]; done), by repeat (first | exact Drawn0.refl _ | apply Drawn0.step)⟩
   rw [if_pos c19] at H; have c19b0 : ((rd l0 0) == 244) = true := beq_iff_eq.mpr c19
   have c19b1 : ((rd l0 0) != 244) = false := bne_eq_false_iff_eq.mpr c19
   clear c19; by_cases c20 : 1 < (l0.length : Int)
   rotate_left
   ·rw [if_neg c20] at H
    exact absurd H (by simp)
   rw [if_pos c20] at H; have c20b0 : decide (1 < (l0.length : Int)) = true := decide_eq_true c20
   have c20b1 : decide (1 < l0.length) = true := decide_eq_true (by omega)
   clear c20; obtain rfl := Option.some.inj H
   have p178 : 0 ≤ (0 : Int) := (by omega)
   have q178 : 0 < (l0.length : Int) := aD
   obtain ⟨ad178, e178, hx178_0⟩ := Kd.at_int HR0.out 0 p178 q178; cases e178
   have qi178 : (0 < l0.length) = True := eq_true (by omega)
   (try rw [show ((0 : Int)).toNat = 0 from rfl] at hx178_0)
   (try rw [Addr.add_zero'] at hx178_0)
   replace p178 := eq_true p178; replace q178 := eq_true q178; have p182 : 0 ≤ (1 : Int) := (by omega)
   have q182 : 1 < (l0.length : Int) := aD
   obtain ⟨ad182, e182, hx182_0⟩ := Kd.at_int HR0.out 1 p182 q182; obtain rfl : ad178 = ad182 := (by injection e182)
   (try simp only [show (1 : Int).toNat = 1 from rfl, Nat.reduceMul, Nat.reduceEqDiff, Go.Addr.add, ↓reduceIte] at hx182_0)
   have qi182 : (1 < l0.length) = True := eq_true (by omega)
   (try rw [show ((1 : Int)).toNat = 1 from rfl] at hx182_0)
   replace p182 := eq_true p182; replace q182 := eq_true q182; go_wp2
   go_ret
   exact ⟨by first | rfl | (simp; done) | (simp [*]; done), by repeat (first | exact Drawn0.refl _ | apply Drawn0.step)⟩
mutual
def stanzaref01_One.j0 : Nat → List Int → Int → Bool → Option (Int × Int × Int)
 | 0, _, _, _ => none
 | k + 1, x0, x1, x16 => if x16 = true then (some (0, 0, 0)) else (stanzaref01_One.l0 k x0 x1 0)
def stanzaref01_One.j2 : Nat → List Int → Int → Int → Option (Int × Int × Int)
 | 0, _, _, _ => none
 | k + 1, x0, x1, x5 => if x5 = 0 then (some (65533, x1, 1)) else (if 0 ≤ x1 then (if x1 < (x0.length : Int) then ((stanzaref01_length.f k (rd x0 x1)).bind fun t187 => (if x5 < t187 then (some (65533, x1, x5)) else ((some (([0, 127, 31, 15, 7] : List Int) : List Int)).bind fun y189 => (if 0 ≤ x5 then (if x5 < (y189.length : Int) then (stanzaref01_One.l1 k x0 x1 x5 (Go.bits .and .i32 (wrap32 (rd x0 x1)) (rd y189 x5)) 1) else (none)) else (none))))) else (none)) else (none))
def stanzaref01_One.l1 : Nat → List Int → Int → Int → Int → Int → Option (Int × Int × Int)
 | 0, _, _, _, _, _ => none
 | k + 1, x0, x1, x5, x6, x8 => if x8 < x5 then (if 0 ≤ (wrap64 (x1 + x8)) then (if (wrap64 (x1 + x8)) < (x0.length : Int) then (stanzaref01_One.l1 k x0 x1 x5 (wrap32 ((wrap32 ((wrap32 (x6 * 64)) + (wrap32 (rd x0 (wrap64 (x1 + x8)))))) - 128)) (wrap64 (x8 + 1))) else (none)) else (none)) else (some (x6, x1, x5))
def stanzaref01_One.l0 : Nat → List Int → Int → Int → Option (Int × Int × Int)
 | 0, _, _, _ => none
 | k + 1, x0, x1, x5 => if x5 < 4 then (if x5 < (wrap64 ((x0.length : Int) - x1)) then (if 0 ≤ x1 then (if x1 ≤ (wrap64 ((wrap64 (x1 + x5)) + 1)) then (if (wrap64 ((wrap64 (x1 + x5)) + 1)) ≤ (x0.length : Int) then ((stanzaref01_Begins.f k ((x0.take ((wrap64 ((wrap64 (x1 + x5)) + 1)) : Int).toNat).drop (x1 : Int).toNat)).bind fun t185 => (if t185 = true then (stanzaref01_One.l0 k x0 x1 (wrap64 (x5 + 1))) else (stanzaref01_One.j2 k x0 x1 x5))) else (none)) else (none)) else (none)) else (stanzaref01_One.j2 k x0 x1 x5)) else (stanzaref01_One.j2 k x0 x1 x5)
end
def stanzaref01_One.f (k : Nat) (l0 : List Int) (a1 : Int) : Option (Int × Int × Int) := if a1 < 0 then (stanzaref01_One.j0 k l0 a1 true) else (stanzaref01_One.j0 k l0 a1 (decide (a1 ≥ (l0.length : Int))))
theorem stanzaref01_One.mono_l : ∀ k, (∀ y0 y1 y2, LeO (stanzaref01_One.j0 k y0 y1 y2) (stanzaref01_One.j0 (k + 1) y0 y1 y2)) ∧ (∀ y0 y1 y2, LeO (stanzaref01_One.j2 k y0 y1 y2) (stanzaref01_One.j2 (k + 1) y0 y1 y2)) ∧ (∀ y0 y1 y2 y3 y4, LeO (stanzaref01_One.l1 k y0 y1 y2 y3 y4) (stanzaref01_One.l1 (k + 1) y0 y1 y2 y3 y4)) ∧ (∀ y0 y1 y2, LeO (stanzaref01_One.l0 k y0 y1 y2) (stanzaref01_One.l0 (k + 1) y0 y1 y2))
 | 0 => ⟨fun _ _ _ r h => by simp [stanzaref01_One.j0] at h, fun _ _ _ r h => by simp [stanzaref01_One.j2] at h, fun _ _ _ _ _ r h => by simp [stanzaref01_One.l1] at h, fun _ _ _ r h => by simp [stanzaref01_One.l0] at h⟩
 | k + 1 => by
  obtain ⟨ih0, ih1, ih2, ih3⟩ := stanzaref01_One.mono_l k; refine ⟨?_, ?_, ?_, ?_⟩
  ·intro y0 y1 y2
   unfold stanzaref01_One.j0
   repeat' (with_reducible first | exact ih0 _ _ _ | exact ih1 _ _ _ | exact ih2 _ _ _ _ _ | exact ih3 _ _ _ | exact stanzaref01_Begins.mono _ _ | exact stanzaref01_length.mono _ _ | exact LeO.refl _ | exact LeO.none _ | refine LeO.ite ?_ ?_ | refine LeO.bind ?_ (fun _ => ?_))
  ·intro y0 y1 y2
   unfold stanzaref01_One.j2
   repeat' (with_reducible first | exact ih0 _ _ _ | exact ih1 _ _ _ | exact ih2 _ _ _ _ _ | exact ih3 _ _ _ | exact stanzaref01_Begins.mono _ _ | exact stanzaref01_length.mono _ _ | exact LeO.refl _ | exact LeO.none _ | refine LeO.ite ?_ ?_ | refine LeO.bind ?_ (fun _ => ?_))
  ·intro y0 y1 y2 y3 y4
   unfold stanzaref01_One.l1
   repeat' (with_reducible first | exact ih0 _ _ _ | exact ih1 _ _ _ | exact ih2 _ _ _ _ _ | exact ih3 _ _ _ | exact stanzaref01_Begins.mono _ _ | exact stanzaref01_length.mono _ _ | exact LeO.refl _ | exact LeO.none _ | refine LeO.ite ?_ ?_ | refine LeO.bind ?_ (fun _ => ?_))
  ·intro y0 y1 y2
   unfold stanzaref01_One.l0
   repeat' (with_reducible first | exact ih0 _ _ _ | exact ih1 _ _ _ | exact ih2 _ _ _ _ _ | exact ih3 _ _ _ | exact stanzaref01_Begins.mono _ _ | exact stanzaref01_length.mono _ _ | exact LeO.refl _ | exact LeO.none _ | refine LeO.ite ?_ ?_ | refine LeO.bind ?_ (fun _ => ?_))
theorem stanzaref01_One.mono : ∀ a0 a1 k, LeO (stanzaref01_One.f k a0 a1) (stanzaref01_One.f (k + 1) a0 a1) := by
 intro a0 a1 k
 obtain ⟨ih0, ih1, ih2, ih3⟩ := stanzaref01_One.mono_l k; unfold stanzaref01_One.f
 repeat' (with_reducible first | exact ih0 _ _ _ | exact ih1 _ _ _ | exact ih2 _ _ _ _ _ | exact ih3 _ _ _ | exact stanzaref01_Begins.mono _ _ | exact stanzaref01_length.mono _ _ | exact LeO.refl _ | exact LeO.none _ | refine LeO.ite ?_ ?_ | refine LeO.bind ?_ (fun _ => ?_))
set_option maxHeartbeats 8000000 in
set_option maxRecDepth 100000 in
theorem stanzaref01_One.calls (k : Nat) (A0 : Option Addr) (c0 : Nat) (l0 : List Int) (a1 : Int) (r1 : Int) (r2 : Int) (r3 : Int) (w : World) (hr0 : Kd.C (Kd.int .u8) w A0 l0.length l0) (hc0 : l0.length ≤ c0) (h : stanzaref01_One.f k l0 a1 = some (r1, r2, r3)) :
  Calls Try.prog 35 #[.slice A0 l0.length c0, .int .i64 a1] w fun e w' => e = .returned (.agg #[.int .i32 r1, .int .i64 r2, .int .i64 r3]) ∧ Below w.heap.size w w' := by
 have hu50 := Try.underlying50; have HR0 := zA.mk hr0; have HC0 := zA.mk hc0; clear hr0 hc0; have HB := zA.mk (Below.refl w.heap.size w); have H : (if a1 < 0 then (stanzaref01_One.j0 k l0 a1 true) else (stanzaref01_One.j0 k l0 a1 (decide (a1 ≥ (l0.length : Int))))) = some (r1, r2, r3) := h
 clear h; have HC3 := zA.mk H; clear H; go_enter Try.func35, Try.ntmps35
 go_upto_region 1 with (first | ((with_reducible refine gate_dst (N := 4) rfl ?_); (try (refine gate_guard (by rfl) ?_; dsimp only)); refine box_event ?hg (N := 4) ?hd (cs := #[.int .i32 0, .int .i64 0, .int .i64 0]) (t := 50) ?hr ?_; (case hd => rfl); (case hg => rfl); (case hr => first | (go_simp; done) | (go_simp; rfl)); intro gb183 hg w4 hbox hb; have BK183 := zA.mk (hbox); have GW183 := zA.mk ((by rw [hg]; exact (below_size (aL HB)) : w.heap.size ≤ gb183)); replace HB := zA.mk (below_step (aL HB) hb); have GE183 := GW183; clear hb hbox hg))
 (try simp only [Act.put, sA_, sB_, sC_])
 go_cut [16] (fun v16 wc => ∃ (kq : Nat) (x16_2 : Bool), v16 = .bool x16_2 ∧ zA (stanzaref01_One.j0 kq l0 a1 x16_2 = some (r1, r2, r3)) ∧ zA (kq ≤ k) ∧ zA (wc.heap[gb183]? = some (.cells #[.int .i32 0, .int .i64 0, .int .i64 0] 50 (0, 0))) ∧ zA (Below w.heap.size w wc))
 case first =>
  have H := HC3.out; clear HC3; by_cases c5 : a1 < 0
  ·rw [if_pos c5] at H
   have c5b0 : decide (a1 < 0) = true := decide_eq_true c5
   clear c5; (first | rw [c5b0] | (simp only [i64_w, i32_w]; rw [c5b0]) | skip)
   have H' := zA.mk H
   clear H; go_wp2
   go_meet
   case rel => exact ⟨_, (true), aZ, H', ⟨by first | omega | exact Nat.le_refl _⟩, ⟨aB BK183⟩, ⟨aL HB⟩⟩
  rw [if_neg c5] at H; have c5b0 : decide (a1 < 0) = false := decide_eq_false c5
  clear c5; (first | rw [c5b0] | (simp only [i64_w, i32_w]; rw [c5b0]) | skip)
  have H' := zA.mk H
  clear H; go_wp2
  go_meet
  case rel => exact ⟨_, (decide (a1 ≥ (l0.length : Int))), aZ, H', ⟨by first | omega | exact Nat.le_refl _⟩, ⟨aB BK183⟩, ⟨aL HB⟩⟩
 clear HC3; obtain ⟨kq, x16_2, rfl, HA, HJ2, BK183, HB⟩ := hcut; cases kq with
 | zero => exact absurd HA.out (by simp [stanzaref01_One.j0])
 | succ kj2 =>
  have H := HA.out; clear HA; simp only [stanzaref01_One.j0] at H; by_cases c6 : x16_2 = true
  ·subst c6
   have H1 : (some (0, 0, 0)) = some (r1, r2, r3) := by rw [if_pos rfl] at H; exact H
   clear H; have H := H1; clear H1; simp only [Option.some.injEq, Prod.mk.injEq] at H; obtain ⟨rfl, rfl, rfl⟩ := H; obtain ⟨hcz7_0, hcz7_1, hcz7_2, hfz7_0, hfz7_1, hfz7_2⟩ := aC3 BK183; go_wp2_with (first | ((with_reducible refine gate_store (t := 50) (p := 4) rfl ?_); refine store_event (t := 50) (p := 4) (v := ?vo_w8) (w1 := (((wc.setCell ⟨gb183, 0, none⟩ (.int .i32 0)).setCell ⟨gb183, 1, none⟩ (.int .i64 0)).setCell ⟨gb183, 2, none⟩ (.int .i64 0))) ?hg ?ho ?hn ?hr ?_; (case ho => rfl); (case hg => rfl); (case hn => rfl); (case hr => first | (go_simp; done) | (go_simp; rfl)); intro w8 hw; have n0_ : zA (w8.heap[gb183]? = some (.cells #[.int .i32 0, .int .i64 0, .int .i64 0] 50 (0, 0))) := ⟨(by rw [hw]; exact (by (with_reducible repeat (first | refine zC ?_ _ | refine zD ?_ | refine zB ?_ _)); refine blk_put (cs := #[.int .i32 0, .int .i64 0, .int .i64 0]) ?_ 2 _ rfl; (with_reducible repeat (first | refine zC ?_ _ | refine zD ?_ | refine zB ?_ _)); refine blk_put (cs := #[.int .i32 0, .int .i64 0, .int .i64 0]) ?_ 1 _ rfl; (with_reducible repeat (first | refine zC ?_ _ | refine zD ?_ | refine zB ?_ _)); refine blk_put (cs := #[.int .i32 0, .int .i64 0, .int .i64 0]) ?_ 0 _ rfl; (with_reducible repeat (first | refine zC ?_ _ | refine zD ?_ | refine zB ?_ _)); exact BK183.out))⟩; have n1_ : zA (Below w.heap.size w w8) := ⟨(by rw [hw]; exact (aL HB))⟩; clear hw; clear BK183; clear HB; have BK183 := n0_; have HB := n1_; clear n0_ n1_))
   refine bodyPost_ret (results_cell_row rfl _ _ gb183 50 #[.int .i32 0, .int .i64 0, .int .i64 0] (0, 0) _ rfl (aB BK183) Try.underlying50 rfl (by kernel_rfl)) rfl ?_
   exact ⟨aX, aL HB⟩
  replace c6 := Bool.eq_false_iff.mpr c6; subst c6; have H1 : (stanzaref01_One.l0 kj2 l0 a1 0) = some (r1, r2, r3) := by rw [if_neg (show ¬ (false = true) by decide)] at H; exact H
  clear H; have H := H1; clear H1; have HC9 := zA.mk H; clear H; go_upto_block 0 with (fail)
  go_cut [5] (fun v5 wc => ∃ (kq : Nat) (x5_8 : Int), v5 = .int .i64 x5_8 ∧ zA (stanzaref01_One.j2 kq l0 a1 x5_8 = some (r1, r2, r3)) ∧ zA (kq ≤ kj2) ∧ zA (wc.heap[gb183]? = some (.cells #[.int .i32 0, .int .i64 0, .int .i64 0] 50 (0, 0))) ∧ zA (Below w.heap.size w wc))
  case first =>
   have H := HC9.out; clear HC9; have H' := zA.mk H
   clear H; go_wp2
   go_loopg [5] kj2 (fun kq v5 w' => ∃ (x5_2 : Int), v5 = .int .i64 x5_2 ∧ zA (stanzaref01_One.l0 kq l0 a1 x5_2 = some (r1, r2, r3)) ∧ zA (kq ≤ kj2) ∧ zA (w'.heap[gb183]? = some (.cells #[.int .i32 0, .int .i64 0, .int .i64 0] 50 (0, 0))) ∧ zA (Below w.heap.size w w'))
   case atStart => exact ⟨(0), aZ, H', ⟨Nat.le_refl _⟩, ⟨aB BK183⟩, ⟨aL HB⟩⟩
   clear H'; obtain ⟨x5_2, rfl, HA, HK2, BK183, HB⟩ := hrel; cases gk with
   | zero => exact absurd HA.out (by simp [stanzaref01_One.l0])
   | succ k2 =>
    have H := HA.out; clear HA; simp only [stanzaref01_One.l0] at H; by_cases c10 : x5_2 < 4
    rotate_left
    ·rw [if_neg c10] at H
     have c10b0 : decide (x5_2 < 4) = false := decide_eq_false c10
     clear c10; (first | rw [c10b0] | (simp only [i64_w, i32_w]; rw [c10b0]) | skip)
     have H' := zA.mk H
     clear H; go_wp2
     go_meet
     case rel => exact ⟨_, (x5_2), aZ, H', ⟨by have := HJ2.out; have := HK2.out; first | omega | exact Nat.le_refl _⟩, ⟨aB BK183⟩, ⟨aL HB⟩⟩
    rw [if_pos c10] at H; have c10b0 : decide (x5_2 < 4) = true := decide_eq_true c10
    clear c10; (first | rw [c10b0] | (simp only [i64_w, i32_w]; rw [c10b0]) | skip)
    by_cases c11 : x5_2 < (wrap64 ((l0.length : Int) - a1))
    rotate_left
    ·rw [if_neg c11] at H
     have c11b0 : decide (x5_2 < (wrap64 ((l0.length : Int) - a1))) = false := decide_eq_false c11
     clear c11; have H' := zA.mk H
     clear H; go_wp2
     go_meet
     case rel => exact ⟨_, (x5_2), aZ, H', ⟨by have := HJ2.out; have := HK2.out; first | omega | exact Nat.le_refl _⟩, ⟨aB BK183⟩, ⟨aL HB⟩⟩
    rw [if_pos c11] at H; have c11b0 : decide (x5_2 < (wrap64 ((l0.length : Int) - a1))) = true := decide_eq_true c11
    clear c11; by_cases c12 : 0 ≤ a1
    rotate_left
    ·rw [if_neg c12] at H
     exact absurd H (by simp)
    rw [if_pos c12] at H; have c12b0 := eq_true c12; have c12b1 : decide (0 ≤ a1) = true := decide_eq_true c12
    clear c12; by_cases c13 : a1 ≤ (wrap64 ((wrap64 (a1 + x5_2)) + 1))
    rotate_left
    ·rw [if_neg c13] at H
     exact absurd H (by simp)
    rw [if_pos c13] at H; have c13b0 := eq_true c13; have c13b1 : decide (a1 ≤ (wrap64 ((wrap64 (a1 + x5_2)) + 1))) = true := decide_eq_true c13
    by_cases c14 : (wrap64 ((wrap64 (a1 + x5_2)) + 1)) ≤ (l0.length : Int)
    rotate_left
    ·rw [if_neg c14] at H
     exact absurd H (by simp)
    rw [if_pos c14] at H; have c14b0 := eq_true c14; have c14b1 : decide ((wrap64 ((wrap64 (a1 + x5_2)) + 1)) ≤ (l0.length : Int)) = true := decide_eq_true c14
    replace H := Option.bind_eq_some_iff.mp H; obtain ⟨t185, A150, H⟩ := H; replace H : (if t185 = true then (stanzaref01_One.l0 k2 l0 a1 (wrap64 (x5_2 + 1))) else (stanzaref01_One.j2 k2 l0 a1 x5_2)) = some (r1, r2, r3) := H; have A15 := zA.mk A150; clear A150; by_cases c16 : t185 = true
    ·subst c16
     have H1 : (stanzaref01_One.l0 k2 l0 a1 (wrap64 (x5_2 + 1))) = some (r1, r2, r3) := by rw [if_pos rfl] at H; exact H
     clear H; have H := H1; clear H1; have H' := zA.mk H
     clear H; obtain ⟨i017, hi017, _, hsz17, _⟩ := info_parts info5; obtain ⟨A17, hcut17, hA17, hC17⟩ := print_mid_of (P := Try.prog) (Value.int .u8) 0 22 5 .i64 .i64 Try.underlying22 hi017 hsz17 A0 c0 l0 a1 (wrap64 ((wrap64 (a1 + x5_2)) + 1)) (aD) (by first | omega | exact aD) (aD) HC0.out
     have HR184 := zA.mk (Kd.C_of_reads (h1 := fun _ => rfl) (hA17 _ (Kd.reads_of_C HR0.out)))
     have HC184 := zA.mk hC17; clear hA17 hC17 hi017 hsz17; go_wp2_with (first | (go_at_call 38; refine calls_of_args (args' := #[.slice A17 ((l0.take ((wrap64 ((wrap64 (a1 + x5_2)) + 1)) : Int).toNat).drop (a1 : Int).toNat).length (c0 - a1.toNat)]) (by first | (rw [show ((l0.take ((wrap64 ((wrap64 (a1 + x5_2)) + 1)) : Int).toNat).drop (a1 : Int).toNat).length = ((wrap64 ((wrap64 (a1 + x5_2)) + 1)).toNat - a1.toNat) from (by rw [List.length_drop, List.length_take]; have h_ : ((wrap64 ((wrap64 (a1 + x5_2)) + 1)) : Int) ≤ (l0.length : Int) := aD; omega)] <;> rfl) | rfl) ?_; (with_reducible refine (stanzaref01_Begins.calls k2 _ _ ((l0.take ((wrap64 ((wrap64 (a1 + x5_2)) + 1)) : Int).toNat).drop (a1 : Int).toNat) true _ ?side1 ?side2 A15.out).mono ?_); (case side1 => exact aA HR184 HB); (case side2 => exact HC184.out); rintro e w' ⟨rfl, ⟨nd, rfl⟩⟩))
     go_roundg k2
     case measure => have := HJ2.out; have := HK2.out; omega
     case rel => exact ⟨(wrap64 (x5_2 + 1)), aZ, H', ⟨by have := HJ2.out; have := HK2.out; omega⟩, ⟨aB BK183⟩, ⟨aL HB⟩⟩
    replace c16 := Bool.eq_false_iff.mpr c16; subst c16; have H1 : (stanzaref01_One.j2 k2 l0 a1 x5_2) = some (r1, r2, r3) := by rw [if_neg (show ¬ (false = true) by decide)] at H; exact H
    clear H; have H := H1; clear H1; have H' := zA.mk H
    clear H; obtain ⟨i018, hi018, _, hsz18, _⟩ := info_parts info5; obtain ⟨A18, hcut18, hA18, hC18⟩ := print_mid_of (P := Try.prog) (Value.int .u8) 0 22 5 .i64 .i64 Try.underlying22 hi018 hsz18 A0 c0 l0 a1 (wrap64 ((wrap64 (a1 + x5_2)) + 1)) (aD) (by first | omega | exact aD) (aD) HC0.out
    have HR184 := zA.mk (Kd.C_of_reads (h1 := fun _ => rfl) (hA18 _ (Kd.reads_of_C HR0.out)))
    have HC184 := zA.mk hC18; clear hA18 hC18 hi018 hsz18; go_wp2_with (first | (go_at_call 38; refine calls_of_args (args' := #[.slice A18 ((l0.take ((wrap64 ((wrap64 (a1 + x5_2)) + 1)) : Int).toNat).drop (a1 : Int).toNat).length (c0 - a1.toNat)]) (by first | (rw [show ((l0.take ((wrap64 ((wrap64 (a1 + x5_2)) + 1)) : Int).toNat).drop (a1 : Int).toNat).length = ((wrap64 ((wrap64 (a1 + x5_2)) + 1)).toNat - a1.toNat) from (by rw [List.length_drop, List.length_take]; have h_ : ((wrap64 ((wrap64 (a1 + x5_2)) + 1)) : Int) ≤ (l0.length : Int) := aD; omega)] <;> rfl) | rfl) ?_; (with_reducible refine (stanzaref01_Begins.calls k2 _ _ ((l0.take ((wrap64 ((wrap64 (a1 + x5_2)) + 1)) : Int).toNat).drop (a1 : Int).toNat) false _ ?side1 ?side2 A15.out).mono ?_); (case side1 => exact aA HR184 HB); (case side2 => exact HC184.out); rintro e w' ⟨rfl, ⟨nd, rfl⟩⟩))
    go_meet
    case rel => exact ⟨_, (x5_2), aZ, H', ⟨by have := HJ2.out; have := HK2.out; first | omega | exact Nat.le_refl _⟩, ⟨aB BK183⟩, ⟨aL HB⟩⟩
  clear HC9; obtain ⟨kq, x5_8, rfl, HA, HJ8, BK183, HB⟩ := hcut; cases kq with
  | zero => exact absurd HA.out (by simp [stanzaref01_One.j2])
  | succ kj8 =>
   have H := HA.out; clear HA; simp only [stanzaref01_One.j2] at H; by_cases c19 : x5_8 = 0
   ·rw [if_pos c19] at H
    have c19b0 : (x5_8 == 0) = true := beq_iff_eq.mpr c19
    have c19b1 : (x5_8 != 0) = false := bne_eq_false_iff_eq.mpr c19
    clear c19; simp only [Option.some.injEq, Prod.mk.injEq] at H; obtain ⟨rfl, rfl, rfl⟩ := H; obtain ⟨hcz20_0, hcz20_1, hcz20_2, hfz20_0, hfz20_1, hfz20_2⟩ := aC3 BK183; go_wp2_with (first | ((with_reducible refine gate_store (t := 50) (p := 4) rfl ?_); refine store_event (t := 50) (p := 4) (v := ?vo_w21) (w1 := (((wc.setCell ⟨gb183, 0, none⟩ (.int .i32 65533)).setCell ⟨gb183, 1, none⟩ (.int .i64 a1)).setCell ⟨gb183, 2, none⟩ (.int .i64 1))) ?hg ?ho ?hn ?hr ?_; (case ho => rfl); (case hg => rfl); (case hn => rfl); (case hr => first | (go_simp; done) | (go_simp; rfl)); intro w21 hw; have n0_ : zA (w21.heap[gb183]? = some (.cells #[.int .i32 65533, .int .i64 a1, .int .i64 1] 50 (0, 0))) := ⟨(by rw [hw]; exact (by (with_reducible repeat (first | refine zC ?_ _ | refine zD ?_ | refine zB ?_ _)); refine blk_put (cs := #[.int .i32 65533, .int .i64 a1, .int .i64 0]) ?_ 2 _ rfl; (with_reducible repeat (first | refine zC ?_ _ | refine zD ?_ | refine zB ?_ _)); refine blk_put (cs := #[.int .i32 65533, .int .i64 0, .int .i64 0]) ?_ 1 _ rfl; (with_reducible repeat (first | refine zC ?_ _ | refine zD ?_ | refine zB ?_ _)); refine blk_put (cs := #[.int .i32 0, .int .i64 0, .int .i64 0]) ?_ 0 _ rfl; (with_reducible repeat (first | refine zC ?_ _ | refine zD ?_ | refine zB ?_ _)); exact BK183.out))⟩; have n1_ : zA (Below w.heap.size w w21) := ⟨(by rw [hw]; exact (aL HB))⟩; clear hw; clear BK183; clear HB; have BK183 := n0_; have HB := n1_; clear n0_ n1_))
    refine bodyPost_ret (results_cell_row rfl _ _ gb183 50 #[.int .i32 65533, .int .i64 a1, .int .i64 1] (0, 0) _ rfl (aB BK183) Try.underlying50 rfl (by kernel_rfl)) rfl ?_
    exact ⟨aX, aL HB⟩
   rw [if_neg c19] at H; have c19b0 : (x5_8 == 0) = false := beq_eq_false_iff_ne.mpr c19
   have c19b1 : (x5_8 != 0) = true := bne_iff_ne.mpr c19
   by_cases c22 : 0 ≤ a1
   rotate_left
   ·rw [if_neg c22] at H
    exact absurd H (by simp)
   rw [if_pos c22] at H; have c22b0 : decide (0 ≤ a1) = true := decide_eq_true c22
   clear c22; by_cases c23 : a1 < (l0.length : Int)
   rotate_left
   ·rw [if_neg c23] at H
    exact absurd H (by simp)
   rw [if_pos c23] at H; have c23b0 : decide (a1 < (l0.length : Int)) = true := decide_eq_true c23
   clear c23; replace H := Option.bind_eq_some_iff.mp H; obtain ⟨t187, A240, H⟩ := H; replace H : (if x5_8 < t187 then (some (65533, a1, x5_8)) else ((some (([0, 127, 31, 15, 7] : List Int) : List Int)).bind fun y189 => (if 0 ≤ x5_8 then (if x5_8 < (y189.length : Int) then (stanzaref01_One.l1 kj8 l0 a1 x5_8 (Go.bits .and .i32 (wrap32 (rd l0 a1)) (rd y189 x5_8)) 1) else (none)) else (none)))) = some (r1, r2, r3) := H
   have A24 := zA.mk A240; clear A240; by_cases c25 : x5_8 < t187
   ·rw [if_pos c25] at H
    have c25b0 : decide (x5_8 < t187) = true := decide_eq_true c25
    clear c25; simp only [Option.some.injEq, Prod.mk.injEq] at H; obtain ⟨rfl, rfl, rfl⟩ := H; have p186 : 0 ≤ (a1 : Int) := aD
    have q186 : a1 < (l0.length : Int) := aD
    obtain ⟨ad186, e186, hx186_0⟩ := Kd.at_int HR0.out a1 p186 q186; cases e186
    replace hx186_0 := (HB.out.cell (World.block_lt_of_cell? w _ hx186_0)).trans hx186_0; replace p186 := eq_true p186; replace q186 := eq_true q186; go_wp2_with (first | ((with_reducible refine gate_callee (f := 39) rfl ?_); refine goesL_ (some 49) rfl rfl Try.func39 (by kernel_rfl) rfl #[.int .u8 (rd l0 a1)] rfl aT ?_; (with_reducible refine (stanzaref01_length.calls kj8 (rd l0 a1) t187 _ A24.out).mono ?_); rintro e w' ⟨rfl, ⟨nd, rfl⟩⟩; refine ⟨_, rfl, ?_⟩; (try (rw [drewN_self wc]; generalize hq_ : World.drewN wc _ = wc; have n0_ : zA (wc.heap[gb183]? = some (.cells #[.int .i32 0, .int .i64 0, .int .i64 0] 50 (0, 0))) := ⟨by rw [← hq_]; exact (aB BK183)⟩; have n1_ : zA (Below w.heap.size w wc) := ⟨by rw [← hq_]; exact (aL HB)⟩; clear BK183 HB hq_; have BK183 := n0_; have HB := n1_; clear n0_ n1_)); obtain ⟨hcz26_0, hcz26_1, hcz26_2, hfz26_0, hfz26_1, hfz26_2⟩ := aC3 BK183) | ((with_reducible refine gate_store (t := 50) (p := 4) rfl ?_); refine store_event (t := 50) (p := 4) (v := ?vo_w27) (w1 := (((wc.setCell ⟨gb183, 0, none⟩ (.int .i32 65533)).setCell ⟨gb183, 1, none⟩ (.int .i64 a1)).setCell ⟨gb183, 2, none⟩ (.int .i64 x5_8))) ?hg ?ho ?hn ?hr ?_; (case ho => rfl); (case hg => rfl); (case hn => rfl); (case hr => first | (go_simp; done) | (go_simp; rfl)); intro w27 hw; have n0_ : zA (w27.heap[gb183]? = some (.cells #[.int .i32 65533, .int .i64 a1, .int .i64 x5_8] 50 (0, 0))) := ⟨(by rw [hw]; exact (by (with_reducible repeat (first | refine zC ?_ _ | refine zD ?_ | refine zB ?_ _)); refine blk_put (cs := #[.int .i32 65533, .int .i64 a1, .int .i64 0]) ?_ 2 _ rfl; (with_reducible repeat (first | refine zC ?_ _ | refine zD ?_ | refine zB ?_ _)); refine blk_put (cs := #[.int .i32 65533, .int .i64 0, .int .i64 0]) ?_ 1 _ rfl; (with_reducible repeat (first | refine zC ?_ _ | refine zD ?_ | refine zB ?_ _)); refine blk_put (cs := #[.int .i32 0, .int .i64 0, .int .i64 0]) ?_ 0 _ rfl; (with_reducible repeat (first | refine zC ?_ _ | refine zD ?_ | refine zB ?_ _)); exact BK183.out))⟩; have n1_ : zA (Below w.heap.size w w27) := ⟨(by rw [hw]; exact (aL HB))⟩; clear hw; clear BK183; clear HB; have BK183 := n0_; have HB := n1_; clear n0_ n1_))
    refine bodyPost_ret (results_cell_row rfl _ _ gb183 50 #[.int .i32 65533, .int .i64 a1, .int .i64 x5_8] (0, 0) _ rfl (aB BK183) Try.underlying50 rfl (by kernel_rfl)) rfl ?_
    exact ⟨aX, aL HB⟩
   rw [if_neg c25] at H; have c25b0 : decide (x5_8 < t187) = false := decide_eq_false c25
   clear c25; obtain ⟨y189, hy189⟩ : ∃ y_ : List Int, y_ = (([0, 127, 31, 15, 7] : List Int)) := ⟨_, rfl⟩; replace H : (if 0 ≤ x5_8 then (if x5_8 < (y189.length : Int) then (stanzaref01_One.l1 kj8 l0 a1 x5_8 (Go.bits .and .i32 (wrap32 (rd l0 a1)) (rd y189 x5_8)) 1) else (none)) else (none)) = some (r1, r2, r3) := by first | (rw [hy189]; with_reducible exact H) | (have H2_ := (Option.bind_some _ _).symm.trans H; rw [hy189]; with_reducible exact H2_) | (have H2_ := (Option.bind_some _ _).symm.trans H; with_reducible exact H2_) | with_reducible exact H | (rw [hy189]; exact H) | exact H
   have Ny189 := zA.mk hy189; clear hy189; by_cases c28 : 0 ≤ x5_8
   rotate_left
   ·rw [if_neg c28] at H
    exact absurd H (by simp)
   rw [if_pos c28] at H; have c28b0 : decide (0 ≤ x5_8) = true := decide_eq_true c28
   clear c28; by_cases c29 : x5_8 < (y189.length : Int)
   rotate_left
   ·rw [if_neg c29] at H
    exact absurd H (by simp)
   rw [if_pos c29] at H; have c29b0 : decide (x5_8 < (y189.length : Int)) = true := decide_eq_true c29
   clear c29; have H' := zA.mk H
   clear H; have p186 : 0 ≤ (a1 : Int) := aD
   have q186 : a1 < (l0.length : Int) := aD
   obtain ⟨ad186, e186, hx186_0⟩ := Kd.at_int HR0.out a1 p186 q186; cases e186
   replace hx186_0 := (HB.out.cell (World.block_lt_of_cell? w _ hx186_0)).trans hx186_0; replace p186 := eq_true p186; replace q186 := eq_true q186; go_wp2_with (first | ((with_reducible refine gate_callee (f := 39) rfl ?_); refine goesL_ (some 49) rfl rfl Try.func39 (by kernel_rfl) rfl #[.int .u8 (rd l0 a1)] rfl aT ?_; (with_reducible refine (stanzaref01_length.calls kj8 (rd l0 a1) t187 _ A24.out).mono ?_); rintro e w' ⟨rfl, ⟨nd, rfl⟩⟩; refine ⟨_, rfl, ?_⟩; have p188 : 0 ≤ (a1 : Int) := aD; have q188 : a1 < (l0.length : Int) := aD; obtain ⟨ad188, e188, hx188_0⟩ := Kd.at_int HR0.out a1 p188 q188; obtain rfl : ad186 = ad188 := (by injection e188); replace hx188_0 := (HB.out.cell (World.block_lt_of_cell? w _ hx188_0)).trans hx188_0; replace p188 := eq_true p188; replace q188 := eq_true q188) | ((with_reducible refine gate_dst (N := 59) rfl ?_); (try (refine gate_guard (by rfl) ?_; dsimp only)); refine Kd.R_lit (Kd.int .i32) _ 21 ?hg (N := 59) ?hd (xs := ([0, 127, 31, 15, 7] : List Int)) (inner := [.int .i32 0, .int .i32 127, .int .i32 31, .int .i32 15, .int .i32 7]) (ok := fun _ => True) (okp := fun _ => True) ?hr ?hp (fun _ hk => hk) trivial (Below.refl _ _) (Nat.le_refl _) (by simp) ?_; (case hd => rfl); (case hg => rfl); (case hr => first | (go_simp; done) | (go_simp; rfl)); (case hp => exact (Reps.one (show Kd.M (Kd.int .i32) _ _ _ 0 [.int .i32 0] from rfl) (Reps.one (show Kd.M (Kd.int .i32) _ _ _ 127 [.int .i32 127] from rfl) (Reps.one (show Kd.M (Kd.int .i32) _ _ _ 31 [.int .i32 31] from rfl) (Reps.one (show Kd.M (Kd.int .i32) _ _ _ 15 [.int .i32 15] from rfl) (Reps.one (show Kd.M (Kd.int .i32) _ _ _ 7 [.int .i32 7] from rfl) (Reps.none _ _))))))); intro v190 w30 ho31 hb hg_ hnew_; clear hg_ hnew_; (first | rw [← Ny189.out] at ho31 | (simp only [Int.reduceToNat] at ho31; rw [← Ny189.out] at ho31)); have HO191 := zA.mk (Kd.zP ho31 (below_size (aL HB))); replace BK183 := zA.mk (blk_below (aB BK183) hb); replace HB := zA.mk (below_step (aL HB) hb); clear hb ho31; obtain ⟨Ao32, co32, eo32⟩ := Kd.zO HO191.out; subst eo32; have p192 : 0 ≤ (x5_8 : Int) := aD; have q192 : x5_8 < (y189.length : Int) := aD; obtain ⟨ad192, e192, hx192_0⟩ := Kd.at_int (Kd.zL HO191.out).2.2 x5_8 p192 q192; cases e192; replace p192 := eq_true p192; replace q192 := eq_true q192))
   go_loopg [6, 8] kj8 (fun kq v6 v8 w' => ∃ (x6_3 : Int) (x8_3 : Int), v6 = .int .i32 x6_3 ∧ v8 = .int .i64 x8_3 ∧ zA (stanzaref01_One.l1 kq l0 a1 x5_8 x6_3 x8_3 = some (r1, r2, r3)) ∧ zA (kq ≤ kj8) ∧ zA (w'.heap[gb183]? = some (.cells #[.int .i32 0, .int .i64 0, .int .i64 0] 50 (0, 0))) ∧ zA (Below w.heap.size w w'))
   case atStart => exact ⟨(Go.bits .and .i32 (wrap32 (rd l0 a1)) (rd y189 x5_8)), (1), aZ, aZ, H', ⟨Nat.le_refl _⟩, ⟨aB BK183⟩, ⟨aL HB⟩⟩
   clear H'; obtain ⟨x6_3, x8_3, rfl, rfl, HA, HK3, BK183, HB⟩ := hrel; cases gk with
   | zero => exact absurd HA.out (by simp [stanzaref01_One.l1])
   | succ k3 =>
    have H := HA.out; clear HA; simp only [stanzaref01_One.l1] at H; by_cases c33 : x8_3 < x5_8
    ·rw [if_pos c33] at H
     have c33b0 : decide (x8_3 < x5_8) = true := decide_eq_true c33
     clear c33; obtain ⟨ji34, hji34⟩ : ∃ j_ : Int, (wrap64 (a1 + x8_3)) = j_ := ⟨_, rfl⟩; replace H : (if 0 ≤ (ji34) then (if (ji34) < (l0.length : Int) then (stanzaref01_One.l1 k3 l0 a1 x5_8 (wrap32 ((wrap32 ((wrap32 (x6_3 * 64)) + (wrap32 (rd l0 (ji34))))) - 128)) (wrap64 (x8_3 + 1))) else (none)) else (none)) = some (r1, r2, r3) := by first | (rw [hji34] at H; exact H) | (simp only [hji34] at H ⊢; exact H)
     have hji34w : (IntKind.i64.wrap (a1 + x8_3)) = ji34 := (i64_w _).trans hji34
     by_cases c35 : 0 ≤ (ji34)
     rotate_left
     ·rw [if_neg c35] at H
      exact absurd H (by simp)
     rw [if_pos c35] at H; have c35b0 : decide (0 ≤ (ji34)) = true := decide_eq_true c35
     clear c35; by_cases c36 : (ji34) < (l0.length : Int)
     rotate_left
     ·rw [if_neg c36] at H
      exact absurd H (by simp)
     rw [if_pos c36] at H; have c36b0 : decide ((ji34) < (l0.length : Int)) = true := decide_eq_true c36
     clear c36; have H' := zA.mk H
     clear H; have p193 : 0 ≤ ((ji34) : Int) := aD
     have q193 : (ji34) < (l0.length : Int) := aD
     obtain ⟨ad193, e193, hx193_0⟩ := Kd.at_int HR0.out (ji34) p193 q193; obtain rfl : ad186 = ad193 := (by injection e193)
     replace hx193_0 := (HB.out.cell (World.block_lt_of_cell? w _ hx193_0)).trans hx193_0; replace p193 := eq_true p193; replace q193 := eq_true q193; go_wp2
     go_roundg k3
     case measure => have := HJ2.out; have := HJ8.out; have := HK3.out; omega
     case rel => exact ⟨(wrap32 ((wrap32 ((wrap32 (x6_3 * 64)) + (wrap32 (rd l0 (ji34))))) - 128)), (wrap64 (x8_3 + 1)), (by first | rfl | (simp; done) | (simp only [← hji34] <;> (first | rfl | simp)) | (simp [*]; done)), aZ, H', ⟨by have := HJ2.out; have := HJ8.out; have := HK3.out; omega⟩, ⟨aB BK183⟩, ⟨aL HB⟩⟩
    rw [if_neg c33] at H; have c33b0 : decide (x8_3 < x5_8) = false := decide_eq_false c33
    clear c33; simp only [Option.some.injEq, Prod.mk.injEq] at H; obtain ⟨rfl, rfl, rfl⟩ := H; obtain ⟨hcz37_0, hcz37_1, hcz37_2, hfz37_0, hfz37_1, hfz37_2⟩ := aC3 BK183; go_wp2_with (first | ((with_reducible refine gate_store (t := 50) (p := 4) rfl ?_); refine store_event (t := 50) (p := 4) (v := ?vo_w38) (w1 := (((wr.setCell ⟨gb183, 0, none⟩ (.int .i32 x6_3)).setCell ⟨gb183, 1, none⟩ (.int .i64 a1)).setCell ⟨gb183, 2, none⟩ (.int .i64 x5_8))) ?hg ?ho ?hn ?hr ?_; (case ho => rfl); (case hg => rfl); (case hn => rfl); (case hr => first | (go_simp; done) | (go_simp; rfl)); intro w38 hw; have n0_ : zA (w38.heap[gb183]? = some (.cells #[.int .i32 x6_3, .int .i64 a1, .int .i64 x5_8] 50 (0, 0))) := ⟨(by rw [hw]; exact (by (with_reducible repeat (first | refine zC ?_ _ | refine zD ?_ | refine zB ?_ _)); refine blk_put (cs := #[.int .i32 x6_3, .int .i64 a1, .int .i64 0]) ?_ 2 _ rfl; (with_reducible repeat (first | refine zC ?_ _ | refine zD ?_ | refine zB ?_ _)); refine blk_put (cs := #[.int .i32 x6_3, .int .i64 0, .int .i64 0]) ?_ 1 _ rfl; (with_reducible repeat (first | refine zC ?_ _ | refine zD ?_ | refine zB ?_ _)); refine blk_put (cs := #[.int .i32 0, .int .i64 0, .int .i64 0]) ?_ 0 _ rfl; (with_reducible repeat (first | refine zC ?_ _ | refine zD ?_ | refine zB ?_ _)); exact BK183.out))⟩; have n1_ : zA (Below w.heap.size w w38) := ⟨(by rw [hw]; exact (aL HB))⟩; clear hw; clear BK183; clear HB; have BK183 := n0_; have HB := n1_; clear n0_ n1_))
    refine bodyPost_ret (results_cell_row rfl _ _ gb183 50 #[.int .i32 x6_3, .int .i64 a1, .int .i64 x5_8] (0, 0) _ rfl (aB BK183) Try.underlying50 rfl (by kernel_rfl)) rfl ?_
    exact ⟨aX, aL HB⟩
def stanzaref01_All.l0 : Nat → List Int → List (S50) → Int → Option ((List (S50)))
 | 0, _, _, _ => none
 | k + 1, x0, x3, x4 => if x4 < (x0.length : Int) then ((stanzaref01_One.f k x0 x4).bind fun bt194 => (if x3.length < 5864062014805 then (stanzaref01_All.l0 k x0 (x3 ++ [(⟨bt194.1, bt194.2.1, bt194.2.2⟩ : S50)]) (wrap64 (x4 + bt194.2.2))) else (none))) else (some x3)
def stanzaref01_All.f (k : Nat) (l0 : List Int) : Option ((List (S50))) := stanzaref01_All.l0 k l0 ([] : List (S50)) 0
theorem stanzaref01_All.mono_l : ∀ k, (∀ y0 y1 y2, LeO (stanzaref01_All.l0 k y0 y1 y2) (stanzaref01_All.l0 (k + 1) y0 y1 y2))
 | 0 => fun _ _ _ r h => by simp [stanzaref01_All.l0] at h
 | k + 1 => by
  have ih0 := stanzaref01_All.mono_l k
  ·intro y0 y1 y2
   unfold stanzaref01_All.l0
   repeat' (with_reducible first | exact ih0 _ _ _ | exact stanzaref01_One.mono _ _ _ | exact LeO.refl _ | exact LeO.none _ | refine LeO.ite ?_ ?_ | refine LeO.bind ?_ (fun _ => ?_))
theorem stanzaref01_All.mono : ∀ a0 k, LeO (stanzaref01_All.f k a0) (stanzaref01_All.f (k + 1) a0) := by
 intro a0 k
 have ih0 := stanzaref01_All.mono_l k; unfold stanzaref01_All.f
 repeat' (with_reducible first | exact ih0 _ _ _ | exact stanzaref01_One.mono _ _ _ | exact LeO.refl _ | exact LeO.none _ | refine LeO.ite ?_ ?_ | refine LeO.bind ?_ (fun _ => ?_))
set_option maxHeartbeats 8000000 in
set_option maxRecDepth 100000 in
theorem stanzaref01_All.calls (k : Nat) (A0 : Option Addr) (c0 : Nat) (l0 : List Int) (r : List (S50)) (w : World) (hr0 : Kd.C (Kd.int .u8) w A0 l0.length l0) (hc0 : l0.length ≤ c0) (h : stanzaref01_All.f k l0 = some r) :
  Calls Try.prog 16 #[.slice A0 l0.length c0] w fun e w' => ∃ v0_ : Value, e = .returned (v0_) ∧ Kd.R k50 50 w' w.heap.size (fun _ => True) v0_ r ∧ Below w.heap.size w w' := by
 have hu50 := Try.underlying50; have HR0 := zA.mk hr0; have HC0 := zA.mk hc0; clear hr0 hc0; have HB := zA.mk (Below.refl w.heap.size w); have H : (stanzaref01_All.l0 k l0 ([] : List (S50)) 0) = some r := h
 clear h; have H' := zA.mk H
 clear H; go_enter Try.func16, Try.ntmps16
 go_wp2
 go_loopg [3, 4] k (fun kq v3 v4 w' => ∃ (x3_1 : List (S50)) (x4_1 : Int), v4 = .int .i64 x4_1 ∧ zA (stanzaref01_All.l0 kq l0 x3_1 x4_1 = some r) ∧ zA (kq ≤ k) ∧ zA (Kd.R k50 50 w' w.heap.size (fun _ => True) v3 x3_1) ∧ zA (Below w.heap.size w w'))
 case atStart => exact ⟨(([] : List (S50))), (0), aZ, H', ⟨Nat.le_refl _⟩, ⟨by first | exact Kd.R_nil _ _ _ _ _ | exact Kd.N_nil _ _ _ _ _ | exact Kd.V_nil _ _ _ _ _ | exact Kd.Q_nil _ _ _ _ _ | exact Kd.S_nil _ _ _ _ _⟩, ⟨aL HB⟩⟩
 clear H'; obtain ⟨x3_1, x4_1, rfl, HA, HK1, HO_3, HB⟩ := hrel; cases gk with
 | zero => exact absurd HA.out (by simp [stanzaref01_All.l0])
 | succ k1 =>
  have H := HA.out; clear HA; simp only [stanzaref01_All.l0] at H; by_cases c2 : x4_1 < (l0.length : Int)
  rotate_left
  ·rw [if_neg c2] at H
   have c2b0 : decide (x4_1 < (l0.length : Int)) = false := decide_eq_false c2
   clear c2; obtain rfl := Option.some.inj H
   go_wp2
   go_ret
   exact ⟨_, aX, aR HO_3, aL HB⟩
  rw [if_pos c2] at H; have c2b0 : decide (x4_1 < (l0.length : Int)) = true := decide_eq_true c2
  clear c2; replace H := Option.bind_eq_some_iff.mp H; obtain ⟨⟨t194, t195, t196⟩, A30, H⟩ := H; replace H : (if x3_1.length < 5864062014805 then (stanzaref01_All.l0 k1 l0 (x3_1 ++ [(⟨t194, t195, t196⟩ : S50)]) (wrap64 (x4_1 + t196))) else (none)) = some r := H; have A3 := zA.mk A30; clear A30; by_cases c4 : x3_1.length < 5864062014805
  rotate_left
  ·rw [if_neg c4] at H
   exact absurd H (by simp)
  rw [if_pos c4] at H; have LMc4 := zA.mk c4; clear c4; obtain ⟨y198, hy198⟩ : ∃ y_ : List (S50), y_ = (x3_1 ++ [(⟨t194, t195, t196⟩ : S50)]) := ⟨_, rfl⟩; replace H : (stanzaref01_All.l0 k1 l0 y198 (wrap64 (x4_1 + t196))) = some r := by first | (rw [hy198]; with_reducible exact H) | (have H2_ := (Option.bind_some _ _).symm.trans H; rw [hy198]; with_reducible exact H2_) | (have H2_ := (Option.bind_some _ _).symm.trans H; with_reducible exact H2_) | with_reducible exact H | (rw [hy198]; exact H) | exact H
  have Ny198 := zA.mk hy198; clear hy198; have H' := zA.mk H
  clear H; go_wp2_with (first | ((with_reducible refine gate_callee (f := 35) rfl ?_); refine goesL_ (some 12) rfl rfl Try.func35 (by kernel_rfl) rfl #[.slice A0 l0.length c0, .int .i64 x4_1] rfl aT ?_; (with_reducible refine (stanzaref01_One.calls k1 _ _ l0 x4_1 t194 t195 t196 _ ?side1 ?side2 A3.out).mono ?_); (case side1 => exact aA HR0 HB); (case side2 => exact HC0.out); rintro e w5 ⟨rfl, hb⟩; refine ⟨_, rfl, ?_⟩; replace HO_3 := zA.mk (Kd.zM (aR HO_3) hb); replace HB := zA.mk (below_step (aL HB) hb); (try clear hb); (try clear hb2); (try clear hk); (try clear hi)) | ((with_reducible refine gate_dst (N := 5) rfl ?_); refine box_event ?hg (N := 5) ?hd (cs := #[.int .i32 0, .int .i64 0, .int .i64 0]) (t := 50) ?hr ?_; (case hd => rfl); (case hg => rfl); (case hr => first | (go_simp; done) | (go_simp; rfl)); intro gb197 hg w6 hbox hb; replace HO_3 := zA.mk (Kd.zM (Kd.R_elderB (aR HO_3) gb197 (Nat.le_of_eq hg.symm)) hb); have BK197 := zA.mk (hbox); have GW197 := zA.mk ((by rw [hg]; exact (below_size (aL HB)) : w.heap.size ≤ gb197)); replace HB := zA.mk (below_step (aL HB) hb); have GE197 := GW197; clear hb hbox hg; obtain ⟨hcz7_0, hcz7_1, hcz7_2, hfz7_0, hfz7_1, hfz7_2⟩ := aC3 BK197) | ((with_reducible refine gate_store (t := 50) (p := 5) rfl ?_); refine store_event (t := 50) (p := 5) (v := ?vo_w8) (w1 := (((w6.setCell ⟨gb197, 0, none⟩ (.int .i32 t194)).setCell ⟨gb197, 1, none⟩ (.int .i64 t195)).setCell ⟨gb197, 2, none⟩ (.int .i64 t196))) ?hg ?ho ?hn ?hr ?_; (case ho => rfl); (case hg => rfl); (case hn => rfl); (case hr => first | (go_simp; done) | (go_simp; rfl)); intro w8 hw; have n0_ : zA (Kd.R k50 50 w8 w.heap.size (fun k_ => k_ ≠ gb197) u3 x3_1) := ⟨(by rw [hw]; exact (by (with_reducible repeat (first | apply Kd.zE | apply Kd.zF | apply Kd.zG)); exact Kd.zQ (Kd.zN (p := ⟨gb197, 2, none⟩) (Kd.zN (p := ⟨gb197, 1, none⟩) (Kd.zN (p := ⟨gb197, 0, none⟩) (Kd.zQ HO_3.out (fun k_ hk => (⟨hk, hk.2⟩ : _ ∧ k_ ≠ gb197))) (fun _ hk => hk.2) (.int .i32 t194)) (fun _ hk => hk.2) (.int .i64 t195)) (fun _ hk => hk.2) (.int .i64 t196)) (fun _ hk => hk.1.2)))⟩; have n1_ : zA (w8.heap[gb197]? = some (.cells #[.int .i32 t194, .int .i64 t195, .int .i64 t196] 50 (0, 0))) := ⟨(by rw [hw]; exact (by (with_reducible repeat (first | refine zC ?_ _ | refine zD ?_ | refine zB ?_ _)); refine blk_put (cs := #[.int .i32 t194, .int .i64 t195, .int .i64 0]) ?_ 2 _ rfl; (with_reducible repeat (first | refine zC ?_ _ | refine zD ?_ | refine zB ?_ _)); refine blk_put (cs := #[.int .i32 t194, .int .i64 0, .int .i64 0]) ?_ 1 _ rfl; (with_reducible repeat (first | refine zC ?_ _ | refine zD ?_ | refine zB ?_ _)); refine blk_put (cs := #[.int .i32 0, .int .i64 0, .int .i64 0]) ?_ 0 _ rfl; (with_reducible repeat (first | refine zC ?_ _ | refine zD ?_ | refine zB ?_ _)); exact BK197.out))⟩; have n2_ : zA (Below w.heap.size w w8) := ⟨(by rw [hw]; exact (aL HB))⟩; clear hw; clear HO_3; clear BK197; clear HB; have HO_3 := n0_; have BK197 := n1_; have HB := n2_; clear n0_ n1_ n2_; obtain ⟨hcz9_0, hcz9_1, hcz9_2, hfz9_0, hfz9_1, hfz9_2⟩ := aC3 BK197) | ((with_reducible refine gate_builtin (b := .append) (xs := #[.tmp 13, .tmp 15]) rfl ?_); at_builtin; refine Kd.R_append k50 (w0 := w) w.heap.size rfl (.tmp 13) (.tmp 15) 32 50 (.agg #[(.int .i32 0), (.int .i64 0), (.int .i64 0)]) 24 rfl Try.underlying32 info50 rfl (by decide) (by omega) u3 x3_1 (⟨t194, t195, t196⟩ : S50) [.int .i32 t194, .int .i64 t195, .int .i64 t196] (fun k_ => k_ ≠ gb197) (fun _ => False) rfl rfl ?aP (fun _ hk => hk.elim) ?aF ?aO ?aB ?aS ?aL ?_; (case aP => exact k50_mkM _ _ _ (⟨t194, t195, t196⟩ : S50)); (case aB => exact (aL HB)); (case aF => exact (fun k_ hk => Kd.freshB (g := gb197) (o := .cells #[.int .i32 t194, .int .i64 t195, .int .i64 t196] 50 (0, 0)) (aB BK197) k_ hk)); (case aO => exact (aR HO_3)); (case aS => exact (below_size (aL HB))); (case aL => have := LMc4.out; omega); intro v199 w10 ho hb hg hat; rw [← Ny198.out] at ho; replace BK197 := zA.mk (blk_grown (g := gb197) (o := .cells #[.int .i32 t194, .int .i64 t195, .int .i64 t196] 50 (0, 0)) (aB BK197) hg (Kd.R_away HO_3.out (fun _ hk => hk))); replace HB := zA.mk (hb); have HO200 := zA.mk (ho); clear HO_3; clear ho hb hg hat; obtain ⟨hcz11_0, hcz11_1, hcz11_2, hfz11_0, hfz11_1, hfz11_2⟩ := aC3 BK197))
  go_roundg k1
  case measure => have := HK1.out; omega
  case rel => exact ⟨(y198), (wrap64 (x4_1 + t196)), aZ, H', ⟨by have := HK1.out; omega⟩, ⟨by (with_reducible repeat (first | apply Kd.zE | apply Kd.zF | apply Kd.zG)); exact Kd.zQ HO200.out (fun _ hk => trivial)⟩, ⟨aL HB⟩⟩
def h3_Opps.l0 : Nat → List Int → List Int → Int → Option (List Int)
 | 0, _, _, _ => none
 | k + 1, x0, x3, x4 => if x4 < (x0.length : Int) then (if 0 ≤ x4 then (if x3.length < 140737488355328 then (h3_Opps.l0 k x0 (x3 ++ [rd x0 x4]) (wrap64 (x4 + 1))) else (none)) else (none)) else (some x3)
def h3_Opps.f (k : Nat) (l0 : List Int) : Option (List Int) := h3_Opps.l0 k l0 ([] : List Int) 0
theorem h3_Opps.mono_l : ∀ k, (∀ y0 y1 y2, LeO (h3_Opps.l0 k y0 y1 y2) (h3_Opps.l0 (k + 1) y0 y1 y2))
 | 0 => fun _ _ _ r h => by simp [h3_Opps.l0] at h
 | k + 1 => by
  have ih0 := h3_Opps.mono_l k
  ·intro y0 y1 y2
   unfold h3_Opps.l0
   repeat' (with_reducible first | exact ih0 _ _ _ | exact LeO.refl _ | exact LeO.none _ | refine LeO.ite ?_ ?_ | refine LeO.bind ?_ (fun _ => ?_))
theorem h3_Opps.mono : ∀ a0 k, LeO (h3_Opps.f k a0) (h3_Opps.f (k + 1) a0) := by
 intro a0 k
 have ih0 := h3_Opps.mono_l k; unfold h3_Opps.f
 repeat' (with_reducible first | exact ih0 _ _ _ | exact LeO.refl _ | exact LeO.none _ | refine LeO.ite ?_ ?_ | refine LeO.bind ?_ (fun _ => ?_))
set_option maxHeartbeats 8000000 in
set_option maxRecDepth 100000 in
theorem h3_Opps.calls (k : Nat) (A0 : Option Addr) (c0 : Nat) (l0 : List Int) (r : List Int) (w : World) (hr0 : Kd.C (Kd.int .u8) w A0 l0.length l0) (hc0 : l0.length ≤ c0) (h : h3_Opps.f k l0 = some r) :
  Calls Try.prog 18 #[.slice A0 l0.length c0] w fun e w' => ∃ v0_ : Value, e = .returned (v0_) ∧ Kd.R (Kd.int .u8) 53 w' w.heap.size (fun _ => True) v0_ r ∧ Below w.heap.size w w' := by
 have HR0 := zA.mk hr0; have HC0 := zA.mk hc0; clear hr0 hc0; have HB := zA.mk (Below.refl w.heap.size w); have H : (h3_Opps.l0 k l0 ([] : List Int) 0) = some r := h
 clear h; have H' := zA.mk H
 clear H; go_enter Try.func18, Try.ntmps18
 go_wp2
 go_loopg [3, 4] k (fun kq v3 v4 w' => ∃ (x3_1 : List Int) (x4_1 : Int), v4 = .int .i64 x4_1 ∧ zA (h3_Opps.l0 kq l0 x3_1 x4_1 = some r) ∧ zA (kq ≤ k) ∧ zA (Kd.R (Kd.int .u8) 53 w' w.heap.size (fun _ => True) v3 x3_1) ∧ zA (Below w.heap.size w w'))
 case atStart => exact ⟨(([] : List Int)), (0), aZ, H', ⟨Nat.le_refl _⟩, ⟨by first | exact Kd.R_nil _ _ _ _ _ | exact Kd.N_nil _ _ _ _ _ | exact Kd.V_nil _ _ _ _ _ | exact Kd.Q_nil _ _ _ _ _ | exact Kd.S_nil _ _ _ _ _⟩, ⟨aL HB⟩⟩
 clear H'; obtain ⟨x3_1, x4_1, rfl, HA, HK1, HO_3, HB⟩ := hrel; cases gk with
 | zero => exact absurd HA.out (by simp [h3_Opps.l0])
 | succ k1 =>
  have H := HA.out; clear HA; simp only [h3_Opps.l0] at H; by_cases c2 : x4_1 < (l0.length : Int)
  rotate_left
  ·rw [if_neg c2] at H
   have c2b0 : decide (x4_1 < (l0.length : Int)) = false := decide_eq_false c2
   clear c2; obtain rfl := Option.some.inj H
   go_wp2
   go_ret
   exact ⟨_, aX, aR HO_3, aL HB⟩
  rw [if_pos c2] at H; have c2b0 : decide (x4_1 < (l0.length : Int)) = true := decide_eq_true c2
  clear c2; by_cases c3 : 0 ≤ x4_1
  rotate_left
  ·rw [if_neg c3] at H
   exact absurd H (by simp)
  rw [if_pos c3] at H; have c3b0 : decide (0 ≤ x4_1) = true := decide_eq_true c3
  clear c3; by_cases c4 : x3_1.length < 140737488355328
  rotate_left
  ·rw [if_neg c4] at H
   exact absurd H (by simp)
  rw [if_pos c4] at H; have LMc4 := zA.mk c4; clear c4; obtain ⟨y202, hy202⟩ : ∃ y_ : List Int, y_ = (x3_1 ++ [rd l0 x4_1]) := ⟨_, rfl⟩; replace H : (h3_Opps.l0 k1 l0 y202 (wrap64 (x4_1 + 1))) = some r := by first | (rw [hy202]; with_reducible exact H) | (have H2_ := (Option.bind_some _ _).symm.trans H; rw [hy202]; with_reducible exact H2_) | (have H2_ := (Option.bind_some _ _).symm.trans H; with_reducible exact H2_) | with_reducible exact H | (rw [hy202]; exact H) | exact H
  have Ny202 := zA.mk hy202; clear hy202; have H' := zA.mk H
  clear H; have p201 : 0 ≤ (x4_1 : Int) := aD
  have q201 : x4_1 < (l0.length : Int) := aD
  obtain ⟨ad201, e201, hx201_0⟩ := Kd.at_int HR0.out x4_1 p201 q201; cases e201
  replace hx201_0 := (HB.out.cell (World.block_lt_of_cell? w _ hx201_0)).trans hx201_0; replace p201 := eq_true p201; replace q201 := eq_true q201; go_wp2_with (first | ((with_reducible refine gate_builtin (b := .append) (xs := #[.tmp 11, .tmp 16]) rfl ?_); at_builtin; refine Kd.R_append (Kd.int .u8) (w0 := w) w.heap.size rfl (.tmp 11) (.tmp 16) 38 53 (.int .u8 0) 1 rfl Try.underlying38 info53 rfl (by decide) (by omega) u3 x3_1 (rd l0 x4_1) [.int .u8 (rd l0 x4_1)] (fun _ => True) (fun _ => False) rfl rfl ?aP (fun _ hk => hk.elim) ?aF ?aO ?aB ?aS ?aL ?_; (case aP => exact rfl); (case aB => exact (aL HB)); (case aF => exact (fun _ _ => trivial)); (case aO => exact (aR HO_3)); (case aS => exact (below_size (aL HB))); (case aL => have := LMc4.out; omega); intro v203 w5 ho hb hg hat; rw [← Ny202.out] at ho; replace HB := zA.mk (hb); have HO204 := zA.mk (ho); clear HO_3; clear ho hb hg hat))
  go_roundg k1
  case measure => have := HK1.out; omega
  case rel => exact ⟨(y202), (wrap64 (x4_1 + 1)), aZ, H', ⟨by have := HK1.out; omega⟩, ⟨aR HO204⟩, ⟨aL HB⟩⟩
mutual
def stanzalaw10_CellsWhole.l0 : Nat → List Int → List Int → List (S45) → List Int → Int → Int → Option (Bool)
 | 0, _, _, _, _, _, _ => none
 | k + 1, x0, x1, x7, x27, x28, x29 => if x29 < x28 then (if 0 ≤ x29 then (if x29 < (x27.length : Int) then (if x29 < 200 then (if x7.length < 8796093022208 then (stanzalaw10_CellsWhole.l0 k x0 x1 (x7 ++ [(⟨wrap32 (x29), wrap32 (x29), wrap64 (Int.tmod (rd x27 x29) 3)⟩ : S45)]) x27 x28 (wrap64 (x29 + 1))) else (none)) else (stanzalaw10_CellsWhole.l0 k x0 x1 x7 x27 x28 (wrap64 (x29 + 1)))) else (none)) else (none)) else (if prop_Make.c x7 3 = true then ((prop_MakeY.f x7 3).bind fun t212 => ((h3_Words.f k x0).bind fun t213 => ((stanzaref01_All.f k t213).bind fun t216 => ((h3_Opps.f k x1).bind fun t219 => ((cells_Make.f k t216 t219 t212).bind fun bt222 => (if (bt222.2.length : Int) = (wrap64 ((bt222.1.length : Int) + 1)) then (if 0 ≤ (bt222.1.length : Int) then (if (bt222.1.length : Int) < (bt222.2.length : Int) then (stanzalaw10_CellsWhole.j1 k t212 t213 t216 bt222.1 bt222.2 ((rd bt222.2 (bt222.1.length : Int)) != (t216.length : Int))) else (none)) else (none)) else (stanzalaw10_CellsWhole.j1 k t212 t213 t216 bt222.1 bt222.2 true))))))) else ((prop_MakeN.f x7 3).bind fun _ => (some false)))
def stanzalaw10_CellsWhole.j1 : Nat → Option (List (Int × Int × Int)) → List Int → List (S50) → List (S48) → List Int → Bool → Option (Bool)
 | 0, _, _, _, _, _, _ => none
 | k + 1, x10, x12, x13, x14, x15, x82 => if x82 = true then (some false) else (stanzalaw10_CellsWhole.l1 k x10 x12 x13 x15 0 x14 (x14.length : Int) 0)
def stanzalaw10_CellsWhole.l1 : Nat → Option (List (Int × Int × Int)) → List Int → List (S50) → List Int → Int → List (S48) → Int → Int → Option (Bool)
 | 0, _, _, _, _, _, _, _, _ => none
 | k + 1, x10, x12, x13, x15, x16, x83, x84, x85 => if x85 < x84 then (if 0 ≤ x85 then (if x85 < (x83.length : Int) then (if ((rd_T48 x83 x85).f0) = x16 then (if 0 ≤ (wrap64 (x85 + 1)) then (if (wrap64 (x85 + 1)) < (x15.length : Int) then (if x85 < (x15.length : Int) then (if (rd x15 (wrap64 (x85 + 1))) ≤ (rd x15 x85) then (stanzalaw10_CellsWhole.j3 k x10 x12 x13 x15 x16 x85 x83 x84 x85 true ((rd_T48 x83 x85).f0) ((rd_T48 x83 x85).f1) ((rd_T48 x83 x85).f2) ((rd_T48 x83 x85).f3)) else (if 0 ≤ (rd x15 x85) then (if (rd x15 x85) < (x13.length : Int) then (stanzalaw10_CellsWhole.j3 k x10 x12 x13 x15 x16 x85 x83 x84 x85 (((rd_T50 x13 (rd x15 x85)).f1) != x16) ((rd_T48 x83 x85).f0) ((rd_T48 x83 x85).f1) ((rd_T48 x83 x85).f2) ((rd_T48 x83 x85).f3)) else (none)) else (none))) else (none)) else (none)) else (none)) else (stanzalaw10_CellsWhole.j3 k x10 x12 x13 x15 x16 x85 x83 x84 x85 true ((rd_T48 x83 x85).f0) ((rd_T48 x83 x85).f1) ((rd_T48 x83 x85).f2) ((rd_T48 x83 x85).f3))) else (none)) else (none)) else (some (x16 == (x12.length : Int)))
def stanzalaw10_CellsWhole.j3 : Nat → Option (List (Int × Int × Int)) → List Int → List (S50) → List Int → Int → Int → List (S48) → Int → Int → Bool → Int → Int → Int → Int → Option (Bool)
 | 0, _, _, _, _, _, _, _, _, _, _, _, _, _, _ => none
 | k + 1, x10, x12, x13, x15, x16, x17, x83, x84, x85, x117, x231000, x231001, x231002, x231003 => if x117 = true then (some false) else (if 0 ≤ x17 then (if x17 < (x15.length : Int) then (if 0 ≤ (wrap64 (x17 + 1)) then (if (wrap64 (x17 + 1)) < (x15.length : Int) then (if 0 ≤ (rd x15 x17) then (if (rd x15 x17) ≤ (rd x15 (wrap64 (x17 + 1))) then (if (rd x15 (wrap64 (x17 + 1))) ≤ (x13.length : Int) then ((some ((x13.take ((rd x15 (wrap64 (x17 + 1))) : Int).toNat).drop ((rd x15 x17) : Int).toNat : List (S50))).bind fun y237 => (stanzalaw10_CellsWhole.l2 k x10 x12 x13 x15 x16 0 x83 x84 x85 y237 (y237.length : Int) 0 x231000 x231001 x231002 x231003)) else (none)) else (none)) else (none)) else (none)) else (none)) else (none)) else (none))
def stanzalaw10_CellsWhole.l2 : Nat → Option (List (Int × Int × Int)) → List Int → List (S50) → List Int → Int → Int → List (S48) → Int → Int → List (S50) → Int → Int → Int → Int → Int → Int → Option (Bool)
 | 0, _, _, _, _, _, _, _, _, _, _, _, _, _, _, _, _ => none
 | k + 1, x10, x12, x13, x15, x16, x19, x83, x84, x85, x128, x129, x130, x231000, x231001, x231002, x231003 => if x130 < x129 then (if 0 ≤ x130 then (if x130 < (x128.length : Int) then ((prop_Table_Of.f x10 ((rd_T50 x128 x130).f0)).bind fun t243 => (stanzalaw10_CellsWhole.l2 k x10 x12 x13 x15 x16 (mx x19 t243) x83 x84 x85 x128 x129 (wrap64 (x130 + 1)) x231000 x231001 x231002 x231003)) else (none)) else (none)) else (if x231002 = x19 then (if x231002 > 2 then (some false) else (stanzalaw10_CellsWhole.l1 k x10 x12 x13 x15 (wrap64 (x16 + x231001)) x83 x84 (wrap64 (x85 + 1)))) else (some false))
end
def stanzalaw10_CellsWhole.f (k : Nat) (l0 : List Int) (l1 : List Int) (l2 : List Int) : Option (Bool) := (stanzalaw10_Awake.f k).bind fun t205 => (if t205 = true then (if (l0.length : Int) > 500 then (some true) else (stanzalaw10_CellsWhole.l0 k l0 l1 ([] : List (S45)) l2 (l2.length : Int) 0)) else (some false))
theorem stanzalaw10_CellsWhole.mono_l : ∀ k, (∀ y0 y1 y2 y3 y4 y5, LeO (stanzalaw10_CellsWhole.l0 k y0 y1 y2 y3 y4 y5) (stanzalaw10_CellsWhole.l0 (k + 1) y0 y1 y2 y3 y4 y5)) ∧ (∀ y0 y1 y2 y3 y4 y5, LeO (stanzalaw10_CellsWhole.j1 k y0 y1 y2 y3 y4 y5) (stanzalaw10_CellsWhole.j1 (k + 1) y0 y1 y2 y3 y4 y5)) ∧ (∀ y0 y1 y2 y3 y4 y5 y6 y7, LeO (stanzalaw10_CellsWhole.l1 k y0 y1 y2 y3 y4 y5 y6 y7) (stanzalaw10_CellsWhole.l1 (k + 1) y0 y1 y2 y3 y4 y5 y6 y7)) ∧ (∀ y0 y1 y2 y3 y4 y5 y6 y7 y8 y9 y10 y11 y12 y13, LeO (stanzalaw10_CellsWhole.j3 k y0 y1 y2 y3 y4 y5 y6 y7 y8 y9 y10 y11 y12 y13) (stanzalaw10_CellsWhole.j3 (k + 1) y0 y1 y2 y3 y4 y5 y6 y7 y8 y9 y10 y11 y12 y13)) ∧ (∀ y0 y1 y2 y3 y4 y5 y6 y7 y8 y9 y10 y11 y12 y13 y14 y15, LeO (stanzalaw10_CellsWhole.l2 k y0 y1 y2 y3 y4 y5 y6 y7 y8 y9 y10 y11 y12 y13 y14 y15) (stanzalaw10_CellsWhole.l2 (k + 1) y0 y1 y2 y3 y4 y5 y6 y7 y8 y9 y10 y11 y12 y13 y14 y15))
 | 0 => ⟨fun _ _ _ _ _ _ r h => by simp [stanzalaw10_CellsWhole.l0] at h, fun _ _ _ _ _ _ r h => by simp [stanzalaw10_CellsWhole.j1] at h, fun _ _ _ _ _ _ _ _ r h => by simp [stanzalaw10_CellsWhole.l1] at h, fun _ _ _ _ _ _ _ _ _ _ _ _ _ _ r h => by simp [stanzalaw10_CellsWhole.j3] at h, fun _ _ _ _ _ _ _ _ _ _ _ _ _ _ _ _ r h => by simp [stanzalaw10_CellsWhole.l2] at h⟩
 | k + 1 => by
  obtain ⟨ih0, ih1, ih2, ih3, ih4⟩ := stanzalaw10_CellsWhole.mono_l k; refine ⟨?_, ?_, ?_, ?_, ?_⟩
  ·intro y0 y1 y2 y3 y4 y5
   unfold stanzalaw10_CellsWhole.l0
   repeat' (with_reducible first | exact ih0 _ _ _ _ _ _ | exact ih1 _ _ _ _ _ _ | exact ih2 _ _ _ _ _ _ _ _ | exact ih3 _ _ _ _ _ _ _ _ _ _ _ _ _ _ | exact ih4 _ _ _ _ _ _ _ _ _ _ _ _ _ _ _ _ | exact cells_Make.mono _ _ _ _ | exact h3_Opps.mono _ _ | exact h3_Words.mono _ _ | exact stanzalaw10_Awake.mono _ | exact stanzaref01_All.mono _ _ | exact LeO.refl _ | exact LeO.none _ | refine LeO.ite ?_ ?_ | refine LeO.bind ?_ (fun _ => ?_))
  ·intro y0 y1 y2 y3 y4 y5
   unfold stanzalaw10_CellsWhole.j1
   repeat' (with_reducible first | exact ih0 _ _ _ _ _ _ | exact ih1 _ _ _ _ _ _ | exact ih2 _ _ _ _ _ _ _ _ | exact ih3 _ _ _ _ _ _ _ _ _ _ _ _ _ _ | exact ih4 _ _ _ _ _ _ _ _ _ _ _ _ _ _ _ _ | exact cells_Make.mono _ _ _ _ | exact h3_Opps.mono _ _ | exact h3_Words.mono _ _ | exact stanzalaw10_Awake.mono _ | exact stanzaref01_All.mono _ _ | exact LeO.refl _ | exact LeO.none _ | refine LeO.ite ?_ ?_ | refine LeO.bind ?_ (fun _ => ?_))
  ·intro y0 y1 y2 y3 y4 y5 y6 y7
   unfold stanzalaw10_CellsWhole.l1
   repeat' (with_reducible first | exact ih0 _ _ _ _ _ _ | exact ih1 _ _ _ _ _ _ | exact ih2 _ _ _ _ _ _ _ _ | exact ih3 _ _ _ _ _ _ _ _ _ _ _ _ _ _ | exact ih4 _ _ _ _ _ _ _ _ _ _ _ _ _ _ _ _ | exact cells_Make.mono _ _ _ _ | exact h3_Opps.mono _ _ | exact h3_Words.mono _ _ | exact stanzalaw10_Awake.mono _ | exact stanzaref01_All.mono _ _ | exact LeO.refl _ | exact LeO.none _ | refine LeO.ite ?_ ?_ | refine LeO.bind ?_ (fun _ => ?_))
  ·intro y0 y1 y2 y3 y4 y5 y6 y7 y8 y9 y10 y11 y12 y13
   unfold stanzalaw10_CellsWhole.j3
   repeat' (with_reducible first | exact ih0 _ _ _ _ _ _ | exact ih1 _ _ _ _ _ _ | exact ih2 _ _ _ _ _ _ _ _ | exact ih3 _ _ _ _ _ _ _ _ _ _ _ _ _ _ | exact ih4 _ _ _ _ _ _ _ _ _ _ _ _ _ _ _ _ | exact cells_Make.mono _ _ _ _ | exact h3_Opps.mono _ _ | exact h3_Words.mono _ _ | exact stanzalaw10_Awake.mono _ | exact stanzaref01_All.mono _ _ | exact LeO.refl _ | exact LeO.none _ | refine LeO.ite ?_ ?_ | refine LeO.bind ?_ (fun _ => ?_))
  ·intro y0 y1 y2 y3 y4 y5 y6 y7 y8 y9 y10 y11 y12 y13 y14 y15
   unfold stanzalaw10_CellsWhole.l2
   repeat' (with_reducible first | exact ih0 _ _ _ _ _ _ | exact ih1 _ _ _ _ _ _ | exact ih2 _ _ _ _ _ _ _ _ | exact ih3 _ _ _ _ _ _ _ _ _ _ _ _ _ _ | exact ih4 _ _ _ _ _ _ _ _ _ _ _ _ _ _ _ _ | exact cells_Make.mono _ _ _ _ | exact h3_Opps.mono _ _ | exact h3_Words.mono _ _ | exact stanzalaw10_Awake.mono _ | exact stanzaref01_All.mono _ _ | exact LeO.refl _ | exact LeO.none _ | refine LeO.ite ?_ ?_ | refine LeO.bind ?_ (fun _ => ?_))
theorem stanzalaw10_CellsWhole.mono : ∀ a0 a1 a2 k, LeO (stanzalaw10_CellsWhole.f k a0 a1 a2) (stanzalaw10_CellsWhole.f (k + 1) a0 a1 a2) := by
 intro a0 a1 a2 k
 obtain ⟨ih0, ih1, ih2, ih3, ih4⟩ := stanzalaw10_CellsWhole.mono_l k; unfold stanzalaw10_CellsWhole.f
 repeat' (with_reducible first | exact ih0 _ _ _ _ _ _ | exact ih1 _ _ _ _ _ _ | exact ih2 _ _ _ _ _ _ _ _ | exact ih3 _ _ _ _ _ _ _ _ _ _ _ _ _ _ | exact ih4 _ _ _ _ _ _ _ _ _ _ _ _ _ _ _ _ | exact cells_Make.mono _ _ _ _ | exact h3_Opps.mono _ _ | exact h3_Words.mono _ _ | exact stanzalaw10_Awake.mono _ | exact stanzaref01_All.mono _ _ | exact LeO.refl _ | exact LeO.none _ | refine LeO.ite ?_ ?_ | refine LeO.bind ?_ (fun _ => ?_))
set_option maxHeartbeats 8000000 in
set_option maxRecDepth 100000 in
theorem stanzalaw10_CellsWhole.calls (k : Nat) (A0 : Option Addr) (c0 : Nat) (l0 : List Int) (A1 : Option Addr) (c1 : Nat) (l1 : List Int) (A2 : Option Addr) (c2 : Nat) (l2 : List Int) (r : Bool) (w : World) (hr0 : Kd.C (Kd.int .u8) w A0 l0.length l0) (hc0 : l0.length ≤ c0) (hr1 : Kd.C (Kd.int .u8) w A1 l1.length l1) (hc1 : l1.length ≤ c1) (hr2 : Kd.C (Kd.int .u8) w A2 l2.length l2) (hc2 : l2.length ≤ c2) (h : stanzalaw10_CellsWhole.f k l0 l1 l2 = some r) (hrt_ : zA (r = true)) :
  Calls Try.prog 4 #[.slice A0 l0.length c0, .slice A1 l1.length c1, .slice A2 l2.length c2] w fun e w' => e = .returned (.bool r) ∧ Below w.heap.size w w' := by
 have hu45 := Try.underlying45; have hu48 := Try.underlying48; have hu50 := Try.underlying50; have HR0 := zA.mk hr0; have HC0 := zA.mk hc0; clear hr0 hc0; have HR1 := zA.mk hr1; have HC1 := zA.mk hc1; clear hr1 hc1; have HR2 := zA.mk hr2; have HC2 := zA.mk hc2; clear hr2 hc2; have HB := zA.mk (Below.refl w.heap.size w); have H : ((stanzalaw10_Awake.f k).bind fun t205 => (if t205 = true then (if (l0.length : Int) > 500 then (some true) else (stanzalaw10_CellsWhole.l0 k l0 l1 ([] : List (S45)) l2 (l2.length : Int) 0)) else (some false))) = some r := h
 clear h; replace H := Option.bind_eq_some_iff.mp H; obtain ⟨t205, A40, H⟩ := H; replace H : (if t205 = true then (if (l0.length : Int) > 500 then (some true) else (stanzalaw10_CellsWhole.l0 k l0 l1 ([] : List (S45)) l2 (l2.length : Int) 0)) else (some false)) = some r := H; have A4 := zA.mk A40; clear A40; by_cases c5 : t205 = true
 rotate_left
 ·replace c5 := Bool.eq_false_iff.mpr c5
  subst c5; have H1 : (some false) = some r := by rw [if_neg (show ¬ (false = true) by decide)] at H; exact H
  clear H; have H := H1; clear H1; exact absurd ((Option.some.inj H).trans hrt_.out) (by decide)
 subst c5; have H1 : (if (l0.length : Int) > 500 then (some true) else (stanzalaw10_CellsWhole.l0 k l0 l1 ([] : List (S45)) l2 (l2.length : Int) 0)) = some r := by rw [if_pos rfl] at H; exact H
 clear H; have H := H1; clear H1; by_cases c6 : (l0.length : Int) > 500
 ·rw [if_pos c6] at H
  have c6b0 : decide (500 < (l0.length : Int)) = true := decide_eq_true c6
  have c6b1 : decide (500 < l0.length) = true := decide_eq_true (by omega)
  clear c6; obtain rfl := Option.some.inj H
  go_enter Try.func4, Try.ntmps4
  go_wp2_with (first | (go_at_call 12; (with_reducible refine (stanzalaw10_Awake.calls k  true _ A4.out (by first | exact ⟨rfl⟩ | exact hrt_)).mono ?_); rintro e w7 ⟨rfl, hb⟩; have n0_ := zA.mk (below_step (aL HB) hb); clear HB; have HB := n0_; clear n0_; (try clear hb); (try clear hb2); (try clear hk); (try clear hi)))
  repeat (go_quiet (first | (go_at_call 12; (with_reducible refine (stanzalaw10_Awake.calls k  true _ A4.out (by first | exact ⟨rfl⟩ | exact hrt_)).mono ?_); rintro e w7 ⟨rfl, hb⟩; have n0_ := zA.mk (below_step (aL HB) hb); clear HB; have HB := n0_; clear n0_; (try clear hb); (try clear hb2); (try clear hk); (try clear hi))); try go_wp2_with (first | (go_at_call 12; (with_reducible refine (stanzalaw10_Awake.calls k  true _ A4.out (by first | exact ⟨rfl⟩ | exact hrt_)).mono ?_); rintro e w7 ⟨rfl, hb⟩; have n0_ := zA.mk (below_step (aL HB) hb); clear HB; have HB := n0_; clear n0_; (try clear hb); (try clear hb2); (try clear hk); (try clear hi))))
  go_ret
  exact ⟨aX, aL HB⟩
 rw [if_neg c6] at H; have c6b0 : decide (500 < (l0.length : Int)) = false := decide_eq_false c6
 have c6b1 : decide (500 < l0.length) = false := decide_eq_false (by omega)
 clear c6; have H' := zA.mk H
 clear H; go_enter Try.func4, Try.ntmps4
 go_wp2_with (first | (go_at_call 12; (with_reducible refine (stanzalaw10_Awake.calls k  true _ A4.out (by first | exact ⟨rfl⟩ | exact hrt_)).mono ?_); rintro e w8 ⟨rfl, hb⟩; have n0_ := zA.mk (below_step (aL HB) hb); clear HB; have HB := n0_; clear n0_; (try clear hb); (try clear hb2); (try clear hk); (try clear hi)))
 repeat (go_quiet (first | (go_at_call 12; (with_reducible refine (stanzalaw10_Awake.calls k  true _ A4.out (by first | exact ⟨rfl⟩ | exact hrt_)).mono ?_); rintro e w8 ⟨rfl, hb⟩; have n0_ := zA.mk (below_step (aL HB) hb); clear HB; have HB := n0_; clear n0_; (try clear hb); (try clear hb2); (try clear hk); (try clear hi))); try go_wp2_with (first | (go_at_call 12; (with_reducible refine (stanzalaw10_Awake.calls k  true _ A4.out (by first | exact ⟨rfl⟩ | exact hrt_)).mono ?_); rintro e w8 ⟨rfl, hb⟩; have n0_ := zA.mk (below_step (aL HB) hb); clear HB; have HB := n0_; clear n0_; (try clear hb); (try clear hb2); (try clear hk); (try clear hi))))
 go_loopg [7, 29] k (fun kq v7 v29 w' => ∃ (x7_1 : List (S45)) (x29_1 : Int), v29 = .int .i64 x29_1 ∧ zA (stanzalaw10_CellsWhole.l0 kq l0 l1 x7_1 l2 (l2.length : Int) x29_1 = some r) ∧ zA (kq ≤ k) ∧ zA (Kd.R k45 45 w' w.heap.size (fun _ => True) v7 x7_1) ∧ zA (Below w.heap.size w w'))
 case atStart => exact ⟨(([] : List (S45))), (0), aZ, H', ⟨Nat.le_refl _⟩, ⟨by first | exact Kd.R_nil _ _ _ _ _ | exact Kd.N_nil _ _ _ _ _ | exact Kd.V_nil _ _ _ _ _ | exact Kd.Q_nil _ _ _ _ _ | exact Kd.S_nil _ _ _ _ _⟩, ⟨aL HB⟩⟩
 clear H'; try clear c1
 try clear c2
 try clear p2
 try clear c4
 try clear c5
 try clear c6
 try clear c6b0
 try clear c6b1
 obtain ⟨x7_1, x29_1, rfl, HA, HK1, HO_7, HB⟩ := hrel; cases gk with
 | zero => exact absurd HA.out (by simp [stanzalaw10_CellsWhole.l0])
 | succ k1 =>
  have H := HA.out; clear HA; simp only [stanzalaw10_CellsWhole.l0] at H; by_cases c9 : x29_1 < (l2.length : Int)
  ·rw [if_pos c9] at H
   have c9b0 : decide (x29_1 < (l2.length : Int)) = true := decide_eq_true c9
   clear c9; by_cases c10 : 0 ≤ x29_1
   rotate_left
   ·rw [if_neg c10] at H
    exact absurd H (by simp)
   rw [if_pos c10] at H; have c10b0 : decide (0 ≤ x29_1) = true := decide_eq_true c10
   clear c10; by_cases c11 : x29_1 < (l2.length : Int)
   rotate_left
   ·rw [if_neg c11] at H
    exact absurd H (by simp)
   rw [if_pos c11] at H; have c11b0 : decide (x29_1 < (l2.length : Int)) = true := decide_eq_true c11
   clear c11; by_cases c12 : x29_1 < 200
   rotate_left
   ·rw [if_neg c12] at H
    have c12b0 : decide (x29_1 < 200) = false := decide_eq_false c12
    clear c12; have H' := zA.mk H
    clear H; have p206 : 0 ≤ (x29_1 : Int) := aD
    have q206 : x29_1 < (l2.length : Int) := aD
    obtain ⟨ad206, e206, hx206_0⟩ := Kd.at_int HR2.out x29_1 p206 q206; cases e206
    replace hx206_0 := (HB.out.cell (World.block_lt_of_cell? w _ hx206_0)).trans hx206_0; replace p206 := eq_true p206; replace q206 := eq_true q206; go_wp2
    repeat (go_quiet (fail); try go_wp2)
    go_roundg k1
    case measure => have := HK1.out; omega
    case rel => exact ⟨(x7_1), (wrap64 (x29_1 + 1)), aZ, H', ⟨by have := HK1.out; omega⟩, ⟨aR HO_7⟩, ⟨aL HB⟩⟩
   rw [if_pos c12] at H; have c12b0 : decide (x29_1 < 200) = true := decide_eq_true c12
   clear c12; by_cases c13 : x7_1.length < 8796093022208
   rotate_left
   ·rw [if_neg c13] at H
    exact absurd H (by simp)
   rw [if_pos c13] at H; have LMc13 := zA.mk c13; clear c13; obtain ⟨y207, hy207⟩ : ∃ y_ : List (S45), y_ = (x7_1 ++ [(⟨wrap32 (x29_1), wrap32 (x29_1), wrap64 (Int.tmod (rd l2 x29_1) 3)⟩ : S45)]) := ⟨_, rfl⟩; replace H : (stanzalaw10_CellsWhole.l0 k1 l0 l1 y207 l2 (l2.length : Int) (wrap64 (x29_1 + 1))) = some r := by first | (rw [hy207]; with_reducible exact H) | (have H2_ := (Option.bind_some _ _).symm.trans H; rw [hy207]; with_reducible exact H2_) | (have H2_ := (Option.bind_some _ _).symm.trans H; with_reducible exact H2_) | with_reducible exact H | (rw [hy207]; exact H) | exact H
   have Ny207 := zA.mk hy207; clear hy207; have H' := zA.mk H
   clear H; have p206 : 0 ≤ (x29_1 : Int) := aD
   have q206 : x29_1 < (l2.length : Int) := aD
   obtain ⟨ad206, e206, hx206_0⟩ := Kd.at_int HR2.out x29_1 p206 q206; cases e206
   replace hx206_0 := (HB.out.cell (World.block_lt_of_cell? w _ hx206_0)).trans hx206_0; replace p206 := eq_true p206; replace q206 := eq_true q206; go_wp2_with (first | ((with_reducible refine gate_builtin (b := .append) (xs := #[.tmp 36, .tmp 45]) rfl ?_); (try (refine gate_guard (by rfl) ?_; dsimp only)); at_builtin; refine Kd.R_append k45 (w0 := w) w.heap.size rfl (.tmp 36) (.tmp 45) 23 45 (.agg #[(.int .i32 0), (.int .i32 0), (.int .i64 0)]) 16 rfl Try.underlying23 info45 rfl (by decide) (by omega) u7 x7_1 (⟨wrap32 (x29_1), wrap32 (x29_1), wrap64 (Int.tmod (rd l2 x29_1) 3)⟩ : S45) [.int .i32 (wrap32 (x29_1)), .int .i32 (wrap32 (x29_1)), .int .i64 (wrap64 (Int.tmod (rd l2 x29_1) 3))] (fun _ => True) (fun _ => False) rfl rfl ?aP (fun _ hk => hk.elim) ?aF ?aO ?aB ?aS ?aL ?_; (case aP => exact k45_mkM _ _ _ (⟨wrap32 (x29_1), wrap32 (x29_1), wrap64 (Int.tmod (rd l2 x29_1) 3)⟩ : S45)); (case aB => exact (aL HB)); (case aF => exact (fun _ _ => trivial)); (case aO => exact (aR HO_7)); (case aS => exact (below_size (aL HB))); (case aL => have := LMc13.out; omega); intro v208 w14 ho hb hg hat; rw [← Ny207.out] at ho; have n0_ := zA.mk (hb); have n1_ := zA.mk (ho); clear HB; clear HO_7; have HB := n0_; have HO209 := n1_; clear n0_ n1_; clear ho hb hg hat))
   repeat (go_quiet (first | ((with_reducible refine gate_builtin (b := .append) (xs := #[.tmp 36, .tmp 45]) rfl ?_); (try (refine gate_guard (by rfl) ?_; dsimp only)); at_builtin; refine Kd.R_append k45 (w0 := w) w.heap.size rfl (.tmp 36) (.tmp 45) 23 45 (.agg #[(.int .i32 0), (.int .i32 0), (.int .i64 0)]) 16 rfl Try.underlying23 info45 rfl (by decide) (by omega) u7 x7_1 (⟨wrap32 (x29_1), wrap32 (x29_1), wrap64 (Int.tmod (rd l2 x29_1) 3)⟩ : S45) [.int .i32 (wrap32 (x29_1)), .int .i32 (wrap32 (x29_1)), .int .i64 (wrap64 (Int.tmod (rd l2 x29_1) 3))] (fun _ => True) (fun _ => False) rfl rfl ?aP (fun _ hk => hk.elim) ?aF ?aO ?aB ?aS ?aL ?_; (case aP => exact k45_mkM _ _ _ (⟨wrap32 (x29_1), wrap32 (x29_1), wrap64 (Int.tmod (rd l2 x29_1) 3)⟩ : S45)); (case aB => exact (aL HB)); (case aF => exact (fun _ _ => trivial)); (case aO => exact (aR HO_7)); (case aS => exact (below_size (aL HB))); (case aL => have := LMc13.out; omega); intro v208 w14 ho hb hg hat; rw [← Ny207.out] at ho; have n0_ := zA.mk (hb); have n1_ := zA.mk (ho); clear HB; clear HO_7; have HB := n0_; have HO209 := n1_; clear n0_ n1_; clear ho hb hg hat)); try go_wp2_with (first | ((with_reducible refine gate_builtin (b := .append) (xs := #[.tmp 36, .tmp 45]) rfl ?_); (try (refine gate_guard (by rfl) ?_; dsimp only)); at_builtin; refine Kd.R_append k45 (w0 := w) w.heap.size rfl (.tmp 36) (.tmp 45) 23 45 (.agg #[(.int .i32 0), (.int .i32 0), (.int .i64 0)]) 16 rfl Try.underlying23 info45 rfl (by decide) (by omega) u7 x7_1 (⟨wrap32 (x29_1), wrap32 (x29_1), wrap64 (Int.tmod (rd l2 x29_1) 3)⟩ : S45) [.int .i32 (wrap32 (x29_1)), .int .i32 (wrap32 (x29_1)), .int .i64 (wrap64 (Int.tmod (rd l2 x29_1) 3))] (fun _ => True) (fun _ => False) rfl rfl ?aP (fun _ hk => hk.elim) ?aF ?aO ?aB ?aS ?aL ?_; (case aP => exact k45_mkM _ _ _ (⟨wrap32 (x29_1), wrap32 (x29_1), wrap64 (Int.tmod (rd l2 x29_1) 3)⟩ : S45)); (case aB => exact (aL HB)); (case aF => exact (fun _ _ => trivial)); (case aO => exact (aR HO_7)); (case aS => exact (below_size (aL HB))); (case aL => have := LMc13.out; omega); intro v208 w14 ho hb hg hat; rw [← Ny207.out] at ho; have n0_ := zA.mk (hb); have n1_ := zA.mk (ho); clear HB; clear HO_7; have HB := n0_; have HO209 := n1_; clear n0_ n1_; clear ho hb hg hat)))
   go_roundg k1
   case measure => have := HK1.out; omega
   case rel => exact ⟨(y207), (wrap64 (x29_1 + 1)), aZ, H', ⟨by have := HK1.out; omega⟩, ⟨aR HO209⟩, ⟨aL HB⟩⟩
  rw [if_neg c9] at H; have c9b0 : decide (x29_1 < (l2.length : Int)) = false := decide_eq_false c9
  clear c9; by_cases c15 : prop_Make.c x7_1 3 = true
  rotate_left
  ·rw [if_neg c15] at H
   have c15b0 : prop_Make.c x7_1 3 = false := by simpa using c15
   clear c15; replace H := Option.bind_eq_some_iff.mp H; obtain ⟨_, A960, H⟩ := H; replace H : (some false) = some r := H; have A96 := zA.mk A960; clear A960; exact absurd ((Option.some.inj H).trans hrt_.out) (by decide)
  rw [if_pos c15] at H; have c15b0 : prop_Make.c x7_1 3 = true := c15
  clear c15; replace H := Option.bind_eq_some_iff.mp H; obtain ⟨t212, A160, H⟩ := H; replace H : ((h3_Words.f k1 l0).bind fun t213 => ((stanzaref01_All.f k1 t213).bind fun t216 => ((h3_Opps.f k1 l1).bind fun t219 => ((cells_Make.f k1 t216 t219 t212).bind fun bt222 => (if (bt222.2.length : Int) = (wrap64 ((bt222.1.length : Int) + 1)) then (if 0 ≤ (bt222.1.length : Int) then (if (bt222.1.length : Int) < (bt222.2.length : Int) then (stanzalaw10_CellsWhole.j1 k1 t212 t213 t216 bt222.1 bt222.2 ((rd bt222.2 (bt222.1.length : Int)) != (t216.length : Int))) else (none)) else (none)) else (stanzalaw10_CellsWhole.j1 k1 t212 t213 t216 bt222.1 bt222.2 true)))))) = some r := H
  have A16 := zA.mk A160; clear A160; replace H := Option.bind_eq_some_iff.mp H; obtain ⟨t213, A170, H⟩ := H; replace H : ((stanzaref01_All.f k1 t213).bind fun t216 => ((h3_Opps.f k1 l1).bind fun t219 => ((cells_Make.f k1 t216 t219 t212).bind fun bt222 => (if (bt222.2.length : Int) = (wrap64 ((bt222.1.length : Int) + 1)) then (if 0 ≤ (bt222.1.length : Int) then (if (bt222.1.length : Int) < (bt222.2.length : Int) then (stanzalaw10_CellsWhole.j1 k1 t212 t213 t216 bt222.1 bt222.2 ((rd bt222.2 (bt222.1.length : Int)) != (t216.length : Int))) else (none)) else (none)) else (stanzalaw10_CellsWhole.j1 k1 t212 t213 t216 bt222.1 bt222.2 true))))) = some r := H
  have A17 := zA.mk A170; clear A170; replace H := Option.bind_eq_some_iff.mp H; obtain ⟨t216, A180, H⟩ := H; replace H : ((h3_Opps.f k1 l1).bind fun t219 => ((cells_Make.f k1 t216 t219 t212).bind fun bt222 => (if (bt222.2.length : Int) = (wrap64 ((bt222.1.length : Int) + 1)) then (if 0 ≤ (bt222.1.length : Int) then (if (bt222.1.length : Int) < (bt222.2.length : Int) then (stanzalaw10_CellsWhole.j1 k1 t212 t213 t216 bt222.1 bt222.2 ((rd bt222.2 (bt222.1.length : Int)) != (t216.length : Int))) else (none)) else (none)) else (stanzalaw10_CellsWhole.j1 k1 t212 t213 t216 bt222.1 bt222.2 true)))) = some r := H
  have A18 := zA.mk A180; clear A180; replace H := Option.bind_eq_some_iff.mp H; obtain ⟨t219, A190, H⟩ := H; replace H : ((cells_Make.f k1 t216 t219 t212).bind fun bt222 => (if (bt222.2.length : Int) = (wrap64 ((bt222.1.length : Int) + 1)) then (if 0 ≤ (bt222.1.length : Int) then (if (bt222.1.length : Int) < (bt222.2.length : Int) then (stanzalaw10_CellsWhole.j1 k1 t212 t213 t216 bt222.1 bt222.2 ((rd bt222.2 (bt222.1.length : Int)) != (t216.length : Int))) else (none)) else (none)) else (stanzalaw10_CellsWhole.j1 k1 t212 t213 t216 bt222.1 bt222.2 true))) = some r := H
  have A19 := zA.mk A190; clear A190; replace H := Option.bind_eq_some_iff.mp H; obtain ⟨⟨t222, t223⟩, A200, H⟩ := H; replace H : (if (t223.length : Int) = (wrap64 ((t222.length : Int) + 1)) then (if 0 ≤ (t222.length : Int) then (if (t222.length : Int) < (t223.length : Int) then (stanzalaw10_CellsWhole.j1 k1 t212 t213 t216 t222 t223 ((rd t223 (t222.length : Int)) != (t216.length : Int))) else (none)) else (none)) else (stanzalaw10_CellsWhole.j1 k1 t212 t213 t216 t222 t223 true)) = some r := H; have A20 := zA.mk A200; clear A200; have HC21 := zA.mk H; clear H; obtain ⟨Ao22, co22, eo22⟩ := Kd.zO HO_7.out; subst eo22; go_upto_region 18 with (first | (go_at_call 14; (with_reducible refine (prop_MakeY.calls _ _ x7_1 3 t212 _ ?side1 ?side2 A16.out).mono ?_); (case side1 => exact aF HO_7); (case side2 => exact (Kd.zL HO_7.out).2.1); rintro e w23 ⟨gb211, ob211, gb212, ob212, rfl, hx1, hx2, hg1, hg2, hne, htb, hb⟩; have n0_ := zA.mk (Kd.zM (Kd.R_elderB (Kd.R_elderB (aR HO_7) gb211 hg1) gb212 hg2) hb); have n1_ := zA.mk (below_step (aL HB) hb); have n2_ := zA.mk (hx1); have n3_ := zA.mk ((Nat.le_trans (below_size (aL HB)) hg1 : w.heap.size ≤ gb211)); have n4_ := zA.mk ((Nat.le_trans (below_size (aL HB)) hg1 : w.heap.size ≤ gb211)); have n5_ := zA.mk (hne); have n6_ := zA.mk (hx2); have n7_ := zA.mk ((Nat.le_trans (below_size (aL HB)) hg2 : w.heap.size ≤ gb212)); have n8_ := zA.mk ((Nat.le_trans (below_size (aL HB)) hg2 : w.heap.size ≤ gb212)); have n9_ := zA.mk (Ne.symm hne); have n10_ := zA.mk (htb); clear HO_7; clear HB; have HO_7 := n0_; have HB := n1_; have BK211 := n2_; have GW211 := n3_; have GE211 := n4_; have NB211_212 := n5_; have BK212 := n6_; have GW212 := n7_; have GE212 := n8_; have NB212_211 := n9_; have HTt212 := n10_; clear n0_ n1_ n2_ n3_ n4_ n5_ n6_ n7_ n8_ n9_ n10_; clear hb hx1 hx2 hg1 hg2 hne htb) | (go_at_call 15; (with_reducible refine (h3_Words.calls k1 _ _ l0 t213 _ ?side1 ?side2 A17.out).mono ?_); (case side1 => exact aA HR0 HB); (case side2 => exact HC0.out); rintro e w24 ⟨v214, rfl, ho0, hb⟩; have n0_ := zA.mk (Kd.zM (aR HO_7) hb); have n1_ := zA.mk (Kd.zP (Kd.R_newB (Kd.R_newB ho0 (g := gb211) (o := ob211) (aB BK211)) (g := gb212) (o := ob212) (aB BK212)) (below_size (aL HB))); have n2_ := zA.mk (blk_below (g := gb211) (o := ob211) (aB BK211) hb); have n3_ := zA.mk (blk_below (g := gb212) (o := ob212) (aB BK212) hb); have n4_ := zA.mk (below_step (aL HB) hb); clear HO_7; clear BK211; clear BK212; clear HB; have HO_7 := n0_; have HO215 := n1_; have BK211 := n2_; have BK212 := n3_; have HB := n4_; clear n0_ n1_ n2_ n3_ n4_; (try clear hb); (try clear hb2); (try clear hk); (try clear hi); (try clear ho0); obtain ⟨Ao25, co25, eo25⟩ := Kd.zO HO215.out; subst eo25) | (go_at_call 16; (with_reducible refine (stanzaref01_All.calls k1 _ _ t213 t216 _ ?side1 ?side2 A18.out).mono ?_); (case side1 => exact aF HO215); (case side2 => exact (Kd.zL HO215.out).2.1); rintro e w26 ⟨v217, rfl, ho0, hb⟩; have n0_ := zA.mk (Kd.zM (aR HO_7) hb); have n1_ := zA.mk (Kd.zM (aR HO215) hb); have n2_ := zA.mk (Kd.zP (Kd.R_newB (Kd.R_newB ho0 (g := gb211) (o := ob211) (aB BK211)) (g := gb212) (o := ob212) (aB BK212)) (below_size (aL HB))); have n3_ := zA.mk (blk_below (g := gb211) (o := ob211) (aB BK211) hb); have n4_ := zA.mk (blk_below (g := gb212) (o := ob212) (aB BK212) hb); have n5_ := zA.mk (below_step (aL HB) hb); clear HO_7; clear HO215; clear BK211; clear BK212; clear HB; have HO_7 := n0_; have HO215 := n1_; have HO218 := n2_; have BK211 := n3_; have BK212 := n4_; have HB := n5_; clear n0_ n1_ n2_ n3_ n4_ n5_; (try clear hb); (try clear hb2); (try clear hk); (try clear hi); (try clear ho0)) | (go_at_call 18; (with_reducible refine (h3_Opps.calls k1 _ _ l1 t219 _ ?side1 ?side2 A19.out).mono ?_); (case side1 => exact aA HR1 HB); (case side2 => exact HC1.out); rintro e w27 ⟨v220, rfl, ho0, hb⟩; have n0_ := zA.mk (Kd.zM (aR HO_7) hb); have n1_ := zA.mk (Kd.zM (aR HO215) hb); have n2_ := zA.mk (Kd.zM (aR HO218) hb); have n3_ := zA.mk (Kd.zP (Kd.R_newB (Kd.R_newB ho0 (g := gb211) (o := ob211) (aB BK211)) (g := gb212) (o := ob212) (aB BK212)) (below_size (aL HB))); have n4_ := zA.mk (blk_below (g := gb211) (o := ob211) (aB BK211) hb); have n5_ := zA.mk (blk_below (g := gb212) (o := ob212) (aB BK212) hb); have n6_ := zA.mk (below_step (aL HB) hb); clear HO_7; clear HO215; clear HO218; clear BK211; clear BK212; clear HB; have HO_7 := n0_; have HO215 := n1_; have HO218 := n2_; have HO221 := n3_; have BK211 := n4_; have BK212 := n5_; have HB := n6_; clear n0_ n1_ n2_ n3_ n4_ n5_ n6_; (try clear hb); (try clear hb2); (try clear hk); (try clear hi); (try clear ho0); obtain ⟨Ao28, co28, eo28⟩ := Kd.zO HO218.out; subst eo28; obtain ⟨Ao29, co29, eo29⟩ := Kd.zO HO221.out; subst eo29) | (go_at_call 17; (with_reducible refine (cells_Make.calls k1 _ _ t216 _ _ t219 (.pointer (some ⟨gb211, 0, none⟩)) t212 t222 t223 _ ?side1 ?side2 ?side3 ?side4 ?side5 A20.out).mono ?_); (case side1 => exact aF HO218); (case side2 => exact (Kd.zL HO218.out).2.1); (case side3 => exact aF HO221); (case side4 => exact (Kd.zL HO221.out).2.1); (case side5 => exact TabO.at HTt212.out (aB BK211) (aB BK212)); rintro e w30 ⟨v224, v226, rfl, ho0, ho1, hb⟩; have n0_ := zA.mk (Kd.zM (aR HO_7) hb); have n1_ := zA.mk (Kd.zM (aR HO215) hb); have n2_ := zA.mk (Kd.zM (aR HO218) hb); have n3_ := zA.mk (Kd.zM (aR HO221) hb); have n4_ := zA.mk (Kd.zP (Kd.R_newB (Kd.R_newB ho0 (g := gb211) (o := ob211) (aB BK211)) (g := gb212) (o := ob212) (aB BK212)) (below_size (aL HB))); have n5_ := zA.mk (Kd.zP (Kd.R_newB (Kd.R_newB ho1 (g := gb211) (o := ob211) (aB BK211)) (g := gb212) (o := ob212) (aB BK212)) (below_size (aL HB))); have n6_ := zA.mk (blk_below (g := gb211) (o := ob211) (aB BK211) hb); have n7_ := zA.mk (blk_below (g := gb212) (o := ob212) (aB BK212) hb); have n8_ := zA.mk (below_step (aL HB) hb); clear HO_7; clear HO215; clear HO218; clear HO221; clear BK211; clear BK212; clear HB; have HO_7 := n0_; have HO215 := n1_; have HO218 := n2_; have HO221 := n3_; have HO225 := n4_; have HO227 := n5_; have BK211 := n6_; have BK212 := n7_; have HB := n8_; clear n0_ n1_ n2_ n3_ n4_ n5_ n6_ n7_ n8_; (try clear hb); (try clear hb2); (try clear hk); (try clear hi); (try clear ho0); (try clear ho1)))
  repeat (go_quiet (first | (go_at_call 14; (with_reducible refine (prop_MakeY.calls _ _ x7_1 3 t212 _ ?side1 ?side2 A16.out).mono ?_); (case side1 => exact aF HO_7); (case side2 => exact (Kd.zL HO_7.out).2.1); rintro e w23 ⟨gb211, ob211, gb212, ob212, rfl, hx1, hx2, hg1, hg2, hne, htb, hb⟩; have n0_ := zA.mk (Kd.zM (Kd.R_elderB (Kd.R_elderB (aR HO_7) gb211 hg1) gb212 hg2) hb); have n1_ := zA.mk (below_step (aL HB) hb); have n2_ := zA.mk (hx1); have n3_ := zA.mk ((Nat.le_trans (below_size (aL HB)) hg1 : w.heap.size ≤ gb211)); have n4_ := zA.mk ((Nat.le_trans (below_size (aL HB)) hg1 : w.heap.size ≤ gb211)); have n5_ := zA.mk (hne); have n6_ := zA.mk (hx2); have n7_ := zA.mk ((Nat.le_trans (below_size (aL HB)) hg2 : w.heap.size ≤ gb212)); have n8_ := zA.mk ((Nat.le_trans (below_size (aL HB)) hg2 : w.heap.size ≤ gb212)); have n9_ := zA.mk (Ne.symm hne); have n10_ := zA.mk (htb); clear HO_7; clear HB; have HO_7 := n0_; have HB := n1_; have BK211 := n2_; have GW211 := n3_; have GE211 := n4_; have NB211_212 := n5_; have BK212 := n6_; have GW212 := n7_; have GE212 := n8_; have NB212_211 := n9_; have HTt212 := n10_; clear n0_ n1_ n2_ n3_ n4_ n5_ n6_ n7_ n8_ n9_ n10_; clear hb hx1 hx2 hg1 hg2 hne htb) | (go_at_call 15; (with_reducible refine (h3_Words.calls k1 _ _ l0 t213 _ ?side1 ?side2 A17.out).mono ?_); (case side1 => exact aA HR0 HB); (case side2 => exact HC0.out); rintro e w24 ⟨v214, rfl, ho0, hb⟩; have n0_ := zA.mk (Kd.zM (aR HO_7) hb); have n1_ := zA.mk (Kd.zP (Kd.R_newB (Kd.R_newB ho0 (g := gb211) (o := ob211) (aB BK211)) (g := gb212) (o := ob212) (aB BK212)) (below_size (aL HB))); have n2_ := zA.mk (blk_below (g := gb211) (o := ob211) (aB BK211) hb); have n3_ := zA.mk (blk_below (g := gb212) (o := ob212) (aB BK212) hb); have n4_ := zA.mk (below_step (aL HB) hb); clear HO_7; clear BK211; clear BK212; clear HB; have HO_7 := n0_; have HO215 := n1_; have BK211 := n2_; have BK212 := n3_; have HB := n4_; clear n0_ n1_ n2_ n3_ n4_; (try clear hb); (try clear hb2); (try clear hk); (try clear hi); (try clear ho0); obtain ⟨Ao25, co25, eo25⟩ := Kd.zO HO215.out; subst eo25) | (go_at_call 16; (with_reducible refine (stanzaref01_All.calls k1 _ _ t213 t216 _ ?side1 ?side2 A18.out).mono ?_); (case side1 => exact aF HO215); (case side2 => exact (Kd.zL HO215.out).2.1); rintro e w26 ⟨v217, rfl, ho0, hb⟩; have n0_ := zA.mk (Kd.zM (aR HO_7) hb); have n1_ := zA.mk (Kd.zM (aR HO215) hb); have n2_ := zA.mk (Kd.zP (Kd.R_newB (Kd.R_newB ho0 (g := gb211) (o := ob211) (aB BK211)) (g := gb212) (o := ob212) (aB BK212)) (below_size (aL HB))); have n3_ := zA.mk (blk_below (g := gb211) (o := ob211) (aB BK211) hb); have n4_ := zA.mk (blk_below (g := gb212) (o := ob212) (aB BK212) hb); have n5_ := zA.mk (below_step (aL HB) hb); clear HO_7; clear HO215; clear BK211; clear BK212; clear HB; have HO_7 := n0_; have HO215 := n1_; have HO218 := n2_; have BK211 := n3_; have BK212 := n4_; have HB := n5_; clear n0_ n1_ n2_ n3_ n4_ n5_; (try clear hb); (try clear hb2); (try clear hk); (try clear hi); (try clear ho0)) | (go_at_call 18; (with_reducible refine (h3_Opps.calls k1 _ _ l1 t219 _ ?side1 ?side2 A19.out).mono ?_); (case side1 => exact aA HR1 HB); (case side2 => exact HC1.out); rintro e w27 ⟨v220, rfl, ho0, hb⟩; have n0_ := zA.mk (Kd.zM (aR HO_7) hb); have n1_ := zA.mk (Kd.zM (aR HO215) hb); have n2_ := zA.mk (Kd.zM (aR HO218) hb); have n3_ := zA.mk (Kd.zP (Kd.R_newB (Kd.R_newB ho0 (g := gb211) (o := ob211) (aB BK211)) (g := gb212) (o := ob212) (aB BK212)) (below_size (aL HB))); have n4_ := zA.mk (blk_below (g := gb211) (o := ob211) (aB BK211) hb); have n5_ := zA.mk (blk_below (g := gb212) (o := ob212) (aB BK212) hb); have n6_ := zA.mk (below_step (aL HB) hb); clear HO_7; clear HO215; clear HO218; clear BK211; clear BK212; clear HB; have HO_7 := n0_; have HO215 := n1_; have HO218 := n2_; have HO221 := n3_; have BK211 := n4_; have BK212 := n5_; have HB := n6_; clear n0_ n1_ n2_ n3_ n4_ n5_ n6_; (try clear hb); (try clear hb2); (try clear hk); (try clear hi); (try clear ho0); obtain ⟨Ao28, co28, eo28⟩ := Kd.zO HO218.out; subst eo28; obtain ⟨Ao29, co29, eo29⟩ := Kd.zO HO221.out; subst eo29) | (go_at_call 17; (with_reducible refine (cells_Make.calls k1 _ _ t216 _ _ t219 (.pointer (some ⟨gb211, 0, none⟩)) t212 t222 t223 _ ?side1 ?side2 ?side3 ?side4 ?side5 A20.out).mono ?_); (case side1 => exact aF HO218); (case side2 => exact (Kd.zL HO218.out).2.1); (case side3 => exact aF HO221); (case side4 => exact (Kd.zL HO221.out).2.1); (case side5 => exact TabO.at HTt212.out (aB BK211) (aB BK212)); rintro e w30 ⟨v224, v226, rfl, ho0, ho1, hb⟩; have n0_ := zA.mk (Kd.zM (aR HO_7) hb); have n1_ := zA.mk (Kd.zM (aR HO215) hb); have n2_ := zA.mk (Kd.zM (aR HO218) hb); have n3_ := zA.mk (Kd.zM (aR HO221) hb); have n4_ := zA.mk (Kd.zP (Kd.R_newB (Kd.R_newB ho0 (g := gb211) (o := ob211) (aB BK211)) (g := gb212) (o := ob212) (aB BK212)) (below_size (aL HB))); have n5_ := zA.mk (Kd.zP (Kd.R_newB (Kd.R_newB ho1 (g := gb211) (o := ob211) (aB BK211)) (g := gb212) (o := ob212) (aB BK212)) (below_size (aL HB))); have n6_ := zA.mk (blk_below (g := gb211) (o := ob211) (aB BK211) hb); have n7_ := zA.mk (blk_below (g := gb212) (o := ob212) (aB BK212) hb); have n8_ := zA.mk (below_step (aL HB) hb); clear HO_7; clear HO215; clear HO218; clear HO221; clear BK211; clear BK212; clear HB; have HO_7 := n0_; have HO215 := n1_; have HO218 := n2_; have HO221 := n3_; have HO225 := n4_; have HO227 := n5_; have BK211 := n6_; have BK212 := n7_; have HB := n8_; clear n0_ n1_ n2_ n3_ n4_ n5_ n6_ n7_ n8_; (try clear hb); (try clear hb2); (try clear hk); (try clear hi); (try clear ho0); (try clear ho1))); go_upto_region 18 with (first | (go_at_call 14; (with_reducible refine (prop_MakeY.calls _ _ x7_1 3 t212 _ ?side1 ?side2 A16.out).mono ?_); (case side1 => exact aF HO_7); (case side2 => exact (Kd.zL HO_7.out).2.1); rintro e w23 ⟨gb211, ob211, gb212, ob212, rfl, hx1, hx2, hg1, hg2, hne, htb, hb⟩; have n0_ := zA.mk (Kd.zM (Kd.R_elderB (Kd.R_elderB (aR HO_7) gb211 hg1) gb212 hg2) hb); have n1_ := zA.mk (below_step (aL HB) hb); have n2_ := zA.mk (hx1); have n3_ := zA.mk ((Nat.le_trans (below_size (aL HB)) hg1 : w.heap.size ≤ gb211)); have n4_ := zA.mk ((Nat.le_trans (below_size (aL HB)) hg1 : w.heap.size ≤ gb211)); have n5_ := zA.mk (hne); have n6_ := zA.mk (hx2); have n7_ := zA.mk ((Nat.le_trans (below_size (aL HB)) hg2 : w.heap.size ≤ gb212)); have n8_ := zA.mk ((Nat.le_trans (below_size (aL HB)) hg2 : w.heap.size ≤ gb212)); have n9_ := zA.mk (Ne.symm hne); have n10_ := zA.mk (htb); clear HO_7; clear HB; have HO_7 := n0_; have HB := n1_; have BK211 := n2_; have GW211 := n3_; have GE211 := n4_; have NB211_212 := n5_; have BK212 := n6_; have GW212 := n7_; have GE212 := n8_; have NB212_211 := n9_; have HTt212 := n10_; clear n0_ n1_ n2_ n3_ n4_ n5_ n6_ n7_ n8_ n9_ n10_; clear hb hx1 hx2 hg1 hg2 hne htb) | (go_at_call 15; (with_reducible refine (h3_Words.calls k1 _ _ l0 t213 _ ?side1 ?side2 A17.out).mono ?_); (case side1 => exact aA HR0 HB); (case side2 => exact HC0.out); rintro e w24 ⟨v214, rfl, ho0, hb⟩; have n0_ := zA.mk (Kd.zM (aR HO_7) hb); have n1_ := zA.mk (Kd.zP (Kd.R_newB (Kd.R_newB ho0 (g := gb211) (o := ob211) (aB BK211)) (g := gb212) (o := ob212) (aB BK212)) (below_size (aL HB))); have n2_ := zA.mk (blk_below (g := gb211) (o := ob211) (aB BK211) hb); have n3_ := zA.mk (blk_below (g := gb212) (o := ob212) (aB BK212) hb); have n4_ := zA.mk (below_step (aL HB) hb); clear HO_7; clear BK211; clear BK212; clear HB; have HO_7 := n0_; have HO215 := n1_; have BK211 := n2_; have BK212 := n3_; have HB := n4_; clear n0_ n1_ n2_ n3_ n4_; (try clear hb); (try clear hb2); (try clear hk); (try clear hi); (try clear ho0); obtain ⟨Ao25, co25, eo25⟩ := Kd.zO HO215.out; subst eo25) | (go_at_call 16; (with_reducible refine (stanzaref01_All.calls k1 _ _ t213 t216 _ ?side1 ?side2 A18.out).mono ?_); (case side1 => exact aF HO215); (case side2 => exact (Kd.zL HO215.out).2.1); rintro e w26 ⟨v217, rfl, ho0, hb⟩; have n0_ := zA.mk (Kd.zM (aR HO_7) hb); have n1_ := zA.mk (Kd.zM (aR HO215) hb); have n2_ := zA.mk (Kd.zP (Kd.R_newB (Kd.R_newB ho0 (g := gb211) (o := ob211) (aB BK211)) (g := gb212) (o := ob212) (aB BK212)) (below_size (aL HB))); have n3_ := zA.mk (blk_below (g := gb211) (o := ob211) (aB BK211) hb); have n4_ := zA.mk (blk_below (g := gb212) (o := ob212) (aB BK212) hb); have n5_ := zA.mk (below_step (aL HB) hb); clear HO_7; clear HO215; clear BK211; clear BK212; clear HB; have HO_7 := n0_; have HO215 := n1_; have HO218 := n2_; have BK211 := n3_; have BK212 := n4_; have HB := n5_; clear n0_ n1_ n2_ n3_ n4_ n5_; (try clear hb); (try clear hb2); (try clear hk); (try clear hi); (try clear ho0)) | (go_at_call 18; (with_reducible refine (h3_Opps.calls k1 _ _ l1 t219 _ ?side1 ?side2 A19.out).mono ?_); (case side1 => exact aA HR1 HB); (case side2 => exact HC1.out); rintro e w27 ⟨v220, rfl, ho0, hb⟩; have n0_ := zA.mk (Kd.zM (aR HO_7) hb); have n1_ := zA.mk (Kd.zM (aR HO215) hb); have n2_ := zA.mk (Kd.zM (aR HO218) hb); have n3_ := zA.mk (Kd.zP (Kd.R_newB (Kd.R_newB ho0 (g := gb211) (o := ob211) (aB BK211)) (g := gb212) (o := ob212) (aB BK212)) (below_size (aL HB))); have n4_ := zA.mk (blk_below (g := gb211) (o := ob211) (aB BK211) hb); have n5_ := zA.mk (blk_below (g := gb212) (o := ob212) (aB BK212) hb); have n6_ := zA.mk (below_step (aL HB) hb); clear HO_7; clear HO215; clear HO218; clear BK211; clear BK212; clear HB; have HO_7 := n0_; have HO215 := n1_; have HO218 := n2_; have HO221 := n3_; have BK211 := n4_; have BK212 := n5_; have HB := n6_; clear n0_ n1_ n2_ n3_ n4_ n5_ n6_; (try clear hb); (try clear hb2); (try clear hk); (try clear hi); (try clear ho0); obtain ⟨Ao28, co28, eo28⟩ := Kd.zO HO218.out; subst eo28; obtain ⟨Ao29, co29, eo29⟩ := Kd.zO HO221.out; subst eo29) | (go_at_call 17; (with_reducible refine (cells_Make.calls k1 _ _ t216 _ _ t219 (.pointer (some ⟨gb211, 0, none⟩)) t212 t222 t223 _ ?side1 ?side2 ?side3 ?side4 ?side5 A20.out).mono ?_); (case side1 => exact aF HO218); (case side2 => exact (Kd.zL HO218.out).2.1); (case side3 => exact aF HO221); (case side4 => exact (Kd.zL HO221.out).2.1); (case side5 => exact TabO.at HTt212.out (aB BK211) (aB BK212)); rintro e w30 ⟨v224, v226, rfl, ho0, ho1, hb⟩; have n0_ := zA.mk (Kd.zM (aR HO_7) hb); have n1_ := zA.mk (Kd.zM (aR HO215) hb); have n2_ := zA.mk (Kd.zM (aR HO218) hb); have n3_ := zA.mk (Kd.zM (aR HO221) hb); have n4_ := zA.mk (Kd.zP (Kd.R_newB (Kd.R_newB ho0 (g := gb211) (o := ob211) (aB BK211)) (g := gb212) (o := ob212) (aB BK212)) (below_size (aL HB))); have n5_ := zA.mk (Kd.zP (Kd.R_newB (Kd.R_newB ho1 (g := gb211) (o := ob211) (aB BK211)) (g := gb212) (o := ob212) (aB BK212)) (below_size (aL HB))); have n6_ := zA.mk (blk_below (g := gb211) (o := ob211) (aB BK211) hb); have n7_ := zA.mk (blk_below (g := gb212) (o := ob212) (aB BK212) hb); have n8_ := zA.mk (below_step (aL HB) hb); clear HO_7; clear HO215; clear HO218; clear HO221; clear BK211; clear BK212; clear HB; have HO_7 := n0_; have HO215 := n1_; have HO218 := n2_; have HO221 := n3_; have HO225 := n4_; have HO227 := n5_; have BK211 := n6_; have BK212 := n7_; have HB := n8_; clear n0_ n1_ n2_ n3_ n4_ n5_ n6_ n7_ n8_; (try clear hb); (try clear hb2); (try clear hk); (try clear hi); (try clear ho0); (try clear ho1))))
  (try simp only [Act.put, sA_, sB_, sC_])
  go_cut [82] (fun v82 wc => ∃ (kq : Nat) (x82_20 : Bool), v82 = .bool x82_20 ∧ zA (stanzalaw10_CellsWhole.j1 kq t212 t213 t216 t222 t223 x82_20 = some r) ∧ zA (kq ≤ k1) ∧ zA (Kd.R (Kd.int .u8) 5 wc w.heap.size (fun k_ => k_ ≠ gb211 ∧ k_ ≠ gb212) (.slice Ao25 t213.length co25) t213) ∧ zA (Kd.R k50 50 wc w.heap.size (fun k_ => k_ ≠ gb211 ∧ k_ ≠ gb212) (.slice Ao28 t216.length co28) t216) ∧ zA (Kd.R k48 48 wc w.heap.size (fun k_ => k_ ≠ gb211 ∧ k_ ≠ gb212) v224 t222) ∧ zA (Kd.R (Kd.int .i64) 3 wc w.heap.size (fun k_ => k_ ≠ gb211 ∧ k_ ≠ gb212) v226 t223) ∧ zA (wc.heap[gb211]? = some ob211) ∧ zA (wc.heap[gb212]? = some ob212) ∧ zA (Below w.heap.size w wc))
  case first =>
   have H := HC21.out; clear HC21; by_cases c31 : (t223.length : Int) = (wrap64 ((t222.length : Int) + 1))
   rotate_left
   ·rw [if_neg c31] at H
    have c31b0 : ((t223.length : Int) == (wrap64 ((t222.length : Int) + 1))) = false := beq_eq_false_iff_ne.mpr c31
    have c31b1 : ((t223.length : Int) != (wrap64 ((t222.length : Int) + 1))) = true := bne_iff_ne.mpr c31
    (first | rw [c31b0] | (simp only [i64_w, i32_w]; rw [c31b0]) | skip)
    have H' := zA.mk H
    clear H; obtain ⟨Ao36, co36, eo36⟩ := Kd.zO HO227.out; subst eo36; obtain ⟨Ao37, co37, eo37⟩ := Kd.zO HO225.out; subst eo37; go_wp2
    repeat (go_quiet (fail); try go_wp2)
    go_meet
    case rel => exact ⟨_, (true), aZ, H', ⟨by have := HK1.out; first | omega | exact Nat.le_refl _⟩, ⟨by (with_reducible repeat (first | apply Kd.zE | apply Kd.zF | apply Kd.zG)); exact Kd.zQ HO215.out (fun _ hk => ⟨hk.1.2, hk.2⟩)⟩, ⟨by (with_reducible repeat (first | apply Kd.zE | apply Kd.zF | apply Kd.zG)); exact Kd.zQ HO218.out (fun _ hk => ⟨hk.1.2, hk.2⟩)⟩, ⟨by (with_reducible repeat (first | apply Kd.zE | apply Kd.zF | apply Kd.zG)); exact Kd.zQ HO225.out (fun _ hk => ⟨hk.1.2, hk.2⟩)⟩, ⟨by (with_reducible repeat (first | apply Kd.zE | apply Kd.zF | apply Kd.zG)); exact Kd.zQ HO227.out (fun _ hk => ⟨hk.1.2, hk.2⟩)⟩, ⟨aB BK211⟩, ⟨aB BK212⟩, ⟨aL HB⟩⟩
   rw [if_pos c31] at H; have c31b0 : ((t223.length : Int) == (wrap64 ((t222.length : Int) + 1))) = true := beq_iff_eq.mpr c31
   have c31b1 : ((t223.length : Int) != (wrap64 ((t222.length : Int) + 1))) = false := bne_eq_false_iff_eq.mpr c31
   clear c31; (first | rw [c31b0] | (simp only [i64_w, i32_w]; rw [c31b0]) | skip)
   by_cases c32 : 0 ≤ (t222.length : Int)
   rotate_left
   ·rw [if_neg c32] at H
    exact absurd H (by simp)
   rw [if_pos c32] at H; have c32b0 : decide (0 ≤ (t222.length : Int)) = true := decide_eq_true c32
   have c32b1 : decide (0 ≤ t222.length) = true := decide_eq_true (by omega)
   clear c32; by_cases c33 : (t222.length : Int) < (t223.length : Int)
   rotate_left
   ·rw [if_neg c33] at H
    exact absurd H (by simp)
   rw [if_pos c33] at H; have c33b0 : decide ((t222.length : Int) < (t223.length : Int)) = true := decide_eq_true c33
   have c33b1 : decide (t222.length < t223.length) = true := decide_eq_true (Int.ofNat_lt.mp c33)
   clear c33; have H' := zA.mk H
   clear H; obtain ⟨Ao34, co34, eo34⟩ := Kd.zO HO227.out; subst eo34; obtain ⟨Ao35, co35, eo35⟩ := Kd.zO HO225.out; subst eo35; have p228 : 0 ≤ ((t222.length : Int) : Int) := aD
   have q228 : (t222.length : Int) < (t223.length : Int) := aD
   obtain ⟨ad228, e228, hx228_0⟩ := Kd.at_int (Kd.zL HO227.out).2.2 (t222.length : Int) p228 q228; cases e228
   (try simp only [Go.IntWalk.toNatUp] at hx228_0)
   replace p228 := eq_true p228; replace q228 := eq_true q228; go_wp2
   repeat (go_quiet (fail); try go_wp2)
   go_meet
   case rel => exact ⟨_, (((rd t223 (t222.length : Int)) != (t216.length : Int))), aZ, H', ⟨by have := HK1.out; first | omega | exact Nat.le_refl _⟩, ⟨by (with_reducible repeat (first | apply Kd.zE | apply Kd.zF | apply Kd.zG)); exact Kd.zQ HO215.out (fun _ hk => ⟨hk.1.2, hk.2⟩)⟩, ⟨by (with_reducible repeat (first | apply Kd.zE | apply Kd.zF | apply Kd.zG)); exact Kd.zQ HO218.out (fun _ hk => ⟨hk.1.2, hk.2⟩)⟩, ⟨by (with_reducible repeat (first | apply Kd.zE | apply Kd.zF | apply Kd.zG)); exact Kd.zQ HO225.out (fun _ hk => ⟨hk.1.2, hk.2⟩)⟩, ⟨by (with_reducible repeat (first | apply Kd.zE | apply Kd.zF | apply Kd.zG)); exact Kd.zQ HO227.out (fun _ hk => ⟨hk.1.2, hk.2⟩)⟩, ⟨aB BK211⟩, ⟨aB BK212⟩, ⟨aL HB⟩⟩
  clear HC21; try clear c1
  try clear hx1
  try clear c2
  try clear p2
  try clear q2
  try clear hx2
  try clear c3
  try clear p3
  try clear c4
  try clear c5
  try clear c6
  try clear c6b0
  try clear c6b1
  try clear p6
  try clear c9
  try clear c9b0
  try clear c10
  try clear c10b0
  try clear c11
  try clear c11b0
  try clear c12
  try clear c12b0
  try clear c13
  try clear c15
  try clear c15b0
  try clear p20
  try clear q20
  try clear hx20
  try clear p22
  try clear q22
  try clear hx22
  try clear c31
  try clear c31b0
  try clear c31b1
  try clear c32
  try clear c32b0
  try clear c32b1
  try clear p32
  try clear c33
  try clear c33b0
  try clear c33b1
  try clear hx206_0
  try clear hx228_0
  try clear p2
  try clear p206
  try clear p228
  try clear q206
  try clear q228
  obtain ⟨kq, x82_20, rfl, HA, HJ20, HO_12, HO_13, HO_14, HO_15, BK211, BK212, HB⟩ := hcut; cases kq with
  | zero => exact absurd HA.out (by simp [stanzalaw10_CellsWhole.j1])
  | succ kj20 =>
   have H := HA.out; clear HA; simp only [stanzalaw10_CellsWhole.j1] at H; by_cases c38 : x82_20 = true
   ·subst c38
    have H1 : (some false) = some r := by rw [if_pos rfl] at H; exact H
    clear H; have H := H1; clear H1; exact absurd ((Option.some.inj H).trans hrt_.out) (by decide)
   replace c38 := Bool.eq_false_iff.mpr c38; subst c38; have H1 : (stanzalaw10_CellsWhole.l1 kj20 t212 t213 t216 t223 0 t222 (t222.length : Int) 0) = some r := by rw [if_neg (show ¬ (false = true) by decide)] at H; exact H
   clear H; have H := H1; clear H1; have H' := zA.mk H
   clear H; obtain ⟨Ao39, co39, eo39⟩ := Kd.zO HO_14.out; subst eo39; go_wp2
   repeat (go_quiet (fail); try go_wp2)
   go_loopg [16, 85] kj20 (fun kq v16 v85 w' => ∃ (x16_3 : Int) (x85_3 : Int), v16 = .int .i64 x16_3 ∧ v85 = .int .i64 x85_3 ∧ zA (stanzalaw10_CellsWhole.l1 kq t212 t213 t216 t223 x16_3 t222 (t222.length : Int) x85_3 = some r) ∧ zA (kq ≤ kj20) ∧ zA (Kd.R (Kd.int .u8) 5 w' w.heap.size (fun k_ => k_ ≠ gb211 ∧ k_ ≠ gb212) (.slice Ao25 t213.length co25) t213) ∧ zA (Kd.R k50 50 w' w.heap.size (fun k_ => k_ ≠ gb211 ∧ k_ ≠ gb212) (.slice Ao28 t216.length co28) t216) ∧ zA (Kd.R (Kd.int .i64) 3 w' w.heap.size (fun k_ => k_ ≠ gb211 ∧ k_ ≠ gb212) v226 t223) ∧ zA (Kd.R k48 48 w' w.heap.size (fun k_ => k_ ≠ gb211 ∧ k_ ≠ gb212) (.slice Ao39 t222.length co39) t222) ∧ zA (w'.heap[gb211]? = some ob211) ∧ zA (w'.heap[gb212]? = some ob212) ∧ zA (Below w.heap.size w w'))
   case atStart => exact ⟨(0), (0), aZ, aZ, H', ⟨Nat.le_refl _⟩, ⟨aR HO_12⟩, ⟨aR HO_13⟩, ⟨aR HO_15⟩, ⟨aR HO_14⟩, ⟨aB BK211⟩, ⟨aB BK212⟩, ⟨aL HB⟩⟩
   clear H'; try clear c1
   try clear hx1
   try clear c2
   try clear p2
   try clear q2
   try clear hx2
   try clear c3
   try clear p3
   try clear c4
   try clear c5
   try clear c6
   try clear c6b0
   try clear c6b1
   try clear p6
   try clear c9
   try clear c9b0
   try clear c10
   try clear c10b0
   try clear c11
   try clear c11b0
   try clear c12
   try clear c12b0
   try clear c13
   try clear c15
   try clear c15b0
   try clear p20
   try clear q20
   try clear hx20
   try clear p22
   try clear q22
   try clear hx22
   try clear c31
   try clear c31b0
   try clear c31b1
   try clear c32
   try clear c32b0
   try clear c32b1
   try clear p32
   try clear c33
   try clear c33b0
   try clear c33b1
   try clear c38
   try clear hx206_0
   try clear hx228_0
   try clear p2
   try clear p20
   try clear p206
   try clear p22
   try clear p228
   try clear p3
   try clear p32
   try clear p6
   try clear q2
   try clear q20
   try clear q206
   try clear q22
   try clear q228
   obtain ⟨x16_3, x85_3, rfl, rfl, HA, HK3, HO_12, HO_13, HO_15, HO_83, BK211, BK212, HB⟩ := hrel; cases gk with
   | zero => exact absurd HA.out (by simp [stanzalaw10_CellsWhole.l1])
   | succ k3 =>
    have H := HA.out; clear HA; simp only [stanzalaw10_CellsWhole.l1] at H; by_cases c40 : x85_3 < (t222.length : Int)
    rotate_left
    ·rw [if_neg c40] at H
     have c40b0 : decide (x85_3 < (t222.length : Int)) = false := decide_eq_false c40
     clear c40; obtain rfl := Option.some.inj H
     go_wp2
     repeat (go_quiet (fail); try go_wp2)
     go_ret
     exact ⟨aX, aL HB⟩
    rw [if_pos c40] at H; have c40b0 : decide (x85_3 < (t222.length : Int)) = true := decide_eq_true c40
    clear c40; by_cases c41 : 0 ≤ x85_3
    rotate_left
    ·rw [if_neg c41] at H
     exact absurd H (by simp)
    rw [if_pos c41] at H; have c41b0 : decide (0 ≤ x85_3) = true := decide_eq_true c41
    clear c41; by_cases c42 : x85_3 < (t222.length : Int)
    rotate_left
    ·rw [if_neg c42] at H
     exact absurd H (by simp)
    rw [if_pos c42] at H; have c42b0 : decide (x85_3 < (t222.length : Int)) = true := decide_eq_true c42
    clear c42; have HC43 := zA.mk H; clear H; have p229 : 0 ≤ (x85_3 : Int) := aD
    have q229 : x85_3 < (t222.length : Int) := aD
    obtain ⟨ad229, e229, hx229_0, hx229_1, hx229_2, hx229_3⟩ := at_T48 (Kd.zL HO_83.out).2.2 x85_3 p229 q229; cases e229
    replace p229 := eq_true p229; replace q229 := eq_true q229; go_upto_region 24 with (first | ((with_reducible refine gate_dst (N := 18) rfl ?_); (try (refine gate_guard (by rfl) ?_; dsimp only)); refine box_event ?hg (N := 18) ?hd (cs := #[.int .i64 0, .int .i64 0, .int .i64 0, .int .u8 0]) (t := 48) ?hr ?_; (case hd => rfl); (case hg => rfl); (case hr => first | (go_simp; done) | (go_simp; rfl)); intro gb230 hg w44 hbox hb; have n0_ := zA.mk (Kd.zM (aR HO_12) hb); have n1_ := zA.mk (Kd.zM (aR HO_13) hb); have n2_ := zA.mk (Kd.zM (aR HO_15) hb); have n3_ := zA.mk (Kd.zM (Kd.R_elderB (aR HO_83) gb230 (Nat.le_of_eq hg.symm)) hb); have n4_ := zA.mk (blk_below (g := gb211) (o := ob211) (aB BK211) hb); have n5_ := zA.mk (blk_below (g := gb212) (o := ob212) (aB BK212) hb); have n6_ := zA.mk (below_step (aL HB) hb); have n7_ := zA.mk (hbox); have n8_ := zA.mk ((by rw [hg]; exact (below_size (aL HB)) : w.heap.size ≤ gb230)); have n9_ := zA.mk ((by rw [hg]; exact (below_size (aL HB)) : w.heap.size ≤ gb230)); have n10_ := zA.mk ((by rw [hg]; exact Nat.ne_of_lt (blk_lt (g := gb211) (o := ob211) (aB BK211)) : gb211 ≠ gb230)); have n11_ := zA.mk ((by rw [hg]; exact Nat.ne_of_gt (blk_lt (g := gb211) (o := ob211) (aB BK211)) : gb230 ≠ gb211)); have n12_ := zA.mk ((by rw [hg]; exact Nat.ne_of_lt (blk_lt (g := gb212) (o := ob212) (aB BK212)) : gb212 ≠ gb230)); have n13_ := zA.mk ((by rw [hg]; exact Nat.ne_of_gt (blk_lt (g := gb212) (o := ob212) (aB BK212)) : gb230 ≠ gb212)); clear HO_12; clear HO_13; clear HO_15; clear HO_83; clear BK211; clear BK212; clear HB; have HO_12 := n0_; have HO_13 := n1_; have HO_15 := n2_; have HO_83 := n3_; have BK211 := n4_; have BK212 := n5_; have HB := n6_; have BK230 := n7_; have GW230 := n8_; have GE230 := n9_; have NB211_230 := n10_; have NB230_211 := n11_; have NB212_230 := n12_; have NB230_212 := n13_; clear n0_ n1_ n2_ n3_ n4_ n5_ n6_ n7_ n8_ n9_ n10_ n11_ n12_ n13_; clear hb hbox hg; have hnb45 := NB230_211.out; have hnc45 := NB211_230.out; have hnb46 := NB230_212.out; have hnc46 := NB212_230.out; obtain ⟨hcz47_0, hcz47_1, hcz47_2, hcz47_3, hfz47_0, hfz47_1, hfz47_2, hfz47_3⟩ := aC4 BK230) | ((with_reducible refine gate_store (t := 48) (p := 18) rfl ?_); (try (rw [drewN_self w44]; generalize hq_ : World.drewN w44 _ = w44; have n0_ := zA.mk (Kd.R_at hq_ HO_12.out); have n1_ := zA.mk (Kd.R_at hq_ HO_13.out); have n2_ := zA.mk (Kd.R_at hq_ HO_15.out); have n3_ := zA.mk (Kd.R_at hq_ HO_83.out); have n4_ := zA.mk (blk_at hq_ BK211.out); have n5_ := zA.mk (blk_at hq_ BK212.out); have n6_ := zA.mk (blk_at hq_ BK230.out); have n7_ := zA.mk (below_at hq_ HB.out); clear hq_ HO_12 HO_13 HO_15 HO_83 BK211 BK212 BK230 HB; have HO_12 := n0_; have HO_13 := n1_; have HO_15 := n2_; have HO_83 := n3_; have BK211 := n4_; have BK212 := n5_; have BK230 := n6_; have HB := n7_; clear n0_ n1_ n2_ n3_ n4_ n5_ n6_ n7_)); refine store_event (t := 48) (p := 18) (v := ?vo_w48) (w1 := ((((w44.setCell ⟨gb230, 0, none⟩ (.int .i64 ((rd_T48 t222 x85_3).f0))).setCell ⟨gb230, 1, none⟩ (.int .i64 ((rd_T48 t222 x85_3).f1))).setCell ⟨gb230, 2, none⟩ (.int .i64 ((rd_T48 t222 x85_3).f2))).setCell ⟨gb230, 3, none⟩ (.int .u8 ((rd_T48 t222 x85_3).f3)))) ?hg ?ho ?hn ?hr ?_; (case ho => rfl); (case hg => rfl); (case hn => rfl); (case hr => first | (go_simp; done) | (go_simp; rfl)); intro w48 hw; have n0_ : zA (Kd.R (Kd.int .u8) 5 w48 w.heap.size (fun k_ => k_ ≠ gb211 ∧ k_ ≠ gb212) (.slice Ao25 t213.length co25) t213) := ⟨(by rw [hw]; exact (by (with_reducible repeat (first | apply Kd.zE | apply Kd.zF | apply Kd.zG)); exact Kd.zQ (Kd.zN (p := ⟨gb230, 3, none⟩) (Kd.zN (p := ⟨gb230, 2, none⟩) (Kd.zN (p := ⟨gb230, 1, none⟩) (Kd.zN (p := ⟨gb230, 0, none⟩) (Kd.zR HO_12.out BK230.out (by decide)) (fun _ hk => hk.2) (.int .i64 ((rd_T48 t222 x85_3).f0))) (fun _ hk => hk.2) (.int .i64 ((rd_T48 t222 x85_3).f1))) (fun _ hk => hk.2) (.int .i64 ((rd_T48 t222 x85_3).f2))) (fun _ hk => hk.2) (.int .u8 ((rd_T48 t222 x85_3).f3))) (fun _ hk => ⟨hk.1.1, hk.1.2⟩)))⟩; have n1_ : zA (Kd.R k50 50 w48 w.heap.size (fun k_ => k_ ≠ gb211 ∧ k_ ≠ gb212) (.slice Ao28 t216.length co28) t216) := ⟨(by rw [hw]; exact (by (with_reducible repeat (first | apply Kd.zE | apply Kd.zF | apply Kd.zG)); exact Kd.zQ (Kd.zN (p := ⟨gb230, 3, none⟩) (Kd.zN (p := ⟨gb230, 2, none⟩) (Kd.zN (p := ⟨gb230, 1, none⟩) (Kd.zN (p := ⟨gb230, 0, none⟩) (Kd.zR HO_13.out BK230.out (by decide)) (fun _ hk => hk.2) (.int .i64 ((rd_T48 t222 x85_3).f0))) (fun _ hk => hk.2) (.int .i64 ((rd_T48 t222 x85_3).f1))) (fun _ hk => hk.2) (.int .i64 ((rd_T48 t222 x85_3).f2))) (fun _ hk => hk.2) (.int .u8 ((rd_T48 t222 x85_3).f3))) (fun _ hk => ⟨hk.1.1, hk.1.2⟩)))⟩; have n2_ : zA (Kd.R (Kd.int .i64) 3 w48 w.heap.size (fun k_ => k_ ≠ gb211 ∧ k_ ≠ gb212) v226 t223) := ⟨(by rw [hw]; exact (by (with_reducible repeat (first | apply Kd.zE | apply Kd.zF | apply Kd.zG)); exact Kd.zQ (Kd.zN (p := ⟨gb230, 3, none⟩) (Kd.zN (p := ⟨gb230, 2, none⟩) (Kd.zN (p := ⟨gb230, 1, none⟩) (Kd.zN (p := ⟨gb230, 0, none⟩) (Kd.zR HO_15.out BK230.out (by decide)) (fun _ hk => hk.2) (.int .i64 ((rd_T48 t222 x85_3).f0))) (fun _ hk => hk.2) (.int .i64 ((rd_T48 t222 x85_3).f1))) (fun _ hk => hk.2) (.int .i64 ((rd_T48 t222 x85_3).f2))) (fun _ hk => hk.2) (.int .u8 ((rd_T48 t222 x85_3).f3))) (fun _ hk => ⟨hk.1.1, hk.1.2⟩)))⟩; have n3_ : zA (Kd.R k48 48 w48 w.heap.size (fun k_ => k_ ≠ gb211 ∧ k_ ≠ gb212 ∧ k_ ≠ gb230) (.slice (some ad229) t222.length co39) t222) := ⟨(by rw [hw]; exact (by (with_reducible repeat (first | apply Kd.zE | apply Kd.zF | apply Kd.zG)); exact Kd.zQ (Kd.zN (p := ⟨gb230, 3, none⟩) (Kd.zN (p := ⟨gb230, 2, none⟩) (Kd.zN (p := ⟨gb230, 1, none⟩) (Kd.zN (p := ⟨gb230, 0, none⟩) (Kd.zQ HO_83.out (fun k_ hk => (⟨hk, hk.2⟩ : _ ∧ k_ ≠ gb230))) (fun _ hk => hk.2) (.int .i64 ((rd_T48 t222 x85_3).f0))) (fun _ hk => hk.2) (.int .i64 ((rd_T48 t222 x85_3).f1))) (fun _ hk => hk.2) (.int .i64 ((rd_T48 t222 x85_3).f2))) (fun _ hk => hk.2) (.int .u8 ((rd_T48 t222 x85_3).f3))) (fun _ hk => ⟨hk.1.1.1, ⟨hk.1.1.2, hk.1.2⟩⟩)))⟩; have n4_ : zA (w48.heap[gb211]? = some (ob211)) := ⟨(by rw [hw]; exact (by (with_reducible repeat (first | refine zC ?_ _ | refine zD ?_ | refine zB ?_ _)); refine blk_farO ?_ NB211_230.out _; (with_reducible repeat (first | refine zC ?_ _ | refine zD ?_ | refine zB ?_ _)); refine blk_farO ?_ NB211_230.out _; (with_reducible repeat (first | refine zC ?_ _ | refine zD ?_ | refine zB ?_ _)); refine blk_farO ?_ NB211_230.out _; (with_reducible repeat (first | refine zC ?_ _ | refine zD ?_ | refine zB ?_ _)); refine blk_farO ?_ NB211_230.out _; (with_reducible repeat (first | refine zC ?_ _ | refine zD ?_ | refine zB ?_ _)); exact BK211.out))⟩; have n5_ : zA (w48.heap[gb212]? = some (ob212)) := ⟨(by rw [hw]; exact (by (with_reducible repeat (first | refine zC ?_ _ | refine zD ?_ | refine zB ?_ _)); refine blk_farO ?_ NB212_230.out _; (with_reducible repeat (first | refine zC ?_ _ | refine zD ?_ | refine zB ?_ _)); refine blk_farO ?_ NB212_230.out _; (with_reducible repeat (first | refine zC ?_ _ | refine zD ?_ | refine zB ?_ _)); refine blk_farO ?_ NB212_230.out _; (with_reducible repeat (first | refine zC ?_ _ | refine zD ?_ | refine zB ?_ _)); refine blk_farO ?_ NB212_230.out _; (with_reducible repeat (first | refine zC ?_ _ | refine zD ?_ | refine zB ?_ _)); exact BK212.out))⟩; have n6_ : zA (w48.heap[gb230]? = some (.cells #[.int .i64 ((rd_T48 t222 x85_3).f0), .int .i64 ((rd_T48 t222 x85_3).f1), .int .i64 ((rd_T48 t222 x85_3).f2), .int .u8 ((rd_T48 t222 x85_3).f3)] 48 (0, 0))) := ⟨(by rw [hw]; exact (by (with_reducible repeat (first | refine zC ?_ _ | refine zD ?_ | refine zB ?_ _)); refine blk_put (cs := #[.int .i64 ((rd_T48 t222 x85_3).f0), .int .i64 ((rd_T48 t222 x85_3).f1), .int .i64 ((rd_T48 t222 x85_3).f2), .int .u8 0]) ?_ 3 _ rfl; (with_reducible repeat (first | refine zC ?_ _ | refine zD ?_ | refine zB ?_ _)); refine blk_put (cs := #[.int .i64 ((rd_T48 t222 x85_3).f0), .int .i64 ((rd_T48 t222 x85_3).f1), .int .i64 0, .int .u8 0]) ?_ 2 _ rfl; (with_reducible repeat (first | refine zC ?_ _ | refine zD ?_ | refine zB ?_ _)); refine blk_put (cs := #[.int .i64 ((rd_T48 t222 x85_3).f0), .int .i64 0, .int .i64 0, .int .u8 0]) ?_ 1 _ rfl; (with_reducible repeat (first | refine zC ?_ _ | refine zD ?_ | refine zB ?_ _)); refine blk_put (cs := #[.int .i64 0, .int .i64 0, .int .i64 0, .int .u8 0]) ?_ 0 _ rfl; (with_reducible repeat (first | refine zC ?_ _ | refine zD ?_ | refine zB ?_ _)); exact BK230.out))⟩; have n7_ : zA (Below w.heap.size w w48) := ⟨(by rw [hw]; exact (aL HB))⟩; clear hw; clear HO_12; clear HO_13; clear HO_15; clear HO_83; clear BK211; clear BK212; clear BK230; clear HB; have HO_12 := n0_; have HO_13 := n1_; have HO_15 := n2_; have HO_83 := n3_; have BK211 := n4_; have BK212 := n5_; have BK230 := n6_; have HB := n7_; clear n0_ n1_ n2_ n3_ n4_ n5_ n6_ n7_))
    repeat (go_quiet (first | ((with_reducible refine gate_dst (N := 18) rfl ?_); (try (refine gate_guard (by rfl) ?_; dsimp only)); refine box_event ?hg (N := 18) ?hd (cs := #[.int .i64 0, .int .i64 0, .int .i64 0, .int .u8 0]) (t := 48) ?hr ?_; (case hd => rfl); (case hg => rfl); (case hr => first | (go_simp; done) | (go_simp; rfl)); intro gb230 hg w44 hbox hb; have n0_ := zA.mk (Kd.zM (aR HO_12) hb); have n1_ := zA.mk (Kd.zM (aR HO_13) hb); have n2_ := zA.mk (Kd.zM (aR HO_15) hb); have n3_ := zA.mk (Kd.zM (Kd.R_elderB (aR HO_83) gb230 (Nat.le_of_eq hg.symm)) hb); have n4_ := zA.mk (blk_below (g := gb211) (o := ob211) (aB BK211) hb); have n5_ := zA.mk (blk_below (g := gb212) (o := ob212) (aB BK212) hb); have n6_ := zA.mk (below_step (aL HB) hb); have n7_ := zA.mk (hbox); have n8_ := zA.mk ((by rw [hg]; exact (below_size (aL HB)) : w.heap.size ≤ gb230)); have n9_ := zA.mk ((by rw [hg]; exact (below_size (aL HB)) : w.heap.size ≤ gb230)); have n10_ := zA.mk ((by rw [hg]; exact Nat.ne_of_lt (blk_lt (g := gb211) (o := ob211) (aB BK211)) : gb211 ≠ gb230)); have n11_ := zA.mk ((by rw [hg]; exact Nat.ne_of_gt (blk_lt (g := gb211) (o := ob211) (aB BK211)) : gb230 ≠ gb211)); have n12_ := zA.mk ((by rw [hg]; exact Nat.ne_of_lt (blk_lt (g := gb212) (o := ob212) (aB BK212)) : gb212 ≠ gb230)); have n13_ := zA.mk ((by rw [hg]; exact Nat.ne_of_gt (blk_lt (g := gb212) (o := ob212) (aB BK212)) : gb230 ≠ gb212)); clear HO_12; clear HO_13; clear HO_15; clear HO_83; clear BK211; clear BK212; clear HB; have HO_12 := n0_; have HO_13 := n1_; have HO_15 := n2_; have HO_83 := n3_; have BK211 := n4_; have BK212 := n5_; have HB := n6_; have BK230 := n7_; have GW230 := n8_; have GE230 := n9_; have NB211_230 := n10_; have NB230_211 := n11_; have NB212_230 := n12_; have NB230_212 := n13_; clear n0_ n1_ n2_ n3_ n4_ n5_ n6_ n7_ n8_ n9_ n10_ n11_ n12_ n13_; clear hb hbox hg; have hnb45 := NB230_211.out; have hnc45 := NB211_230.out; have hnb46 := NB230_212.out; have hnc46 := NB212_230.out; obtain ⟨hcz47_0, hcz47_1, hcz47_2, hcz47_3, hfz47_0, hfz47_1, hfz47_2, hfz47_3⟩ := aC4 BK230) | ((with_reducible refine gate_store (t := 48) (p := 18) rfl ?_); (try (rw [drewN_self w44]; generalize hq_ : World.drewN w44 _ = w44; have n0_ := zA.mk (Kd.R_at hq_ HO_12.out); have n1_ := zA.mk (Kd.R_at hq_ HO_13.out); have n2_ := zA.mk (Kd.R_at hq_ HO_15.out); have n3_ := zA.mk (Kd.R_at hq_ HO_83.out); have n4_ := zA.mk (blk_at hq_ BK211.out); have n5_ := zA.mk (blk_at hq_ BK212.out); have n6_ := zA.mk (blk_at hq_ BK230.out); have n7_ := zA.mk (below_at hq_ HB.out); clear hq_ HO_12 HO_13 HO_15 HO_83 BK211 BK212 BK230 HB; have HO_12 := n0_; have HO_13 := n1_; have HO_15 := n2_; have HO_83 := n3_; have BK211 := n4_; have BK212 := n5_; have BK230 := n6_; have HB := n7_; clear n0_ n1_ n2_ n3_ n4_ n5_ n6_ n7_)); refine store_event (t := 48) (p := 18) (v := ?vo_w48) (w1 := ((((w44.setCell ⟨gb230, 0, none⟩ (.int .i64 ((rd_T48 t222 x85_3).f0))).setCell ⟨gb230, 1, none⟩ (.int .i64 ((rd_T48 t222 x85_3).f1))).setCell ⟨gb230, 2, none⟩ (.int .i64 ((rd_T48 t222 x85_3).f2))).setCell ⟨gb230, 3, none⟩ (.int .u8 ((rd_T48 t222 x85_3).f3)))) ?hg ?ho ?hn ?hr ?_; (case ho => rfl); (case hg => rfl); (case hn => rfl); (case hr => first | (go_simp; done) | (go_simp; rfl)); intro w48 hw; have n0_ : zA (Kd.R (Kd.int .u8) 5 w48 w.heap.size (fun k_ => k_ ≠ gb211 ∧ k_ ≠ gb212) (.slice Ao25 t213.length co25) t213) := ⟨(by rw [hw]; exact (by (with_reducible repeat (first | apply Kd.zE | apply Kd.zF | apply Kd.zG)); exact Kd.zQ (Kd.zN (p := ⟨gb230, 3, none⟩) (Kd.zN (p := ⟨gb230, 2, none⟩) (Kd.zN (p := ⟨gb230, 1, none⟩) (Kd.zN (p := ⟨gb230, 0, none⟩) (Kd.zR HO_12.out BK230.out (by decide)) (fun _ hk => hk.2) (.int .i64 ((rd_T48 t222 x85_3).f0))) (fun _ hk => hk.2) (.int .i64 ((rd_T48 t222 x85_3).f1))) (fun _ hk => hk.2) (.int .i64 ((rd_T48 t222 x85_3).f2))) (fun _ hk => hk.2) (.int .u8 ((rd_T48 t222 x85_3).f3))) (fun _ hk => ⟨hk.1.1, hk.1.2⟩)))⟩; have n1_ : zA (Kd.R k50 50 w48 w.heap.size (fun k_ => k_ ≠ gb211 ∧ k_ ≠ gb212) (.slice Ao28 t216.length co28) t216) := ⟨(by rw [hw]; exact (by (with_reducible repeat (first | apply Kd.zE | apply Kd.zF | apply Kd.zG)); exact Kd.zQ (Kd.zN (p := ⟨gb230, 3, none⟩) (Kd.zN (p := ⟨gb230, 2, none⟩) (Kd.zN (p := ⟨gb230, 1, none⟩) (Kd.zN (p := ⟨gb230, 0, none⟩) (Kd.zR HO_13.out BK230.out (by decide)) (fun _ hk => hk.2) (.int .i64 ((rd_T48 t222 x85_3).f0))) (fun _ hk => hk.2) (.int .i64 ((rd_T48 t222 x85_3).f1))) (fun _ hk => hk.2) (.int .i64 ((rd_T48 t222 x85_3).f2))) (fun _ hk => hk.2) (.int .u8 ((rd_T48 t222 x85_3).f3))) (fun _ hk => ⟨hk.1.1, hk.1.2⟩)))⟩; have n2_ : zA (Kd.R (Kd.int .i64) 3 w48 w.heap.size (fun k_ => k_ ≠ gb211 ∧ k_ ≠ gb212) v226 t223) := ⟨(by rw [hw]; exact (by (with_reducible repeat (first | apply Kd.zE | apply Kd.zF | apply Kd.zG)); exact Kd.zQ (Kd.zN (p := ⟨gb230, 3, none⟩) (Kd.zN (p := ⟨gb230, 2, none⟩) (Kd.zN (p := ⟨gb230, 1, none⟩) (Kd.zN (p := ⟨gb230, 0, none⟩) (Kd.zR HO_15.out BK230.out (by decide)) (fun _ hk => hk.2) (.int .i64 ((rd_T48 t222 x85_3).f0))) (fun _ hk => hk.2) (.int .i64 ((rd_T48 t222 x85_3).f1))) (fun _ hk => hk.2) (.int .i64 ((rd_T48 t222 x85_3).f2))) (fun _ hk => hk.2) (.int .u8 ((rd_T48 t222 x85_3).f3))) (fun _ hk => ⟨hk.1.1, hk.1.2⟩)))⟩; have n3_ : zA (Kd.R k48 48 w48 w.heap.size (fun k_ => k_ ≠ gb211 ∧ k_ ≠ gb212 ∧ k_ ≠ gb230) (.slice (some ad229) t222.length co39) t222) := ⟨(by rw [hw]; exact (by (with_reducible repeat (first | apply Kd.zE | apply Kd.zF | apply Kd.zG)); exact Kd.zQ (Kd.zN (p := ⟨gb230, 3, none⟩) (Kd.zN (p := ⟨gb230, 2, none⟩) (Kd.zN (p := ⟨gb230, 1, none⟩) (Kd.zN (p := ⟨gb230, 0, none⟩) (Kd.zQ HO_83.out (fun k_ hk => (⟨hk, hk.2⟩ : _ ∧ k_ ≠ gb230))) (fun _ hk => hk.2) (.int .i64 ((rd_T48 t222 x85_3).f0))) (fun _ hk => hk.2) (.int .i64 ((rd_T48 t222 x85_3).f1))) (fun _ hk => hk.2) (.int .i64 ((rd_T48 t222 x85_3).f2))) (fun _ hk => hk.2) (.int .u8 ((rd_T48 t222 x85_3).f3))) (fun _ hk => ⟨hk.1.1.1, ⟨hk.1.1.2, hk.1.2⟩⟩)))⟩; have n4_ : zA (w48.heap[gb211]? = some (ob211)) := ⟨(by rw [hw]; exact (by (with_reducible repeat (first | refine zC ?_ _ | refine zD ?_ | refine zB ?_ _)); refine blk_farO ?_ NB211_230.out _; (with_reducible repeat (first | refine zC ?_ _ | refine zD ?_ | refine zB ?_ _)); refine blk_farO ?_ NB211_230.out _; (with_reducible repeat (first | refine zC ?_ _ | refine zD ?_ | refine zB ?_ _)); refine blk_farO ?_ NB211_230.out _; (with_reducible repeat (first | refine zC ?_ _ | refine zD ?_ | refine zB ?_ _)); refine blk_farO ?_ NB211_230.out _; (with_reducible repeat (first | refine zC ?_ _ | refine zD ?_ | refine zB ?_ _)); exact BK211.out))⟩; have n5_ : zA (w48.heap[gb212]? = some (ob212)) := ⟨(by rw [hw]; exact (by (with_reducible repeat (first | refine zC ?_ _ | refine zD ?_ | refine zB ?_ _)); refine blk_farO ?_ NB212_230.out _; (with_reducible repeat (first | refine zC ?_ _ | refine zD ?_ | refine zB ?_ _)); refine blk_farO ?_ NB212_230.out _; (with_reducible repeat (first | refine zC ?_ _ | refine zD ?_ | refine zB ?_ _)); refine blk_farO ?_ NB212_230.out _; (with_reducible repeat (first | refine zC ?_ _ | refine zD ?_ | refine zB ?_ _)); refine blk_farO ?_ NB212_230.out _; (with_reducible repeat (first | refine zC ?_ _ | refine zD ?_ | refine zB ?_ _)); exact BK212.out))⟩; have n6_ : zA (w48.heap[gb230]? = some (.cells #[.int .i64 ((rd_T48 t222 x85_3).f0), .int .i64 ((rd_T48 t222 x85_3).f1), .int .i64 ((rd_T48 t222 x85_3).f2), .int .u8 ((rd_T48 t222 x85_3).f3)] 48 (0, 0))) := ⟨(by rw [hw]; exact (by (with_reducible repeat (first | refine zC ?_ _ | refine zD ?_ | refine zB ?_ _)); refine blk_put (cs := #[.int .i64 ((rd_T48 t222 x85_3).f0), .int .i64 ((rd_T48 t222 x85_3).f1), .int .i64 ((rd_T48 t222 x85_3).f2), .int .u8 0]) ?_ 3 _ rfl; (with_reducible repeat (first | refine zC ?_ _ | refine zD ?_ | refine zB ?_ _)); refine blk_put (cs := #[.int .i64 ((rd_T48 t222 x85_3).f0), .int .i64 ((rd_T48 t222 x85_3).f1), .int .i64 0, .int .u8 0]) ?_ 2 _ rfl; (with_reducible repeat (first | refine zC ?_ _ | refine zD ?_ | refine zB ?_ _)); refine blk_put (cs := #[.int .i64 ((rd_T48 t222 x85_3).f0), .int .i64 0, .int .i64 0, .int .u8 0]) ?_ 1 _ rfl; (with_reducible repeat (first | refine zC ?_ _ | refine zD ?_ | refine zB ?_ _)); refine blk_put (cs := #[.int .i64 0, .int .i64 0, .int .i64 0, .int .u8 0]) ?_ 0 _ rfl; (with_reducible repeat (first | refine zC ?_ _ | refine zD ?_ | refine zB ?_ _)); exact BK230.out))⟩; have n7_ : zA (Below w.heap.size w w48) := ⟨(by rw [hw]; exact (aL HB))⟩; clear hw; clear HO_12; clear HO_13; clear HO_15; clear HO_83; clear BK211; clear BK212; clear BK230; clear HB; have HO_12 := n0_; have HO_13 := n1_; have HO_15 := n2_; have HO_83 := n3_; have BK211 := n4_; have BK212 := n5_; have BK230 := n6_; have HB := n7_; clear n0_ n1_ n2_ n3_ n4_ n5_ n6_ n7_)); go_upto_region 24 with (first | ((with_reducible refine gate_dst (N := 18) rfl ?_); (try (refine gate_guard (by rfl) ?_; dsimp only)); refine box_event ?hg (N := 18) ?hd (cs := #[.int .i64 0, .int .i64 0, .int .i64 0, .int .u8 0]) (t := 48) ?hr ?_; (case hd => rfl); (case hg => rfl); (case hr => first | (go_simp; done) | (go_simp; rfl)); intro gb230 hg w44 hbox hb; have n0_ := zA.mk (Kd.zM (aR HO_12) hb); have n1_ := zA.mk (Kd.zM (aR HO_13) hb); have n2_ := zA.mk (Kd.zM (aR HO_15) hb); have n3_ := zA.mk (Kd.zM (Kd.R_elderB (aR HO_83) gb230 (Nat.le_of_eq hg.symm)) hb); have n4_ := zA.mk (blk_below (g := gb211) (o := ob211) (aB BK211) hb); have n5_ := zA.mk (blk_below (g := gb212) (o := ob212) (aB BK212) hb); have n6_ := zA.mk (below_step (aL HB) hb); have n7_ := zA.mk (hbox); have n8_ := zA.mk ((by rw [hg]; exact (below_size (aL HB)) : w.heap.size ≤ gb230)); have n9_ := zA.mk ((by rw [hg]; exact (below_size (aL HB)) : w.heap.size ≤ gb230)); have n10_ := zA.mk ((by rw [hg]; exact Nat.ne_of_lt (blk_lt (g := gb211) (o := ob211) (aB BK211)) : gb211 ≠ gb230)); have n11_ := zA.mk ((by rw [hg]; exact Nat.ne_of_gt (blk_lt (g := gb211) (o := ob211) (aB BK211)) : gb230 ≠ gb211)); have n12_ := zA.mk ((by rw [hg]; exact Nat.ne_of_lt (blk_lt (g := gb212) (o := ob212) (aB BK212)) : gb212 ≠ gb230)); have n13_ := zA.mk ((by rw [hg]; exact Nat.ne_of_gt (blk_lt (g := gb212) (o := ob212) (aB BK212)) : gb230 ≠ gb212)); clear HO_12; clear HO_13; clear HO_15; clear HO_83; clear BK211; clear BK212; clear HB; have HO_12 := n0_; have HO_13 := n1_; have HO_15 := n2_; have HO_83 := n3_; have BK211 := n4_; have BK212 := n5_; have HB := n6_; have BK230 := n7_; have GW230 := n8_; have GE230 := n9_; have NB211_230 := n10_; have NB230_211 := n11_; have NB212_230 := n12_; have NB230_212 := n13_; clear n0_ n1_ n2_ n3_ n4_ n5_ n6_ n7_ n8_ n9_ n10_ n11_ n12_ n13_; clear hb hbox hg; have hnb45 := NB230_211.out; have hnc45 := NB211_230.out; have hnb46 := NB230_212.out; have hnc46 := NB212_230.out; obtain ⟨hcz47_0, hcz47_1, hcz47_2, hcz47_3, hfz47_0, hfz47_1, hfz47_2, hfz47_3⟩ := aC4 BK230) | ((with_reducible refine gate_store (t := 48) (p := 18) rfl ?_); (try (rw [drewN_self w44]; generalize hq_ : World.drewN w44 _ = w44; have n0_ := zA.mk (Kd.R_at hq_ HO_12.out); have n1_ := zA.mk (Kd.R_at hq_ HO_13.out); have n2_ := zA.mk (Kd.R_at hq_ HO_15.out); have n3_ := zA.mk (Kd.R_at hq_ HO_83.out); have n4_ := zA.mk (blk_at hq_ BK211.out); have n5_ := zA.mk (blk_at hq_ BK212.out); have n6_ := zA.mk (blk_at hq_ BK230.out); have n7_ := zA.mk (below_at hq_ HB.out); clear hq_ HO_12 HO_13 HO_15 HO_83 BK211 BK212 BK230 HB; have HO_12 := n0_; have HO_13 := n1_; have HO_15 := n2_; have HO_83 := n3_; have BK211 := n4_; have BK212 := n5_; have BK230 := n6_; have HB := n7_; clear n0_ n1_ n2_ n3_ n4_ n5_ n6_ n7_)); refine store_event (t := 48) (p := 18) (v := ?vo_w48) (w1 := ((((w44.setCell ⟨gb230, 0, none⟩ (.int .i64 ((rd_T48 t222 x85_3).f0))).setCell ⟨gb230, 1, none⟩ (.int .i64 ((rd_T48 t222 x85_3).f1))).setCell ⟨gb230, 2, none⟩ (.int .i64 ((rd_T48 t222 x85_3).f2))).setCell ⟨gb230, 3, none⟩ (.int .u8 ((rd_T48 t222 x85_3).f3)))) ?hg ?ho ?hn ?hr ?_; (case ho => rfl); (case hg => rfl); (case hn => rfl); (case hr => first | (go_simp; done) | (go_simp; rfl)); intro w48 hw; have n0_ : zA (Kd.R (Kd.int .u8) 5 w48 w.heap.size (fun k_ => k_ ≠ gb211 ∧ k_ ≠ gb212) (.slice Ao25 t213.length co25) t213) := ⟨(by rw [hw]; exact (by (with_reducible repeat (first | apply Kd.zE | apply Kd.zF | apply Kd.zG)); exact Kd.zQ (Kd.zN (p := ⟨gb230, 3, none⟩) (Kd.zN (p := ⟨gb230, 2, none⟩) (Kd.zN (p := ⟨gb230, 1, none⟩) (Kd.zN (p := ⟨gb230, 0, none⟩) (Kd.zR HO_12.out BK230.out (by decide)) (fun _ hk => hk.2) (.int .i64 ((rd_T48 t222 x85_3).f0))) (fun _ hk => hk.2) (.int .i64 ((rd_T48 t222 x85_3).f1))) (fun _ hk => hk.2) (.int .i64 ((rd_T48 t222 x85_3).f2))) (fun _ hk => hk.2) (.int .u8 ((rd_T48 t222 x85_3).f3))) (fun _ hk => ⟨hk.1.1, hk.1.2⟩)))⟩; have n1_ : zA (Kd.R k50 50 w48 w.heap.size (fun k_ => k_ ≠ gb211 ∧ k_ ≠ gb212) (.slice Ao28 t216.length co28) t216) := ⟨(by rw [hw]; exact (by (with_reducible repeat (first | apply Kd.zE | apply Kd.zF | apply Kd.zG)); exact Kd.zQ (Kd.zN (p := ⟨gb230, 3, none⟩) (Kd.zN (p := ⟨gb230, 2, none⟩) (Kd.zN (p := ⟨gb230, 1, none⟩) (Kd.zN (p := ⟨gb230, 0, none⟩) (Kd.zR HO_13.out BK230.out (by decide)) (fun _ hk => hk.2) (.int .i64 ((rd_T48 t222 x85_3).f0))) (fun _ hk => hk.2) (.int .i64 ((rd_T48 t222 x85_3).f1))) (fun _ hk => hk.2) (.int .i64 ((rd_T48 t222 x85_3).f2))) (fun _ hk => hk.2) (.int .u8 ((rd_T48 t222 x85_3).f3))) (fun _ hk => ⟨hk.1.1, hk.1.2⟩)))⟩; have n2_ : zA (Kd.R (Kd.int .i64) 3 w48 w.heap.size (fun k_ => k_ ≠ gb211 ∧ k_ ≠ gb212) v226 t223) := ⟨(by rw [hw]; exact (by (with_reducible repeat (first | apply Kd.zE | apply Kd.zF | apply Kd.zG)); exact Kd.zQ (Kd.zN (p := ⟨gb230, 3, none⟩) (Kd.zN (p := ⟨gb230, 2, none⟩) (Kd.zN (p := ⟨gb230, 1, none⟩) (Kd.zN (p := ⟨gb230, 0, none⟩) (Kd.zR HO_15.out BK230.out (by decide)) (fun _ hk => hk.2) (.int .i64 ((rd_T48 t222 x85_3).f0))) (fun _ hk => hk.2) (.int .i64 ((rd_T48 t222 x85_3).f1))) (fun _ hk => hk.2) (.int .i64 ((rd_T48 t222 x85_3).f2))) (fun _ hk => hk.2) (.int .u8 ((rd_T48 t222 x85_3).f3))) (fun _ hk => ⟨hk.1.1, hk.1.2⟩)))⟩; have n3_ : zA (Kd.R k48 48 w48 w.heap.size (fun k_ => k_ ≠ gb211 ∧ k_ ≠ gb212 ∧ k_ ≠ gb230) (.slice (some ad229) t222.length co39) t222) := ⟨(by rw [hw]; exact (by (with_reducible repeat (first | apply Kd.zE | apply Kd.zF | apply Kd.zG)); exact Kd.zQ (Kd.zN (p := ⟨gb230, 3, none⟩) (Kd.zN (p := ⟨gb230, 2, none⟩) (Kd.zN (p := ⟨gb230, 1, none⟩) (Kd.zN (p := ⟨gb230, 0, none⟩) (Kd.zQ HO_83.out (fun k_ hk => (⟨hk, hk.2⟩ : _ ∧ k_ ≠ gb230))) (fun _ hk => hk.2) (.int .i64 ((rd_T48 t222 x85_3).f0))) (fun _ hk => hk.2) (.int .i64 ((rd_T48 t222 x85_3).f1))) (fun _ hk => hk.2) (.int .i64 ((rd_T48 t222 x85_3).f2))) (fun _ hk => hk.2) (.int .u8 ((rd_T48 t222 x85_3).f3))) (fun _ hk => ⟨hk.1.1.1, ⟨hk.1.1.2, hk.1.2⟩⟩)))⟩; have n4_ : zA (w48.heap[gb211]? = some (ob211)) := ⟨(by rw [hw]; exact (by (with_reducible repeat (first | refine zC ?_ _ | refine zD ?_ | refine zB ?_ _)); refine blk_farO ?_ NB211_230.out _; (with_reducible repeat (first | refine zC ?_ _ | refine zD ?_ | refine zB ?_ _)); refine blk_farO ?_ NB211_230.out _; (with_reducible repeat (first | refine zC ?_ _ | refine zD ?_ | refine zB ?_ _)); refine blk_farO ?_ NB211_230.out _; (with_reducible repeat (first | refine zC ?_ _ | refine zD ?_ | refine zB ?_ _)); refine blk_farO ?_ NB211_230.out _; (with_reducible repeat (first | refine zC ?_ _ | refine zD ?_ | refine zB ?_ _)); exact BK211.out))⟩; have n5_ : zA (w48.heap[gb212]? = some (ob212)) := ⟨(by rw [hw]; exact (by (with_reducible repeat (first | refine zC ?_ _ | refine zD ?_ | refine zB ?_ _)); refine blk_farO ?_ NB212_230.out _; (with_reducible repeat (first | refine zC ?_ _ | refine zD ?_ | refine zB ?_ _)); refine blk_farO ?_ NB212_230.out _; (with_reducible repeat (first | refine zC ?_ _ | refine zD ?_ | refine zB ?_ _)); refine blk_farO ?_ NB212_230.out _; (with_reducible repeat (first | refine zC ?_ _ | refine zD ?_ | refine zB ?_ _)); refine blk_farO ?_ NB212_230.out _; (with_reducible repeat (first | refine zC ?_ _ | refine zD ?_ | refine zB ?_ _)); exact BK212.out))⟩; have n6_ : zA (w48.heap[gb230]? = some (.cells #[.int .i64 ((rd_T48 t222 x85_3).f0), .int .i64 ((rd_T48 t222 x85_3).f1), .int .i64 ((rd_T48 t222 x85_3).f2), .int .u8 ((rd_T48 t222 x85_3).f3)] 48 (0, 0))) := ⟨(by rw [hw]; exact (by (with_reducible repeat (first | refine zC ?_ _ | refine zD ?_ | refine zB ?_ _)); refine blk_put (cs := #[.int .i64 ((rd_T48 t222 x85_3).f0), .int .i64 ((rd_T48 t222 x85_3).f1), .int .i64 ((rd_T48 t222 x85_3).f2), .int .u8 0]) ?_ 3 _ rfl; (with_reducible repeat (first | refine zC ?_ _ | refine zD ?_ | refine zB ?_ _)); refine blk_put (cs := #[.int .i64 ((rd_T48 t222 x85_3).f0), .int .i64 ((rd_T48 t222 x85_3).f1), .int .i64 0, .int .u8 0]) ?_ 2 _ rfl; (with_reducible repeat (first | refine zC ?_ _ | refine zD ?_ | refine zB ?_ _)); refine blk_put (cs := #[.int .i64 ((rd_T48 t222 x85_3).f0), .int .i64 0, .int .i64 0, .int .u8 0]) ?_ 1 _ rfl; (with_reducible repeat (first | refine zC ?_ _ | refine zD ?_ | refine zB ?_ _)); refine blk_put (cs := #[.int .i64 0, .int .i64 0, .int .i64 0, .int .u8 0]) ?_ 0 _ rfl; (with_reducible repeat (first | refine zC ?_ _ | refine zD ?_ | refine zB ?_ _)); exact BK230.out))⟩; have n7_ : zA (Below w.heap.size w w48) := ⟨(by rw [hw]; exact (aL HB))⟩; clear hw; clear HO_12; clear HO_13; clear HO_15; clear HO_83; clear BK211; clear BK212; clear BK230; clear HB; have HO_12 := n0_; have HO_13 := n1_; have HO_15 := n2_; have HO_83 := n3_; have BK211 := n4_; have BK212 := n5_; have BK230 := n6_; have HB := n7_; clear n0_ n1_ n2_ n3_ n4_ n5_ n6_ n7_)))
    (try simp only [Act.put, sA_, sB_, sC_])
    go_cut [117] (fun v117 wc => ∃ (kq : Nat) (x117_42 : Bool), v117 = .bool x117_42 ∧ zA (stanzalaw10_CellsWhole.j3 kq t212 t213 t216 t223 x16_3 x85_3 t222 (t222.length : Int) x85_3 x117_42 ((rd_T48 t222 x85_3).f0) ((rd_T48 t222 x85_3).f1) ((rd_T48 t222 x85_3).f2) ((rd_T48 t222 x85_3).f3) = some r) ∧ zA (kq ≤ k3) ∧ zA (Kd.R (Kd.int .u8) 5 wc w.heap.size (fun k_ => k_ ≠ gb211 ∧ k_ ≠ gb212) (.slice Ao25 t213.length co25) t213) ∧ zA (Kd.R k50 50 wc w.heap.size (fun k_ => k_ ≠ gb211 ∧ k_ ≠ gb212) (.slice Ao28 t216.length co28) t216) ∧ zA (Kd.R (Kd.int .i64) 3 wc w.heap.size (fun k_ => k_ ≠ gb211 ∧ k_ ≠ gb212) v226 t223) ∧ zA (Kd.R k48 48 wc w.heap.size (fun k_ => k_ ≠ gb211 ∧ k_ ≠ gb212 ∧ k_ ≠ gb230) (.slice (some ad229) t222.length co39) t222) ∧ zA (wc.heap[gb211]? = some ob211) ∧ zA (wc.heap[gb212]? = some ob212) ∧ zA (wc.heap[gb230]? = some (.cells #[.int .i64 ((rd_T48 t222 x85_3).f0), .int .i64 ((rd_T48 t222 x85_3).f1), .int .i64 ((rd_T48 t222 x85_3).f2), .int .u8 ((rd_T48 t222 x85_3).f3)] 48 (0, 0))) ∧ zA (Below w.heap.size w wc))
    case first =>
     have H := HC43.out; clear HC43; by_cases c49 : ((rd_T48 t222 x85_3).f0) = x16_3
     rotate_left
     ·rw [if_neg c49] at H
      have c49b0 : (((rd_T48 t222 x85_3).f0) == x16_3) = false := beq_eq_false_iff_ne.mpr c49
      have c49b1 : (((rd_T48 t222 x85_3).f0) != x16_3) = true := bne_iff_ne.mpr c49
      (first | rw [c49b0] | (simp only [i64_w, i32_w]; rw [c49b0]) | skip)
      have H' := zA.mk H
      clear H; have hnb65 := NB230_211.out; have hnc65 := NB211_230.out; have hnb66 := NB230_212.out; have hnc66 := NB212_230.out; obtain ⟨hcz67_0, hcz67_1, hcz67_2, hcz67_3, hfz67_0, hfz67_1, hfz67_2, hfz67_3⟩ := aC4 BK230; go_wp2
      repeat (go_quiet (fail); try go_wp2)
      go_meet
      case rel => exact ⟨_, (true), aZ, H', ⟨by have := HK1.out; have := HJ20.out; have := HK3.out; first | omega | exact Nat.le_refl _⟩, ⟨aR HO_12⟩, ⟨aR HO_13⟩, ⟨aR HO_15⟩, ⟨aR HO_83⟩, ⟨aB BK211⟩, ⟨aB BK212⟩, ⟨aB BK230⟩, ⟨aL HB⟩⟩
     rw [if_pos c49] at H; have c49b0 : (((rd_T48 t222 x85_3).f0) == x16_3) = true := beq_iff_eq.mpr c49
     have c49b1 : (((rd_T48 t222 x85_3).f0) != x16_3) = false := bne_eq_false_iff_eq.mpr c49
     clear c49; (first | rw [c49b0] | (simp only [i64_w, i32_w]; rw [c49b0]) | skip)
     obtain ⟨ji50, hji50⟩ : ∃ j_ : Int, (wrap64 (x85_3 + 1)) = j_ := ⟨_, rfl⟩; replace H : (if 0 ≤ (ji50) then (if (ji50) < (t223.length : Int) then (if x85_3 < (t223.length : Int) then (if (rd t223 (ji50)) ≤ (rd t223 x85_3) then (stanzalaw10_CellsWhole.j3 k3 t212 t213 t216 t223 x16_3 x85_3 t222 (t222.length : Int) x85_3 true ((rd_T48 t222 x85_3).f0) ((rd_T48 t222 x85_3).f1) ((rd_T48 t222 x85_3).f2) ((rd_T48 t222 x85_3).f3)) else (if 0 ≤ (rd t223 x85_3) then (if (rd t223 x85_3) < (t216.length : Int) then (stanzalaw10_CellsWhole.j3 k3 t212 t213 t216 t223 x16_3 x85_3 t222 (t222.length : Int) x85_3 (((rd_T50 t216 (rd t223 x85_3)).f1) != x16_3) ((rd_T48 t222 x85_3).f0) ((rd_T48 t222 x85_3).f1) ((rd_T48 t222 x85_3).f2) ((rd_T48 t222 x85_3).f3)) else (none)) else (none))) else (none)) else (none)) else (none)) = some r := by first | (rw [hji50] at H; exact H) | (simp only [hji50] at H ⊢; exact H)
     have hji50w : (IntKind.i64.wrap (x85_3 + 1)) = ji50 := (i64_w _).trans hji50
     by_cases c51 : 0 ≤ (ji50)
     rotate_left
     ·rw [if_neg c51] at H
      exact absurd H (by simp)
     rw [if_pos c51] at H; have c51b0 : decide (0 ≤ (ji50)) = true := decide_eq_true c51
     clear c51; by_cases c52 : (ji50) < (t223.length : Int)
     rotate_left
     ·rw [if_neg c52] at H
      exact absurd H (by simp)
     rw [if_pos c52] at H; have c52b0 : decide ((ji50) < (t223.length : Int)) = true := decide_eq_true c52
     clear c52; by_cases c53 : x85_3 < (t223.length : Int)
     rotate_left
     ·rw [if_neg c53] at H
      exact absurd H (by simp)
     rw [if_pos c53] at H; have c53b0 : decide (x85_3 < (t223.length : Int)) = true := decide_eq_true c53
     clear c53; by_cases c54 : (rd t223 (ji50)) ≤ (rd t223 x85_3)
     ·rw [if_pos c54] at H
      have c54b0 : decide ((rd t223 (ji50)) ≤ (rd t223 x85_3)) = true := decide_eq_true c54
      clear c54; have H' := zA.mk H
      clear H; have hnb55 := NB230_211.out; have hnc55 := NB211_230.out; have hnb56 := NB230_212.out; have hnc56 := NB212_230.out; obtain ⟨hcz57_0, hcz57_1, hcz57_2, hcz57_3, hfz57_0, hfz57_1, hfz57_2, hfz57_3⟩ := aC4 BK230; obtain ⟨Ao58, co58, eo58⟩ := Kd.zO HO_15.out; subst eo58; have p231 : 0 ≤ ((ji50) : Int) := aD
      have q231 : (ji50) < (t223.length : Int) := aD
      obtain ⟨ad231, e231, hx231_0⟩ := Kd.at_int (Kd.zL HO_15.out).2.2 (ji50) p231 q231; cases e231
      replace p231 := eq_true p231; replace q231 := eq_true q231; have p232 : 0 ≤ (x85_3 : Int) := aD
      have q232 : x85_3 < (t223.length : Int) := aD
      obtain ⟨ad232, e232, hx232_0⟩ := Kd.at_int (Kd.zL HO_15.out).2.2 x85_3 p232 q232; obtain rfl : ad231 = ad232 := (by injection e232)
      replace p232 := eq_true p232; replace q232 := eq_true q232; go_wp2
      repeat (go_quiet (fail); try go_wp2)
      go_meet
      case rel => exact ⟨_, (true), aZ, H', ⟨by have := HK1.out; have := HJ20.out; have := HK3.out; first | omega | exact Nat.le_refl _⟩, ⟨aR HO_12⟩, ⟨aR HO_13⟩, ⟨aR HO_15⟩, ⟨aR HO_83⟩, ⟨aB BK211⟩, ⟨aB BK212⟩, ⟨aB BK230⟩, ⟨aL HB⟩⟩
     rw [if_neg c54] at H; have c54b0 : decide ((rd t223 (ji50)) ≤ (rd t223 x85_3)) = false := decide_eq_false c54
     clear c54; by_cases c59 : 0 ≤ (rd t223 x85_3)
     rotate_left
     ·rw [if_neg c59] at H
      exact absurd H (by simp)
     rw [if_pos c59] at H; have c59b0 : decide (0 ≤ (rd t223 x85_3)) = true := decide_eq_true c59
     clear c59; by_cases c60 : (rd t223 x85_3) < (t216.length : Int)
     rotate_left
     ·rw [if_neg c60] at H
      exact absurd H (by simp)
     rw [if_pos c60] at H; have c60b0 : decide ((rd t223 x85_3) < (t216.length : Int)) = true := decide_eq_true c60
     clear c60; have H' := zA.mk H
     clear H; have hnb61 := NB230_211.out; have hnc61 := NB211_230.out; have hnb62 := NB230_212.out; have hnc62 := NB212_230.out; obtain ⟨hcz63_0, hcz63_1, hcz63_2, hcz63_3, hfz63_0, hfz63_1, hfz63_2, hfz63_3⟩ := aC4 BK230; obtain ⟨Ao64, co64, eo64⟩ := Kd.zO HO_15.out; subst eo64; have p231 : 0 ≤ ((ji50) : Int) := aD
     have q231 : (ji50) < (t223.length : Int) := aD
     obtain ⟨ad231, e231, hx231_0⟩ := Kd.at_int (Kd.zL HO_15.out).2.2 (ji50) p231 q231; cases e231
     replace p231 := eq_true p231; replace q231 := eq_true q231; have p232 : 0 ≤ (x85_3 : Int) := aD
     have q232 : x85_3 < (t223.length : Int) := aD
     obtain ⟨ad232, e232, hx232_0⟩ := Kd.at_int (Kd.zL HO_15.out).2.2 x85_3 p232 q232; obtain rfl : ad231 = ad232 := (by injection e232)
     replace p232 := eq_true p232; replace q232 := eq_true q232; have p233 : 0 ≤ (x85_3 : Int) := aD
     have q233 : x85_3 < (t223.length : Int) := aD
     obtain ⟨ad233, e233, hx233_0⟩ := Kd.at_int (Kd.zL HO_15.out).2.2 x85_3 p233 q233; obtain rfl : ad231 = ad233 := (by injection e233)
     replace p233 := eq_true p233; replace q233 := eq_true q233; have p234 : 0 ≤ ((rd t223 x85_3) : Int) := aD
     have q234 : (rd t223 x85_3) < (t216.length : Int) := aD
     obtain ⟨ad234, e234, hx234_0, hx234_1, hx234_2⟩ := at_T50 (Kd.zL HO_13.out).2.2 (rd t223 x85_3) p234 q234; cases e234
     replace p234 := eq_true p234; replace q234 := eq_true q234; go_wp2
     repeat (go_quiet (fail); try go_wp2)
     go_meet
     case rel => exact ⟨_, ((((rd_T50 t216 (rd t223 x85_3)).f1) != x16_3)), aZ, H', ⟨by have := HK1.out; have := HJ20.out; have := HK3.out; first | omega | exact Nat.le_refl _⟩, ⟨aR HO_12⟩, ⟨aR HO_13⟩, ⟨aR HO_15⟩, ⟨aR HO_83⟩, ⟨aB BK211⟩, ⟨aB BK212⟩, ⟨aB BK230⟩, ⟨aL HB⟩⟩
    clear HC43; try clear c1
    try clear hx1
    try clear c2
    try clear p2
    try clear q2
    try clear hx2
    try clear c3
    try clear p3
    try clear c4
    try clear c5
    try clear c6
    try clear c6b0
    try clear c6b1
    try clear p6
    try clear c9
    try clear c9b0
    try clear c10
    try clear c10b0
    try clear c11
    try clear c11b0
    try clear c12
    try clear c12b0
    try clear c13
    try clear c15
    try clear c15b0
    try clear p20
    try clear q20
    try clear hx20
    try clear p22
    try clear q22
    try clear hx22
    try clear p23
    try clear q23
    try clear hx23
    try clear c31
    try clear c31b0
    try clear c31b1
    try clear c32
    try clear c32b0
    try clear c32b1
    try clear p32
    try clear c33
    try clear c33b0
    try clear c33b1
    try clear c38
    try clear c40
    try clear c40b0
    try clear c41
    try clear c41b0
    try clear c42
    try clear c42b0
    try clear c45
    try clear c46
    try clear c49
    try clear c49b0
    try clear c49b1
    try clear c51
    try clear c51b0
    try clear c52
    try clear c52b0
    try clear c53
    try clear c53b0
    try clear c54
    try clear c54b0
    try clear c55
    try clear c56
    try clear c59
    try clear c59b0
    try clear c60
    try clear c60b0
    try clear c61
    try clear c62
    try clear p64
    try clear c65
    try clear c66
    try clear hcz47_0
    try clear hcz47_1
    try clear hcz47_2
    try clear hcz47_3
    try clear hcz57_0
    try clear hcz57_1
    try clear hcz57_2
    try clear hcz57_3
    try clear hcz63_0
    try clear hcz63_1
    try clear hcz63_2
    try clear hcz63_3
    try clear hcz67_0
    try clear hcz67_1
    try clear hcz67_2
    try clear hcz67_3
    try clear hfz47_0
    try clear hfz47_1
    try clear hfz47_2
    try clear hfz47_3
    try clear hfz57_0
    try clear hfz57_1
    try clear hfz57_2
    try clear hfz57_3
    try clear hfz63_0
    try clear hfz63_1
    try clear hfz63_2
    try clear hfz63_3
    try clear hfz67_0
    try clear hfz67_1
    try clear hfz67_2
    try clear hfz67_3
    try clear hx206_0
    try clear hx228_0
    try clear hx229_0
    try clear hx229_1
    try clear hx229_2
    try clear hx229_3
    try clear hx231_0
    try clear hx232_0
    try clear hx233_0
    try clear hx234_0
    try clear hx234_1
    try clear hx234_2
    try clear p2
    try clear p20
    try clear p206
    try clear p22
    try clear p228
    try clear p229
    try clear p231
    try clear p232
    try clear p233
    try clear p234
    try clear p3
    try clear p32
    try clear p6
    try clear q2
    try clear q20
    try clear q206
    try clear q22
    try clear q228
    try clear q229
    try clear q231
    try clear q232
    try clear q233
    try clear q234
    obtain ⟨kq, x117_42, rfl, HA, HJ42, HO_12, HO_13, HO_15, HO_83, BK211, BK212, BK230, HB⟩ := hcut; cases kq with
    | zero => exact absurd HA.out (by simp [stanzalaw10_CellsWhole.j3])
    | succ kj42 =>
     have H := HA.out; clear HA; simp only [stanzalaw10_CellsWhole.j3] at H; by_cases c68 : x117_42 = true
     ·subst c68
      have H1 : (some false) = some r := by rw [if_pos rfl] at H; exact H
      clear H; have H := H1; clear H1; exact absurd ((Option.some.inj H).trans hrt_.out) (by decide)
     replace c68 := Bool.eq_false_iff.mpr c68; subst c68; have H1 : (if 0 ≤ x85_3 then (if x85_3 < (t223.length : Int) then (if 0 ≤ (wrap64 (x85_3 + 1)) then (if (wrap64 (x85_3 + 1)) < (t223.length : Int) then (if 0 ≤ (rd t223 x85_3) then (if (rd t223 x85_3) ≤ (rd t223 (wrap64 (x85_3 + 1))) then (if (rd t223 (wrap64 (x85_3 + 1))) ≤ (t216.length : Int) then ((some ((t216.take ((rd t223 (wrap64 (x85_3 + 1))) : Int).toNat).drop ((rd t223 x85_3) : Int).toNat : List (S50))).bind fun y237 => (stanzalaw10_CellsWhole.l2 kj42 t212 t213 t216 t223 x16_3 0 t222 (t222.length : Int) x85_3 y237 (y237.length : Int) 0 ((rd_T48 t222 x85_3).f0) ((rd_T48 t222 x85_3).f1) ((rd_T48 t222 x85_3).f2) ((rd_T48 t222 x85_3).f3))) else (none)) else (none)) else (none)) else (none)) else (none)) else (none)) else (none)) = some r := by rw [if_neg (show ¬ (false = true) by decide)] at H; exact H
     clear H; have H := H1; clear H1; by_cases c69 : 0 ≤ x85_3
     rotate_left
     ·rw [if_neg c69] at H
      exact absurd H (by simp)
     rw [if_pos c69] at H; have c69b0 : decide (0 ≤ x85_3) = true := decide_eq_true c69
     clear c69; by_cases c70 : x85_3 < (t223.length : Int)
     rotate_left
     ·rw [if_neg c70] at H
      exact absurd H (by simp)
     rw [if_pos c70] at H; have c70b0 : decide (x85_3 < (t223.length : Int)) = true := decide_eq_true c70
     clear c70; obtain ⟨ji71, hji71⟩ : ∃ j_ : Int, (wrap64 (x85_3 + 1)) = j_ := ⟨_, rfl⟩; replace H : (if 0 ≤ (ji71) then (if (ji71) < (t223.length : Int) then (if 0 ≤ (rd t223 x85_3) then (if (rd t223 x85_3) ≤ (rd t223 (ji71)) then (if (rd t223 (ji71)) ≤ (t216.length : Int) then ((some ((t216.take ((rd t223 (ji71)) : Int).toNat).drop ((rd t223 x85_3) : Int).toNat : List (S50))).bind fun y237 => (stanzalaw10_CellsWhole.l2 kj42 t212 t213 t216 t223 x16_3 0 t222 (t222.length : Int) x85_3 y237 (y237.length : Int) 0 ((rd_T48 t222 x85_3).f0) ((rd_T48 t222 x85_3).f1) ((rd_T48 t222 x85_3).f2) ((rd_T48 t222 x85_3).f3))) else (none)) else (none)) else (none)) else (none)) else (none)) = some r := by first | (rw [hji71] at H; exact H) | (simp only [hji71] at H ⊢; exact H)
     have hji71w : (IntKind.i64.wrap (x85_3 + 1)) = ji71 := (i64_w _).trans hji71
     by_cases c72 : 0 ≤ (ji71)
     rotate_left
     ·rw [if_neg c72] at H
      exact absurd H (by simp)
     rw [if_pos c72] at H; have c72b0 : decide (0 ≤ (ji71)) = true := decide_eq_true c72
     clear c72; by_cases c73 : (ji71) < (t223.length : Int)
     rotate_left
     ·rw [if_neg c73] at H
      exact absurd H (by simp)
     rw [if_pos c73] at H; have c73b0 : decide ((ji71) < (t223.length : Int)) = true := decide_eq_true c73
     clear c73; by_cases c74 : 0 ≤ (rd t223 x85_3)
     rotate_left
     ·rw [if_neg c74] at H
      exact absurd H (by simp)
     rw [if_pos c74] at H; have c74b0 := eq_true c74; have c74b1 : decide (0 ≤ (rd t223 x85_3)) = true := decide_eq_true c74
     clear c74; by_cases c75 : (rd t223 x85_3) ≤ (rd t223 (ji71))
     rotate_left
     ·rw [if_neg c75] at H
      exact absurd H (by simp)
     rw [if_pos c75] at H; have c75b0 := eq_true c75; have c75b1 : decide ((rd t223 x85_3) ≤ (rd t223 (ji71))) = true := decide_eq_true c75
     clear c75; by_cases c76 : (rd t223 (ji71)) ≤ (t216.length : Int)
     rotate_left
     ·rw [if_neg c76] at H
      exact absurd H (by simp)
     rw [if_pos c76] at H; have c76b0 := eq_true c76; have c76b1 : decide ((rd t223 (ji71)) ≤ (t216.length : Int)) = true := decide_eq_true c76
     clear c76; obtain ⟨y237, hy237⟩ : ∃ y_ : List (S50), y_ = ((t216.take ((rd t223 (ji71)) : Int).toNat).drop ((rd t223 x85_3) : Int).toNat) := ⟨_, rfl⟩; replace H : (stanzalaw10_CellsWhole.l2 kj42 t212 t213 t216 t223 x16_3 0 t222 (t222.length : Int) x85_3 y237 (y237.length : Int) 0 ((rd_T48 t222 x85_3).f0) ((rd_T48 t222 x85_3).f1) ((rd_T48 t222 x85_3).f2) ((rd_T48 t222 x85_3).f3)) = some r := by first | (rw [hy237]; with_reducible exact H) | (have H2_ := (Option.bind_some _ _).symm.trans H; rw [hy237]; with_reducible exact H2_) | (have H2_ := (Option.bind_some _ _).symm.trans H; with_reducible exact H2_) | with_reducible exact H | (rw [hy237]; exact H) | exact H
     have Ny237 := zA.mk hy237; clear hy237; have H' := zA.mk H
     clear H; obtain ⟨Ao77, co77, eo77⟩ := Kd.zO HO_15.out; subst eo77; have p235 : 0 ≤ (x85_3 : Int) := aD
     have q235 : x85_3 < (t223.length : Int) := aD
     obtain ⟨ad235, e235, hx235_0⟩ := Kd.at_int (Kd.zL HO_15.out).2.2 x85_3 p235 q235; cases e235
     replace p235 := eq_true p235; replace q235 := eq_true q235; have p236 : 0 ≤ ((ji71) : Int) := aD
     have q236 : (ji71) < (t223.length : Int) := aD
     obtain ⟨ad236, e236, hx236_0⟩ := Kd.at_int (Kd.zL HO_15.out).2.2 (ji71) p236 q236; obtain rfl : ad235 = ad236 := (by injection e236)
     replace p236 := eq_true p236; replace q236 := eq_true q236; have q78 : ((rd t223 (ji71)) : Int) ≤ ((t216.length : Int) : Int) := aD
     obtain ⟨i078, hi078, _, hsz78, _⟩ := info_parts info50; have hroom78 : t216.length ≤ co28 := (Kd.zL HO_13.out).2.1
     have hC78 : Kd.C k50 _ Ao28 t216.length t216 := (Kd.zL HO_13.out).2.2
     have ql78 : ((rd t223 x85_3) : Int) ≤ ((rd t223 (ji71)) : Int) := aD
     have q078 : (0 : Int) ≤ ((rd t223 x85_3) : Int) := aD
     have hcut78 := cut_mid (P := Try.prog) 32 50 .i64 .i64 Try.underlying32 hi078 3 hsz78 Ao28 t216.length co28 (rd t223 x85_3) (rd t223 (ji71)) q078 ql78 q78 hroom78; have hr78 := Kd.C_mid (lo := ((rd t223 x85_3) : Int).toNat) (hi := ((rd t223 (ji71)) : Int).toNat) (c := co28) hC78 (by omega) (by omega) hroom78
     obtain ⟨A78, hA78⟩ : ∃ A1, A1 = (if co28 = ((rd t223 x85_3) : Int).toNat then Ao28 else (Ao28 : Option Addr).map (·.add (((rd t223 x85_3) : Int).toNat * 3))) := ⟨_, rfl⟩
     obtain ⟨c78, hc78⟩ : ∃ c1, c1 = co28 - ((rd t223 x85_3) : Int).toNat := ⟨_, rfl⟩; have hy78 : y237.length = ((rd t223 (ji71)) : Int).toNat - ((rd t223 x85_3) : Int).toNat := (by rw [Ny237.out, List.length_drop, List.length_take] <;> omega)
     rw [show ((t216).take ((rd t223 (ji71)) : Int).toNat).drop ((rd t223 x85_3) : Int).toNat = y237 from Ny237.out.symm] at hr78; replace hr78 : Kd.C k50 _ A78 y237.length y237 := (by rw [hA78]; exact hr78)
     rw [← hy78, ← hA78, ← hc78] at hcut78; have HR240 := zA.mk hr78; have HC240 := zA.mk (show y237.length ≤ c78 from by rw [hy78, hc78]; exact Nat.sub_le_sub_right (Nat.le_trans (by omega) hroom78) _)
     clear hr78 hC78 hroom78 hi078 hsz78 hc78; have KY78 := zA.mk hy78; have KA78 := zA.mk hA78; clear hy78 hA78; have KL78 := zA.mk (show ((rd t223 (ji71)) : Int).toNat ≤ t216.length from by omega)
     have KM78 := zA.mk (show ((rd t223 x85_3) : Int).toNat ≤ ((rd t223 (ji71)) : Int).toNat from by omega)
     replace q78 := eq_true q78; go_wp2
     repeat (go_quiet (fail); try go_wp2)
     (try simp only [hji71])
     go_loopg [19, 130] kj42 (fun kq v19 v130 w' => ∃ (x19_5 : Int) (x130_5 : Int), v19 = .int .i64 x19_5 ∧ v130 = .int .i64 x130_5 ∧ zA (stanzalaw10_CellsWhole.l2 kq t212 t213 t216 t223 x16_3 x19_5 t222 (t222.length : Int) x85_3 y237 (y237.length : Int) x130_5 ((rd_T48 t222 x85_3).f0) ((rd_T48 t222 x85_3).f1) ((rd_T48 t222 x85_3).f2) ((rd_T48 t222 x85_3).f3) = some r) ∧ zA (kq ≤ kj42) ∧ zA (Kd.R (Kd.int .u8) 5 w' w.heap.size (fun k_ => k_ ≠ gb211 ∧ k_ ≠ gb212) (.slice Ao25 t213.length co25) t213) ∧ zA (Kd.R k50 50 w' w.heap.size (fun k_ => k_ ≠ gb211 ∧ k_ ≠ gb212) (.slice Ao28 t216.length co28) t216) ∧ zA (Kd.R (Kd.int .i64) 3 w' w.heap.size (fun k_ => k_ ≠ gb211 ∧ k_ ≠ gb212) (.slice (some ad235) t223.length co77) t223) ∧ zA (Kd.R k48 48 w' w.heap.size (fun k_ => k_ ≠ gb211 ∧ k_ ≠ gb212 ∧ k_ ≠ gb230) (.slice (some ad229) t222.length co39) t222) ∧ zA (w'.heap[gb211]? = some ob211) ∧ zA (w'.heap[gb212]? = some ob212) ∧ zA (w'.heap[gb230]? = some (.cells #[.int .i64 ((rd_T48 t222 x85_3).f0), .int .i64 ((rd_T48 t222 x85_3).f1), .int .i64 ((rd_T48 t222 x85_3).f2), .int .u8 ((rd_T48 t222 x85_3).f3)] 48 (0, 0))) ∧ zA (Below w.heap.size w w'))
     case atStart => exact ⟨(0), (0), aZ, aZ, H', ⟨Nat.le_refl _⟩, ⟨aR HO_12⟩, ⟨aR HO_13⟩, ⟨aR HO_15⟩, ⟨aR HO_83⟩, ⟨aB BK211⟩, ⟨aB BK212⟩, ⟨aB BK230⟩, ⟨aL HB⟩⟩
     clear H'; try clear c1
     try clear hx1
     try clear c2
     try clear p2
     try clear q2
     try clear hx2
     try clear c3
     try clear p3
     try clear c4
     try clear c5
     try clear c6
     try clear c6b0
     try clear c6b1
     try clear p6
     try clear c7
     try clear q7
     try clear c9
     try clear c9b0
     try clear c10
     try clear c10b0
     try clear c11
     try clear c11b0
     try clear c12
     try clear c12b0
     try clear c13
     try clear c15
     try clear c15b0
     try clear p20
     try clear q20
     try clear hx20
     try clear p22
     try clear q22
     try clear hx22
     try clear p23
     try clear q23
     try clear hx23
     try clear c31
     try clear c31b0
     try clear c31b1
     try clear c32
     try clear c32b0
     try clear c32b1
     try clear p32
     try clear c33
     try clear c33b0
     try clear c33b1
     try clear c38
     try clear c40
     try clear c40b0
     try clear c41
     try clear c41b0
     try clear c42
     try clear c42b0
     try clear c45
     try clear c46
     try clear c49
     try clear c49b0
     try clear c49b1
     try clear c51
     try clear c51b0
     try clear c52
     try clear c52b0
     try clear c53
     try clear c53b0
     try clear c54
     try clear c54b0
     try clear c55
     try clear c56
     try clear c59
     try clear c59b0
     try clear c60
     try clear c60b0
     try clear c61
     try clear c62
     try clear p64
     try clear c65
     try clear c66
     try clear c68
     try clear c69
     try clear c69b0
     try clear c70
     try clear c70b0
     try clear c72
     try clear c72b0
     try clear c73
     try clear c73b0
     try clear c74
     try clear c74b0
     try clear c74b1
     try clear c75
     try clear c75b0
     try clear c75b1
     try clear c76
     try clear c76b0
     try clear c76b1
     try clear c78
     try clear q78
     try clear hcz47_0
     try clear hcz47_1
     try clear hcz47_2
     try clear hcz47_3
     try clear hcz57_0
     try clear hcz57_1
     try clear hcz57_2
     try clear hcz57_3
     try clear hcz63_0
     try clear hcz63_1
     try clear hcz63_2
     try clear hcz63_3
     try clear hcz67_0
     try clear hcz67_1
     try clear hcz67_2
     try clear hcz67_3
     try clear hfz47_0
     try clear hfz47_1
     try clear hfz47_2
     try clear hfz47_3
     try clear hfz57_0
     try clear hfz57_1
     try clear hfz57_2
     try clear hfz57_3
     try clear hfz63_0
     try clear hfz63_1
     try clear hfz63_2
     try clear hfz63_3
     try clear hfz67_0
     try clear hfz67_1
     try clear hfz67_2
     try clear hfz67_3
     try clear hx206_0
     try clear hx228_0
     try clear hx229_0
     try clear hx229_1
     try clear hx229_2
     try clear hx229_3
     try clear hx231_0
     try clear hx232_0
     try clear hx233_0
     try clear hx234_0
     try clear hx234_1
     try clear hx234_2
     try clear hx235_0
     try clear hx236_0
     try clear p2
     try clear p20
     try clear p206
     try clear p22
     try clear p228
     try clear p229
     try clear p23
     try clear p231
     try clear p232
     try clear p233
     try clear p234
     try clear p235
     try clear p236
     try clear p3
     try clear p32
     try clear p6
     try clear p64
     try clear q078
     try clear q2
     try clear q20
     try clear q206
     try clear q22
     try clear q228
     try clear q229
     try clear q23
     try clear q231
     try clear q232
     try clear q233
     try clear q234
     try clear q235
     try clear q236
     try clear q78
     obtain ⟨x19_5, x130_5, rfl, rfl, HA, HK5, HO_12, HO_13, HO_15, HO_83, BK211, BK212, BK230, HB⟩ := hrel; cases gk with
     | zero => exact absurd HA.out (by simp [stanzalaw10_CellsWhole.l2])
     | succ k5 =>
      have H := HA.out; clear HA; simp only [stanzalaw10_CellsWhole.l2] at H; by_cases c79 : x130_5 < (y237.length : Int)
      rotate_left
      ·rw [if_neg c79] at H
       have c79b0 : decide (x130_5 < (y237.length : Int)) = false := decide_eq_false c79
       clear c79; by_cases c91 : ((rd_T48 t222 x85_3).f2) = x19_5
       rotate_left
       ·rw [if_neg c91] at H
        have c91b0 : (((rd_T48 t222 x85_3).f2) == x19_5) = false := beq_eq_false_iff_ne.mpr c91
        have c91b1 : (((rd_T48 t222 x85_3).f2) != x19_5) = true := bne_iff_ne.mpr c91
        exact absurd ((Option.some.inj H).trans hrt_.out) (by decide)
       rw [if_pos c91] at H; have c91b0 : (((rd_T48 t222 x85_3).f2) == x19_5) = true := beq_iff_eq.mpr c91
       have c91b1 : (((rd_T48 t222 x85_3).f2) != x19_5) = false := bne_eq_false_iff_eq.mpr c91
       clear c91; by_cases c92 : ((rd_T48 t222 x85_3).f2) > 2
       ·rw [if_pos c92] at H
        have c92b0 : decide (2 < ((rd_T48 t222 x85_3).f2)) = true := decide_eq_true c92
        clear c92; exact absurd ((Option.some.inj H).trans hrt_.out) (by decide)
       rw [if_neg c92] at H; have c92b0 : decide (2 < ((rd_T48 t222 x85_3).f2)) = false := decide_eq_false c92
       clear c92; have H' := zA.mk H
       clear H; have hnb93 := NB230_211.out; have hnc93 := NB211_230.out; have hnb94 := NB230_212.out; have hnc94 := NB212_230.out; obtain ⟨hcz95_0, hcz95_1, hcz95_2, hcz95_3, hfz95_0, hfz95_1, hfz95_2, hfz95_3⟩ := aC4 BK230; go_wp2
       repeat (go_quiet (fail); try go_wp2)
       go_roundg k5
       case measure => have := HK1.out; have := HJ20.out; have := HK3.out; have := HJ42.out; have := HK5.out; omega
       case rel => exact ⟨(wrap64 (x16_3 + ((rd_T48 t222 x85_3).f1))), (wrap64 (x85_3 + 1)), aZ, aZ, H', ⟨by have := HK1.out; have := HJ20.out; have := HK3.out; have := HJ42.out; have := HK5.out; omega⟩, ⟨aR HO_12⟩, ⟨aR HO_13⟩, ⟨aR HO_15⟩, ⟨by (with_reducible repeat (first | apply Kd.zE | apply Kd.zF | apply Kd.zG)); exact Kd.zQ HO_83.out (fun _ hk => ⟨hk.1, hk.2.1⟩)⟩, ⟨aB BK211⟩, ⟨aB BK212⟩, ⟨aL HB⟩⟩
      rw [if_pos c79] at H; have c79b0 : decide (x130_5 < (y237.length : Int)) = true := decide_eq_true c79
      clear c79; by_cases c80 : 0 ≤ x130_5
      rotate_left
      ·rw [if_neg c80] at H
       exact absurd H (by simp)
      rw [if_pos c80] at H; have c80b0 : decide (0 ≤ x130_5) = true := decide_eq_true c80
      clear c80; by_cases c81 : x130_5 < (y237.length : Int)
      rotate_left
      ·rw [if_neg c81] at H
       exact absurd H (by simp)
      rw [if_pos c81] at H; have c81b0 : decide (x130_5 < (y237.length : Int)) = true := decide_eq_true c81
      clear c81; replace H := Option.bind_eq_some_iff.mp H; obtain ⟨t243, A820, H⟩ := H; replace H : (stanzalaw10_CellsWhole.l2 k5 t212 t213 t216 t223 x16_3 (mx x19_5 t243) t222 (t222.length : Int) x85_3 y237 (y237.length : Int) (wrap64 (x130_5 + 1)) ((rd_T48 t222 x85_3).f0) ((rd_T48 t222 x85_3).f1) ((rd_T48 t222 x85_3).f2) ((rd_T48 t222 x85_3).f3)) = some r := H; have A82 := zA.mk A820; clear A820; obtain ⟨ji83, hji83⟩ : ∃ j_ : Int, (mx x19_5 t243) = j_ := ⟨_, rfl⟩; replace H : (stanzalaw10_CellsWhole.l2 k5 t212 t213 t216 t223 x16_3 ji83 t222 (t222.length : Int) x85_3 y237 (y237.length : Int) (wrap64 (x130_5 + 1)) ((rd_T48 t222 x85_3).f0) ((rd_T48 t222 x85_3).f1) ((rd_T48 t222 x85_3).f2) ((rd_T48 t222 x85_3).f3)) = some r := by first | (rw [hji83] at H; exact H) | (simp only [hji83] at H ⊢; exact H)
      (try rw [hji83] at A82)
      have hji83_ : (if x19_5 < t243 then t243 else x19_5) = ji83 := hji83
      have H' := zA.mk H
      clear H; have p241 : 0 ≤ (x130_5 : Int) := aD
      have q241 : x130_5 < (y237.length : Int) := aD
      obtain ⟨ad241, e241, hx241_0, hx241_1, hx241_2⟩ := at_T50 (show Kd.C k50 _ A78 y237.length y237 from by rw [Ny237.out, KA78.out]; exact Kd.C_mid (lo := ((rd t223 x85_3) : Int).toNat) (hi := ((rd t223 (ji71)) : Int).toNat) (c := co28) ((Kd.zL HO_13.out).2.2) KM78.out KL78.out ((Kd.zL HO_13.out).2.1)) x130_5 p241 q241
      cases e241
      replace p241 := eq_true p241; replace q241 := eq_true q241; go_wp2_with (first | ((with_reducible refine gate_dst (N := 21) rfl ?_); (try (refine gate_guard (by rfl) ?_; dsimp only)); refine box_event ?hg (N := 21) ?hd (cs := #[.int .i32 0, .int .i64 0, .int .i64 0]) (t := 50) ?hr ?_; (case hd => rfl); (case hg => rfl); (case hr => first | (go_simp; done) | (go_simp; rfl)); intro gb242 hg w84 hbox hb; have n0_ := zA.mk (Kd.zM (aR HO_12) hb); have n1_ := zA.mk (Kd.zM (Kd.R_elderB (aR HO_13) gb242 (Nat.le_of_eq hg.symm)) hb); have n2_ := zA.mk (Kd.zM (aR HO_15) hb); have n3_ := zA.mk (Kd.zM (aR HO_83) hb); have n4_ := zA.mk (blk_below (g := gb211) (o := ob211) (aB BK211) hb); have n5_ := zA.mk (blk_below (g := gb212) (o := ob212) (aB BK212) hb); have n6_ := zA.mk (blk_below (g := gb230) (o := .cells #[.int .i64 ((rd_T48 t222 x85_3).f0), .int .i64 ((rd_T48 t222 x85_3).f1), .int .i64 ((rd_T48 t222 x85_3).f2), .int .u8 ((rd_T48 t222 x85_3).f3)] 48 (0, 0)) (aB BK230) hb); have n7_ := zA.mk (below_step (aL HB) hb); have n8_ := zA.mk (hbox); have n9_ := zA.mk ((by rw [hg]; exact (below_size (aL HB)) : w.heap.size ≤ gb242)); have n10_ := zA.mk ((by rw [hg]; exact (below_size (aL HB)) : w.heap.size ≤ gb242)); have n11_ := zA.mk ((by rw [hg]; exact Nat.ne_of_lt (blk_lt (g := gb211) (o := ob211) (aB BK211)) : gb211 ≠ gb242)); have n12_ := zA.mk ((by rw [hg]; exact Nat.ne_of_gt (blk_lt (g := gb211) (o := ob211) (aB BK211)) : gb242 ≠ gb211)); have n13_ := zA.mk ((by rw [hg]; exact Nat.ne_of_lt (blk_lt (g := gb212) (o := ob212) (aB BK212)) : gb212 ≠ gb242)); have n14_ := zA.mk ((by rw [hg]; exact Nat.ne_of_gt (blk_lt (g := gb212) (o := ob212) (aB BK212)) : gb242 ≠ gb212)); have n15_ := zA.mk ((by rw [hg]; exact Nat.ne_of_lt (blk_lt (g := gb230) (o := .cells #[.int .i64 ((rd_T48 t222 x85_3).f0), .int .i64 ((rd_T48 t222 x85_3).f1), .int .i64 ((rd_T48 t222 x85_3).f2), .int .u8 ((rd_T48 t222 x85_3).f3)] 48 (0, 0)) (aB BK230)) : gb230 ≠ gb242)); have n16_ := zA.mk ((by rw [hg]; exact Nat.ne_of_gt (blk_lt (g := gb230) (o := .cells #[.int .i64 ((rd_T48 t222 x85_3).f0), .int .i64 ((rd_T48 t222 x85_3).f1), .int .i64 ((rd_T48 t222 x85_3).f2), .int .u8 ((rd_T48 t222 x85_3).f3)] 48 (0, 0)) (aB BK230)) : gb242 ≠ gb230)); clear HO_12; clear HO_13; clear HO_15; clear HO_83; clear BK211; clear BK212; clear BK230; clear HB; have HO_12 := n0_; have HO_13 := n1_; have HO_15 := n2_; have HO_83 := n3_; have BK211 := n4_; have BK212 := n5_; have BK230 := n6_; have HB := n7_; have BK242 := n8_; have GW242 := n9_; have GE242 := n10_; have NB211_242 := n11_; have NB242_211 := n12_; have NB212_242 := n13_; have NB242_212 := n14_; have NB230_242 := n15_; have NB242_230 := n16_; clear n0_ n1_ n2_ n3_ n4_ n5_ n6_ n7_ n8_ n9_ n10_ n11_ n12_ n13_ n14_ n15_ n16_; clear hb hbox hg; have hnb85 := NB242_211.out; have hnc85 := NB211_242.out; have hnb86 := NB242_212.out; have hnc86 := NB212_242.out; have hnb87 := NB242_230.out; have hnc87 := NB230_242.out; obtain ⟨hcz88_0, hcz88_1, hcz88_2, hfz88_0, hfz88_1, hfz88_2⟩ := aC3 BK242) | ((with_reducible refine gate_store (t := 50) (p := 21) rfl ?_); (try (rw [drewN_self w84]; generalize hq_ : World.drewN w84 _ = w84; have n0_ := zA.mk (Kd.R_at hq_ HO_12.out); have n1_ := zA.mk (Kd.R_at hq_ HO_13.out); have n2_ := zA.mk (Kd.R_at hq_ HO_15.out); have n3_ := zA.mk (Kd.R_at hq_ HO_83.out); have n4_ := zA.mk (blk_at hq_ BK211.out); have n5_ := zA.mk (blk_at hq_ BK212.out); have n6_ := zA.mk (blk_at hq_ BK230.out); have n7_ := zA.mk (blk_at hq_ BK242.out); have n8_ := zA.mk (below_at hq_ HB.out); clear hq_ HO_12 HO_13 HO_15 HO_83 BK211 BK212 BK230 BK242 HB; have HO_12 := n0_; have HO_13 := n1_; have HO_15 := n2_; have HO_83 := n3_; have BK211 := n4_; have BK212 := n5_; have BK230 := n6_; have BK242 := n7_; have HB := n8_; clear n0_ n1_ n2_ n3_ n4_ n5_ n6_ n7_ n8_)); refine store_event (t := 50) (p := 21) (v := ?vo_w89) (w1 := (((w84.setCell ⟨gb242, 0, none⟩ (.int .i32 ((rd_T50 y237 x130_5).f0))).setCell ⟨gb242, 1, none⟩ (.int .i64 ((rd_T50 y237 x130_5).f1))).setCell ⟨gb242, 2, none⟩ (.int .i64 ((rd_T50 y237 x130_5).f2)))) ?hg ?ho ?hn ?hr ?_; (case ho => rfl); (case hg => rfl); (case hn => rfl); (case hr => first | (go_simp; done) | (go_simp; rfl)); intro w89 hw; have n0_ : zA (Kd.R (Kd.int .u8) 5 w89 w.heap.size (fun k_ => k_ ≠ gb211 ∧ k_ ≠ gb212) (.slice Ao25 t213.length co25) t213) := ⟨(by rw [hw]; exact (by (with_reducible repeat (first | apply Kd.zE | apply Kd.zF | apply Kd.zG)); exact Kd.zQ (Kd.zN (p := ⟨gb242, 2, none⟩) (Kd.zN (p := ⟨gb242, 1, none⟩) (Kd.zN (p := ⟨gb242, 0, none⟩) (Kd.zR HO_12.out BK242.out (by decide)) (fun _ hk => hk.2) (.int .i32 ((rd_T50 y237 x130_5).f0))) (fun _ hk => hk.2) (.int .i64 ((rd_T50 y237 x130_5).f1))) (fun _ hk => hk.2) (.int .i64 ((rd_T50 y237 x130_5).f2))) (fun _ hk => ⟨hk.1.1, hk.1.2⟩)))⟩; have n1_ : zA (Kd.R k50 50 w89 w.heap.size (fun k_ => k_ ≠ gb211 ∧ k_ ≠ gb212 ∧ k_ ≠ gb242) (.slice Ao28 t216.length co28) t216) := ⟨(by rw [hw]; exact (by (with_reducible repeat (first | apply Kd.zE | apply Kd.zF | apply Kd.zG)); exact Kd.zQ (Kd.zN (p := ⟨gb242, 2, none⟩) (Kd.zN (p := ⟨gb242, 1, none⟩) (Kd.zN (p := ⟨gb242, 0, none⟩) (Kd.zQ HO_13.out (fun k_ hk => (⟨hk, hk.2⟩ : _ ∧ k_ ≠ gb242))) (fun _ hk => hk.2) (.int .i32 ((rd_T50 y237 x130_5).f0))) (fun _ hk => hk.2) (.int .i64 ((rd_T50 y237 x130_5).f1))) (fun _ hk => hk.2) (.int .i64 ((rd_T50 y237 x130_5).f2))) (fun _ hk => ⟨hk.1.1.1, ⟨hk.1.1.2, hk.1.2⟩⟩)))⟩; have n2_ : zA (Kd.R (Kd.int .i64) 3 w89 w.heap.size (fun k_ => k_ ≠ gb211 ∧ k_ ≠ gb212) (.slice (some ad235) t223.length co77) t223) := ⟨(by rw [hw]; exact (by (with_reducible repeat (first | apply Kd.zE | apply Kd.zF | apply Kd.zG)); exact Kd.zQ (Kd.zN (p := ⟨gb242, 2, none⟩) (Kd.zN (p := ⟨gb242, 1, none⟩) (Kd.zN (p := ⟨gb242, 0, none⟩) (Kd.zR HO_15.out BK242.out (by decide)) (fun _ hk => hk.2) (.int .i32 ((rd_T50 y237 x130_5).f0))) (fun _ hk => hk.2) (.int .i64 ((rd_T50 y237 x130_5).f1))) (fun _ hk => hk.2) (.int .i64 ((rd_T50 y237 x130_5).f2))) (fun _ hk => ⟨hk.1.1, hk.1.2⟩)))⟩; have n3_ : zA (Kd.R k48 48 w89 w.heap.size (fun k_ => k_ ≠ gb211 ∧ k_ ≠ gb212 ∧ k_ ≠ gb230) (.slice (some ad229) t222.length co39) t222) := ⟨(by rw [hw]; exact (by (with_reducible repeat (first | apply Kd.zE | apply Kd.zF | apply Kd.zG)); exact Kd.zQ (Kd.zN (p := ⟨gb242, 2, none⟩) (Kd.zN (p := ⟨gb242, 1, none⟩) (Kd.zN (p := ⟨gb242, 0, none⟩) (Kd.zR HO_83.out BK242.out (by decide)) (fun _ hk => hk.2) (.int .i32 ((rd_T50 y237 x130_5).f0))) (fun _ hk => hk.2) (.int .i64 ((rd_T50 y237 x130_5).f1))) (fun _ hk => hk.2) (.int .i64 ((rd_T50 y237 x130_5).f2))) (fun _ hk => ⟨hk.1.1, ⟨hk.1.2.1, hk.1.2.2⟩⟩)))⟩; have n4_ : zA (w89.heap[gb211]? = some (ob211)) := ⟨(by rw [hw]; exact (by (with_reducible repeat (first | refine zC ?_ _ | refine zD ?_ | refine zB ?_ _)); refine blk_farO ?_ NB211_242.out _; (with_reducible repeat (first | refine zC ?_ _ | refine zD ?_ | refine zB ?_ _)); refine blk_farO ?_ NB211_242.out _; (with_reducible repeat (first | refine zC ?_ _ | refine zD ?_ | refine zB ?_ _)); refine blk_farO ?_ NB211_242.out _; (with_reducible repeat (first | refine zC ?_ _ | refine zD ?_ | refine zB ?_ _)); exact BK211.out))⟩; have n5_ : zA (w89.heap[gb212]? = some (ob212)) := ⟨(by rw [hw]; exact (by (with_reducible repeat (first | refine zC ?_ _ | refine zD ?_ | refine zB ?_ _)); refine blk_farO ?_ NB212_242.out _; (with_reducible repeat (first | refine zC ?_ _ | refine zD ?_ | refine zB ?_ _)); refine blk_farO ?_ NB212_242.out _; (with_reducible repeat (first | refine zC ?_ _ | refine zD ?_ | refine zB ?_ _)); refine blk_farO ?_ NB212_242.out _; (with_reducible repeat (first | refine zC ?_ _ | refine zD ?_ | refine zB ?_ _)); exact BK212.out))⟩; have n6_ : zA (w89.heap[gb230]? = some (.cells #[.int .i64 ((rd_T48 t222 x85_3).f0), .int .i64 ((rd_T48 t222 x85_3).f1), .int .i64 ((rd_T48 t222 x85_3).f2), .int .u8 ((rd_T48 t222 x85_3).f3)] 48 (0, 0))) := ⟨(by rw [hw]; exact (aB BK230))⟩; have n7_ : zA (w89.heap[gb242]? = some (.cells #[.int .i32 ((rd_T50 y237 x130_5).f0), .int .i64 ((rd_T50 y237 x130_5).f1), .int .i64 ((rd_T50 y237 x130_5).f2)] 50 (0, 0))) := ⟨(by rw [hw]; exact (by (with_reducible repeat (first | refine zC ?_ _ | refine zD ?_ | refine zB ?_ _)); refine blk_put (cs := #[.int .i32 ((rd_T50 y237 x130_5).f0), .int .i64 ((rd_T50 y237 x130_5).f1), .int .i64 0]) ?_ 2 _ rfl; (with_reducible repeat (first | refine zC ?_ _ | refine zD ?_ | refine zB ?_ _)); refine blk_put (cs := #[.int .i32 ((rd_T50 y237 x130_5).f0), .int .i64 0, .int .i64 0]) ?_ 1 _ rfl; (with_reducible repeat (first | refine zC ?_ _ | refine zD ?_ | refine zB ?_ _)); refine blk_put (cs := #[.int .i32 0, .int .i64 0, .int .i64 0]) ?_ 0 _ rfl; (with_reducible repeat (first | refine zC ?_ _ | refine zD ?_ | refine zB ?_ _)); exact BK242.out))⟩; have n8_ : zA (Below w.heap.size w w89) := ⟨(by rw [hw]; exact (aL HB))⟩; clear hw; clear HO_12; clear HO_13; clear HO_15; clear HO_83; clear BK211; clear BK212; clear BK230; clear BK242; clear HB; have HO_12 := n0_; have HO_13 := n1_; have HO_15 := n2_; have HO_83 := n3_; have BK211 := n4_; have BK212 := n5_; have BK230 := n6_; have BK242 := n7_; have HB := n8_; clear n0_ n1_ n2_ n3_ n4_ n5_ n6_ n7_ n8_; obtain ⟨hcz90_0, hcz90_1, hcz90_2, hfz90_0, hfz90_1, hfz90_2⟩ := aC3 BK242) | (go_at_call 22; (with_reducible refine (prop_Table_Of.calls (.pointer (some ⟨gb211, 0, none⟩)) t212 ((rd_T50 y237 x130_5).f0) t243 _ ?side1 A82.out).mono ?_); (case side1 => exact TabO.at HTt212.out (aB BK211) (aB BK212)); rintro e w' ⟨rfl, ⟨nd, rfl⟩⟩; (try first | exact ⟨rfl, _, World.drewN_drewN _ _ _⟩ | exact ⟨rfl, _, Eq.trans (World.drewN_drewN _ _ _) (congrArg (World.drewN _) (Nat.add_assoc _ _ _))⟩)))
      repeat (go_quiet (first | ((with_reducible refine gate_dst (N := 21) rfl ?_); (try (refine gate_guard (by rfl) ?_; dsimp only)); refine box_event ?hg (N := 21) ?hd (cs := #[.int .i32 0, .int .i64 0, .int .i64 0]) (t := 50) ?hr ?_; (case hd => rfl); (case hg => rfl); (case hr => first | (go_simp; done) | (go_simp; rfl)); intro gb242 hg w84 hbox hb; have n0_ := zA.mk (Kd.zM (aR HO_12) hb); have n1_ := zA.mk (Kd.zM (Kd.R_elderB (aR HO_13) gb242 (Nat.le_of_eq hg.symm)) hb); have n2_ := zA.mk (Kd.zM (aR HO_15) hb); have n3_ := zA.mk (Kd.zM (aR HO_83) hb); have n4_ := zA.mk (blk_below (g := gb211) (o := ob211) (aB BK211) hb); have n5_ := zA.mk (blk_below (g := gb212) (o := ob212) (aB BK212) hb); have n6_ := zA.mk (blk_below (g := gb230) (o := .cells #[.int .i64 ((rd_T48 t222 x85_3).f0), .int .i64 ((rd_T48 t222 x85_3).f1), .int .i64 ((rd_T48 t222 x85_3).f2), .int .u8 ((rd_T48 t222 x85_3).f3)] 48 (0, 0)) (aB BK230) hb); have n7_ := zA.mk (below_step (aL HB) hb); have n8_ := zA.mk (hbox); have n9_ := zA.mk ((by rw [hg]; exact (below_size (aL HB)) : w.heap.size ≤ gb242)); have n10_ := zA.mk ((by rw [hg]; exact (below_size (aL HB)) : w.heap.size ≤ gb242)); have n11_ := zA.mk ((by rw [hg]; exact Nat.ne_of_lt (blk_lt (g := gb211) (o := ob211) (aB BK211)) : gb211 ≠ gb242)); have n12_ := zA.mk ((by rw [hg]; exact Nat.ne_of_gt (blk_lt (g := gb211) (o := ob211) (aB BK211)) : gb242 ≠ gb211)); have n13_ := zA.mk ((by rw [hg]; exact Nat.ne_of_lt (blk_lt (g := gb212) (o := ob212) (aB BK212)) : gb212 ≠ gb242)); have n14_ := zA.mk ((by rw [hg]; exact Nat.ne_of_gt (blk_lt (g := gb212) (o := ob212) (aB BK212)) : gb242 ≠ gb212)); have n15_ := zA.mk ((by rw [hg]; exact Nat.ne_of_lt (blk_lt (g := gb230) (o := .cells #[.int .i64 ((rd_T48 t222 x85_3).f0), .int .i64 ((rd_T48 t222 x85_3).f1), .int .i64 ((rd_T48 t222 x85_3).f2), .int .u8 ((rd_T48 t222 x85_3).f3)] 48 (0, 0)) (aB BK230)) : gb230 ≠ gb242)); have n16_ := zA.mk ((by rw [hg]; exact Nat.ne_of_gt (blk_lt (g := gb230) (o := .cells #[.int .i64 ((rd_T48 t222 x85_3).f0), .int .i64 ((rd_T48 t222 x85_3).f1), .int .i64 ((rd_T48 t222 x85_3).f2), .int .u8 ((rd_T48 t222 x85_3).f3)] 48 (0, 0)) (aB BK230)) : gb242 ≠ gb230)); clear HO_12; clear HO_13; clear HO_15; clear HO_83; clear BK211; clear BK212; clear BK230; clear HB; have HO_12 := n0_; have HO_13 := n1_; have HO_15 := n2_; have HO_83 := n3_; have BK211 := n4_; have BK212 := n5_; have BK230 := n6_; have HB := n7_; have BK242 := n8_; have GW242 := n9_; have GE242 := n10_; have NB211_242 := n11_; have NB242_211 := n12_; have NB212_242 := n13_; have NB242_212 := n14_; have NB230_242 := n15_; have NB242_230 := n16_; clear n0_ n1_ n2_ n3_ n4_ n5_ n6_ n7_ n8_ n9_ n10_ n11_ n12_ n13_ n14_ n15_ n16_; clear hb hbox hg; have hnb85 := NB242_211.out; have hnc85 := NB211_242.out; have hnb86 := NB242_212.out; have hnc86 := NB212_242.out; have hnb87 := NB242_230.out; have hnc87 := NB230_242.out; obtain ⟨hcz88_0, hcz88_1, hcz88_2, hfz88_0, hfz88_1, hfz88_2⟩ := aC3 BK242) | ((with_reducible refine gate_store (t := 50) (p := 21) rfl ?_); (try (rw [drewN_self w84]; generalize hq_ : World.drewN w84 _ = w84; have n0_ := zA.mk (Kd.R_at hq_ HO_12.out); have n1_ := zA.mk (Kd.R_at hq_ HO_13.out); have n2_ := zA.mk (Kd.R_at hq_ HO_15.out); have n3_ := zA.mk (Kd.R_at hq_ HO_83.out); have n4_ := zA.mk (blk_at hq_ BK211.out); have n5_ := zA.mk (blk_at hq_ BK212.out); have n6_ := zA.mk (blk_at hq_ BK230.out); have n7_ := zA.mk (blk_at hq_ BK242.out); have n8_ := zA.mk (below_at hq_ HB.out); clear hq_ HO_12 HO_13 HO_15 HO_83 BK211 BK212 BK230 BK242 HB; have HO_12 := n0_; have HO_13 := n1_; have HO_15 := n2_; have HO_83 := n3_; have BK211 := n4_; have BK212 := n5_; have BK230 := n6_; have BK242 := n7_; have HB := n8_; clear n0_ n1_ n2_ n3_ n4_ n5_ n6_ n7_ n8_)); refine store_event (t := 50) (p := 21) (v := ?vo_w89) (w1 := (((w84.setCell ⟨gb242, 0, none⟩ (.int .i32 ((rd_T50 y237 x130_5).f0))).setCell ⟨gb242, 1, none⟩ (.int .i64 ((rd_T50 y237 x130_5).f1))).setCell ⟨gb242, 2, none⟩ (.int .i64 ((rd_T50 y237 x130_5).f2)))) ?hg ?ho ?hn ?hr ?_; (case ho => rfl); (case hg => rfl); (case hn => rfl); (case hr => first | (go_simp; done) | (go_simp; rfl)); intro w89 hw; have n0_ : zA (Kd.R (Kd.int .u8) 5 w89 w.heap.size (fun k_ => k_ ≠ gb211 ∧ k_ ≠ gb212) (.slice Ao25 t213.length co25) t213) := ⟨(by rw [hw]; exact (by (with_reducible repeat (first | apply Kd.zE | apply Kd.zF | apply Kd.zG)); exact Kd.zQ (Kd.zN (p := ⟨gb242, 2, none⟩) (Kd.zN (p := ⟨gb242, 1, none⟩) (Kd.zN (p := ⟨gb242, 0, none⟩) (Kd.zR HO_12.out BK242.out (by decide)) (fun _ hk => hk.2) (.int .i32 ((rd_T50 y237 x130_5).f0))) (fun _ hk => hk.2) (.int .i64 ((rd_T50 y237 x130_5).f1))) (fun _ hk => hk.2) (.int .i64 ((rd_T50 y237 x130_5).f2))) (fun _ hk => ⟨hk.1.1, hk.1.2⟩)))⟩; have n1_ : zA (Kd.R k50 50 w89 w.heap.size (fun k_ => k_ ≠ gb211 ∧ k_ ≠ gb212 ∧ k_ ≠ gb242) (.slice Ao28 t216.length co28) t216) := ⟨(by rw [hw]; exact (by (with_reducible repeat (first | apply Kd.zE | apply Kd.zF | apply Kd.zG)); exact Kd.zQ (Kd.zN (p := ⟨gb242, 2, none⟩) (Kd.zN (p := ⟨gb242, 1, none⟩) (Kd.zN (p := ⟨gb242, 0, none⟩) (Kd.zQ HO_13.out (fun k_ hk => (⟨hk, hk.2⟩ : _ ∧ k_ ≠ gb242))) (fun _ hk => hk.2) (.int .i32 ((rd_T50 y237 x130_5).f0))) (fun _ hk => hk.2) (.int .i64 ((rd_T50 y237 x130_5).f1))) (fun _ hk => hk.2) (.int .i64 ((rd_T50 y237 x130_5).f2))) (fun _ hk => ⟨hk.1.1.1, ⟨hk.1.1.2, hk.1.2⟩⟩)))⟩; have n2_ : zA (Kd.R (Kd.int .i64) 3 w89 w.heap.size (fun k_ => k_ ≠ gb211 ∧ k_ ≠ gb212) (.slice (some ad235) t223.length co77) t223) := ⟨(by rw [hw]; exact (by (with_reducible repeat (first | apply Kd.zE | apply Kd.zF | apply Kd.zG)); exact Kd.zQ (Kd.zN (p := ⟨gb242, 2, none⟩) (Kd.zN (p := ⟨gb242, 1, none⟩) (Kd.zN (p := ⟨gb242, 0, none⟩) (Kd.zR HO_15.out BK242.out (by decide)) (fun _ hk => hk.2) (.int .i32 ((rd_T50 y237 x130_5).f0))) (fun _ hk => hk.2) (.int .i64 ((rd_T50 y237 x130_5).f1))) (fun _ hk => hk.2) (.int .i64 ((rd_T50 y237 x130_5).f2))) (fun _ hk => ⟨hk.1.1, hk.1.2⟩)))⟩; have n3_ : zA (Kd.R k48 48 w89 w.heap.size (fun k_ => k_ ≠ gb211 ∧ k_ ≠ gb212 ∧ k_ ≠ gb230) (.slice (some ad229) t222.length co39) t222) := ⟨(by rw [hw]; exact (by (with_reducible repeat (first | apply Kd.zE | apply Kd.zF | apply Kd.zG)); exact Kd.zQ (Kd.zN (p := ⟨gb242, 2, none⟩) (Kd.zN (p := ⟨gb242, 1, none⟩) (Kd.zN (p := ⟨gb242, 0, none⟩) (Kd.zR HO_83.out BK242.out (by decide)) (fun _ hk => hk.2) (.int .i32 ((rd_T50 y237 x130_5).f0))) (fun _ hk => hk.2) (.int .i64 ((rd_T50 y237 x130_5).f1))) (fun _ hk => hk.2) (.int .i64 ((rd_T50 y237 x130_5).f2))) (fun _ hk => ⟨hk.1.1, ⟨hk.1.2.1, hk.1.2.2⟩⟩)))⟩; have n4_ : zA (w89.heap[gb211]? = some (ob211)) := ⟨(by rw [hw]; exact (by (with_reducible repeat (first | refine zC ?_ _ | refine zD ?_ | refine zB ?_ _)); refine blk_farO ?_ NB211_242.out _; (with_reducible repeat (first | refine zC ?_ _ | refine zD ?_ | refine zB ?_ _)); refine blk_farO ?_ NB211_242.out _; (with_reducible repeat (first | refine zC ?_ _ | refine zD ?_ | refine zB ?_ _)); refine blk_farO ?_ NB211_242.out _; (with_reducible repeat (first | refine zC ?_ _ | refine zD ?_ | refine zB ?_ _)); exact BK211.out))⟩; have n5_ : zA (w89.heap[gb212]? = some (ob212)) := ⟨(by rw [hw]; exact (by (with_reducible repeat (first | refine zC ?_ _ | refine zD ?_ | refine zB ?_ _)); refine blk_farO ?_ NB212_242.out _; (with_reducible repeat (first | refine zC ?_ _ | refine zD ?_ | refine zB ?_ _)); refine blk_farO ?_ NB212_242.out _; (with_reducible repeat (first | refine zC ?_ _ | refine zD ?_ | refine zB ?_ _)); refine blk_farO ?_ NB212_242.out _; (with_reducible repeat (first | refine zC ?_ _ | refine zD ?_ | refine zB ?_ _)); exact BK212.out))⟩; have n6_ : zA (w89.heap[gb230]? = some (.cells #[.int .i64 ((rd_T48 t222 x85_3).f0), .int .i64 ((rd_T48 t222 x85_3).f1), .int .i64 ((rd_T48 t222 x85_3).f2), .int .u8 ((rd_T48 t222 x85_3).f3)] 48 (0, 0))) := ⟨(by rw [hw]; exact (aB BK230))⟩; have n7_ : zA (w89.heap[gb242]? = some (.cells #[.int .i32 ((rd_T50 y237 x130_5).f0), .int .i64 ((rd_T50 y237 x130_5).f1), .int .i64 ((rd_T50 y237 x130_5).f2)] 50 (0, 0))) := ⟨(by rw [hw]; exact (by (with_reducible repeat (first | refine zC ?_ _ | refine zD ?_ | refine zB ?_ _)); refine blk_put (cs := #[.int .i32 ((rd_T50 y237 x130_5).f0), .int .i64 ((rd_T50 y237 x130_5).f1), .int .i64 0]) ?_ 2 _ rfl; (with_reducible repeat (first | refine zC ?_ _ | refine zD ?_ | refine zB ?_ _)); refine blk_put (cs := #[.int .i32 ((rd_T50 y237 x130_5).f0), .int .i64 0, .int .i64 0]) ?_ 1 _ rfl; (with_reducible repeat (first | refine zC ?_ _ | refine zD ?_ | refine zB ?_ _)); refine blk_put (cs := #[.int .i32 0, .int .i64 0, .int .i64 0]) ?_ 0 _ rfl; (with_reducible repeat (first | refine zC ?_ _ | refine zD ?_ | refine zB ?_ _)); exact BK242.out))⟩; have n8_ : zA (Below w.heap.size w w89) := ⟨(by rw [hw]; exact (aL HB))⟩; clear hw; clear HO_12; clear HO_13; clear HO_15; clear HO_83; clear BK211; clear BK212; clear BK230; clear BK242; clear HB; have HO_12 := n0_; have HO_13 := n1_; have HO_15 := n2_; have HO_83 := n3_; have BK211 := n4_; have BK212 := n5_; have BK230 := n6_; have BK242 := n7_; have HB := n8_; clear n0_ n1_ n2_ n3_ n4_ n5_ n6_ n7_ n8_; obtain ⟨hcz90_0, hcz90_1, hcz90_2, hfz90_0, hfz90_1, hfz90_2⟩ := aC3 BK242) | (go_at_call 22; (with_reducible refine (prop_Table_Of.calls (.pointer (some ⟨gb211, 0, none⟩)) t212 ((rd_T50 y237 x130_5).f0) t243 _ ?side1 A82.out).mono ?_); (case side1 => exact TabO.at HTt212.out (aB BK211) (aB BK212)); rintro e w' ⟨rfl, ⟨nd, rfl⟩⟩; (try first | exact ⟨rfl, _, World.drewN_drewN _ _ _⟩ | exact ⟨rfl, _, Eq.trans (World.drewN_drewN _ _ _) (congrArg (World.drewN _) (Nat.add_assoc _ _ _))⟩))); try go_wp2_with (first | ((with_reducible refine gate_dst (N := 21) rfl ?_); (try (refine gate_guard (by rfl) ?_; dsimp only)); refine box_event ?hg (N := 21) ?hd (cs := #[.int .i32 0, .int .i64 0, .int .i64 0]) (t := 50) ?hr ?_; (case hd => rfl); (case hg => rfl); (case hr => first | (go_simp; done) | (go_simp; rfl)); intro gb242 hg w84 hbox hb; have n0_ := zA.mk (Kd.zM (aR HO_12) hb); have n1_ := zA.mk (Kd.zM (Kd.R_elderB (aR HO_13) gb242 (Nat.le_of_eq hg.symm)) hb); have n2_ := zA.mk (Kd.zM (aR HO_15) hb); have n3_ := zA.mk (Kd.zM (aR HO_83) hb); have n4_ := zA.mk (blk_below (g := gb211) (o := ob211) (aB BK211) hb); have n5_ := zA.mk (blk_below (g := gb212) (o := ob212) (aB BK212) hb); have n6_ := zA.mk (blk_below (g := gb230) (o := .cells #[.int .i64 ((rd_T48 t222 x85_3).f0), .int .i64 ((rd_T48 t222 x85_3).f1), .int .i64 ((rd_T48 t222 x85_3).f2), .int .u8 ((rd_T48 t222 x85_3).f3)] 48 (0, 0)) (aB BK230) hb); have n7_ := zA.mk (below_step (aL HB) hb); have n8_ := zA.mk (hbox); have n9_ := zA.mk ((by rw [hg]; exact (below_size (aL HB)) : w.heap.size ≤ gb242)); have n10_ := zA.mk ((by rw [hg]; exact (below_size (aL HB)) : w.heap.size ≤ gb242)); have n11_ := zA.mk ((by rw [hg]; exact Nat.ne_of_lt (blk_lt (g := gb211) (o := ob211) (aB BK211)) : gb211 ≠ gb242)); have n12_ := zA.mk ((by rw [hg]; exact Nat.ne_of_gt (blk_lt (g := gb211) (o := ob211) (aB BK211)) : gb242 ≠ gb211)); have n13_ := zA.mk ((by rw [hg]; exact Nat.ne_of_lt (blk_lt (g := gb212) (o := ob212) (aB BK212)) : gb212 ≠ gb242)); have n14_ := zA.mk ((by rw [hg]; exact Nat.ne_of_gt (blk_lt (g := gb212) (o := ob212) (aB BK212)) : gb242 ≠ gb212)); have n15_ := zA.mk ((by rw [hg]; exact Nat.ne_of_lt (blk_lt (g := gb230) (o := .cells #[.int .i64 ((rd_T48 t222 x85_3).f0), .int .i64 ((rd_T48 t222 x85_3).f1), .int .i64 ((rd_T48 t222 x85_3).f2), .int .u8 ((rd_T48 t222 x85_3).f3)] 48 (0, 0)) (aB BK230)) : gb230 ≠ gb242)); have n16_ := zA.mk ((by rw [hg]; exact Nat.ne_of_gt (blk_lt (g := gb230) (o := .cells #[.int .i64 ((rd_T48 t222 x85_3).f0), .int .i64 ((rd_T48 t222 x85_3).f1), .int .i64 ((rd_T48 t222 x85_3).f2), .int .u8 ((rd_T48 t222 x85_3).f3)] 48 (0, 0)) (aB BK230)) : gb242 ≠ gb230)); clear HO_12; clear HO_13; clear HO_15; clear HO_83; clear BK211; clear BK212; clear BK230; clear HB; have HO_12 := n0_; have HO_13 := n1_; have HO_15 := n2_; have HO_83 := n3_; have BK211 := n4_; have BK212 := n5_; have BK230 := n6_; have HB := n7_; have BK242 := n8_; have GW242 := n9_; have GE242 := n10_; have NB211_242 := n11_; have NB242_211 := n12_; have NB212_242 := n13_; have NB242_212 := n14_; have NB230_242 := n15_; have NB242_230 := n16_; clear n0_ n1_ n2_ n3_ n4_ n5_ n6_ n7_ n8_ n9_ n10_ n11_ n12_ n13_ n14_ n15_ n16_; clear hb hbox hg; have hnb85 := NB242_211.out; have hnc85 := NB211_242.out; have hnb86 := NB242_212.out; have hnc86 := NB212_242.out; have hnb87 := NB242_230.out; have hnc87 := NB230_242.out; obtain ⟨hcz88_0, hcz88_1, hcz88_2, hfz88_0, hfz88_1, hfz88_2⟩ := aC3 BK242) | ((with_reducible refine gate_store (t := 50) (p := 21) rfl ?_); (try (rw [drewN_self w84]; generalize hq_ : World.drewN w84 _ = w84; have n0_ := zA.mk (Kd.R_at hq_ HO_12.out); have n1_ := zA.mk (Kd.R_at hq_ HO_13.out); have n2_ := zA.mk (Kd.R_at hq_ HO_15.out); have n3_ := zA.mk (Kd.R_at hq_ HO_83.out); have n4_ := zA.mk (blk_at hq_ BK211.out); have n5_ := zA.mk (blk_at hq_ BK212.out); have n6_ := zA.mk (blk_at hq_ BK230.out); have n7_ := zA.mk (blk_at hq_ BK242.out); have n8_ := zA.mk (below_at hq_ HB.out); clear hq_ HO_12 HO_13 HO_15 HO_83 BK211 BK212 BK230 BK242 HB; have HO_12 := n0_; have HO_13 := n1_; have HO_15 := n2_; have HO_83 := n3_; have BK211 := n4_; have BK212 := n5_; have BK230 := n6_; have BK242 := n7_; have HB := n8_; clear n0_ n1_ n2_ n3_ n4_ n5_ n6_ n7_ n8_)); refine store_event (t := 50) (p := 21) (v := ?vo_w89) (w1 := (((w84.setCell ⟨gb242, 0, none⟩ (.int .i32 ((rd_T50 y237 x130_5).f0))).setCell ⟨gb242, 1, none⟩ (.int .i64 ((rd_T50 y237 x130_5).f1))).setCell ⟨gb242, 2, none⟩ (.int .i64 ((rd_T50 y237 x130_5).f2)))) ?hg ?ho ?hn ?hr ?_; (case ho => rfl); (case hg => rfl); (case hn => rfl); (case hr => first | (go_simp; done) | (go_simp; rfl)); intro w89 hw; have n0_ : zA (Kd.R (Kd.int .u8) 5 w89 w.heap.size (fun k_ => k_ ≠ gb211 ∧ k_ ≠ gb212) (.slice Ao25 t213.length co25) t213) := ⟨(by rw [hw]; exact (by (with_reducible repeat (first | apply Kd.zE | apply Kd.zF | apply Kd.zG)); exact Kd.zQ (Kd.zN (p := ⟨gb242, 2, none⟩) (Kd.zN (p := ⟨gb242, 1, none⟩) (Kd.zN (p := ⟨gb242, 0, none⟩) (Kd.zR HO_12.out BK242.out (by decide)) (fun _ hk => hk.2) (.int .i32 ((rd_T50 y237 x130_5).f0))) (fun _ hk => hk.2) (.int .i64 ((rd_T50 y237 x130_5).f1))) (fun _ hk => hk.2) (.int .i64 ((rd_T50 y237 x130_5).f2))) (fun _ hk => ⟨hk.1.1, hk.1.2⟩)))⟩; have n1_ : zA (Kd.R k50 50 w89 w.heap.size (fun k_ => k_ ≠ gb211 ∧ k_ ≠ gb212 ∧ k_ ≠ gb242) (.slice Ao28 t216.length co28) t216) := ⟨(by rw [hw]; exact (by (with_reducible repeat (first | apply Kd.zE | apply Kd.zF | apply Kd.zG)); exact Kd.zQ (Kd.zN (p := ⟨gb242, 2, none⟩) (Kd.zN (p := ⟨gb242, 1, none⟩) (Kd.zN (p := ⟨gb242, 0, none⟩) (Kd.zQ HO_13.out (fun k_ hk => (⟨hk, hk.2⟩ : _ ∧ k_ ≠ gb242))) (fun _ hk => hk.2) (.int .i32 ((rd_T50 y237 x130_5).f0))) (fun _ hk => hk.2) (.int .i64 ((rd_T50 y237 x130_5).f1))) (fun _ hk => hk.2) (.int .i64 ((rd_T50 y237 x130_5).f2))) (fun _ hk => ⟨hk.1.1.1, ⟨hk.1.1.2, hk.1.2⟩⟩)))⟩; have n2_ : zA (Kd.R (Kd.int .i64) 3 w89 w.heap.size (fun k_ => k_ ≠ gb211 ∧ k_ ≠ gb212) (.slice (some ad235) t223.length co77) t223) := ⟨(by rw [hw]; exact (by (with_reducible repeat (first | apply Kd.zE | apply Kd.zF | apply Kd.zG)); exact Kd.zQ (Kd.zN (p := ⟨gb242, 2, none⟩) (Kd.zN (p := ⟨gb242, 1, none⟩) (Kd.zN (p := ⟨gb242, 0, none⟩) (Kd.zR HO_15.out BK242.out (by decide)) (fun _ hk => hk.2) (.int .i32 ((rd_T50 y237 x130_5).f0))) (fun _ hk => hk.2) (.int .i64 ((rd_T50 y237 x130_5).f1))) (fun _ hk => hk.2) (.int .i64 ((rd_T50 y237 x130_5).f2))) (fun _ hk => ⟨hk.1.1, hk.1.2⟩)))⟩; have n3_ : zA (Kd.R k48 48 w89 w.heap.size (fun k_ => k_ ≠ gb211 ∧ k_ ≠ gb212 ∧ k_ ≠ gb230) (.slice (some ad229) t222.length co39) t222) := ⟨(by rw [hw]; exact (by (with_reducible repeat (first | apply Kd.zE | apply Kd.zF | apply Kd.zG)); exact Kd.zQ (Kd.zN (p := ⟨gb242, 2, none⟩) (Kd.zN (p := ⟨gb242, 1, none⟩) (Kd.zN (p := ⟨gb242, 0, none⟩) (Kd.zR HO_83.out BK242.out (by decide)) (fun _ hk => hk.2) (.int .i32 ((rd_T50 y237 x130_5).f0))) (fun _ hk => hk.2) (.int .i64 ((rd_T50 y237 x130_5).f1))) (fun _ hk => hk.2) (.int .i64 ((rd_T50 y237 x130_5).f2))) (fun _ hk => ⟨hk.1.1, ⟨hk.1.2.1, hk.1.2.2⟩⟩)))⟩; have n4_ : zA (w89.heap[gb211]? = some (ob211)) := ⟨(by rw [hw]; exact (by (with_reducible repeat (first | refine zC ?_ _ | refine zD ?_ | refine zB ?_ _)); refine blk_farO ?_ NB211_242.out _; (with_reducible repeat (first | refine zC ?_ _ | refine zD ?_ | refine zB ?_ _)); refine blk_farO ?_ NB211_242.out _; (with_reducible repeat (first | refine zC ?_ _ | refine zD ?_ | refine zB ?_ _)); refine blk_farO ?_ NB211_242.out _; (with_reducible repeat (first | refine zC ?_ _ | refine zD ?_ | refine zB ?_ _)); exact BK211.out))⟩; have n5_ : zA (w89.heap[gb212]? = some (ob212)) := ⟨(by rw [hw]; exact (by (with_reducible repeat (first | refine zC ?_ _ | refine zD ?_ | refine zB ?_ _)); refine blk_farO ?_ NB212_242.out _; (with_reducible repeat (first | refine zC ?_ _ | refine zD ?_ | refine zB ?_ _)); refine blk_farO ?_ NB212_242.out _; (with_reducible repeat (first | refine zC ?_ _ | refine zD ?_ | refine zB ?_ _)); refine blk_farO ?_ NB212_242.out _; (with_reducible repeat (first | refine zC ?_ _ | refine zD ?_ | refine zB ?_ _)); exact BK212.out))⟩; have n6_ : zA (w89.heap[gb230]? = some (.cells #[.int .i64 ((rd_T48 t222 x85_3).f0), .int .i64 ((rd_T48 t222 x85_3).f1), .int .i64 ((rd_T48 t222 x85_3).f2), .int .u8 ((rd_T48 t222 x85_3).f3)] 48 (0, 0))) := ⟨(by rw [hw]; exact (aB BK230))⟩; have n7_ : zA (w89.heap[gb242]? = some (.cells #[.int .i32 ((rd_T50 y237 x130_5).f0), .int .i64 ((rd_T50 y237 x130_5).f1), .int .i64 ((rd_T50 y237 x130_5).f2)] 50 (0, 0))) := ⟨(by rw [hw]; exact (by (with_reducible repeat (first | refine zC ?_ _ | refine zD ?_ | refine zB ?_ _)); refine blk_put (cs := #[.int .i32 ((rd_T50 y237 x130_5).f0), .int .i64 ((rd_T50 y237 x130_5).f1), .int .i64 0]) ?_ 2 _ rfl; (with_reducible repeat (first | refine zC ?_ _ | refine zD ?_ | refine zB ?_ _)); refine blk_put (cs := #[.int .i32 ((rd_T50 y237 x130_5).f0), .int .i64 0, .int .i64 0]) ?_ 1 _ rfl; (with_reducible repeat (first | refine zC ?_ _ | refine zD ?_ | refine zB ?_ _)); refine blk_put (cs := #[.int .i32 0, .int .i64 0, .int .i64 0]) ?_ 0 _ rfl; (with_reducible repeat (first | refine zC ?_ _ | refine zD ?_ | refine zB ?_ _)); exact BK242.out))⟩; have n8_ : zA (Below w.heap.size w w89) := ⟨(by rw [hw]; exact (aL HB))⟩; clear hw; clear HO_12; clear HO_13; clear HO_15; clear HO_83; clear BK211; clear BK212; clear BK230; clear BK242; clear HB; have HO_12 := n0_; have HO_13 := n1_; have HO_15 := n2_; have HO_83 := n3_; have BK211 := n4_; have BK212 := n5_; have BK230 := n6_; have BK242 := n7_; have HB := n8_; clear n0_ n1_ n2_ n3_ n4_ n5_ n6_ n7_ n8_; obtain ⟨hcz90_0, hcz90_1, hcz90_2, hfz90_0, hfz90_1, hfz90_2⟩ := aC3 BK242) | (go_at_call 22; (with_reducible refine (prop_Table_Of.calls (.pointer (some ⟨gb211, 0, none⟩)) t212 ((rd_T50 y237 x130_5).f0) t243 _ ?side1 A82.out).mono ?_); (case side1 => exact TabO.at HTt212.out (aB BK211) (aB BK212)); rintro e w' ⟨rfl, ⟨nd, rfl⟩⟩; (try first | exact ⟨rfl, _, World.drewN_drewN _ _ _⟩ | exact ⟨rfl, _, Eq.trans (World.drewN_drewN _ _ _) (congrArg (World.drewN _) (Nat.add_assoc _ _ _))⟩))))
      go_roundg k5
      case measure => have := HK1.out; have := HJ20.out; have := HK3.out; have := HJ42.out; have := HK5.out; omega
      case rel => exact ⟨(ji83), (wrap64 (x130_5 + 1)), (by first | rfl | (simp; done) | (simp only [← hji83] <;> (first | rfl | simp)) | (simp [*]; done)), aZ, H', ⟨by have := HK1.out; have := HJ20.out; have := HK3.out; have := HJ42.out; have := HK5.out; omega⟩, ⟨aR HO_12⟩, ⟨by (with_reducible repeat (first | apply Kd.zE | apply Kd.zF | apply Kd.zG)); exact Kd.zQ HO_13.out (fun _ hk => ⟨hk.1, hk.2.1⟩)⟩, ⟨aR HO_15⟩, ⟨aR HO_83⟩, ⟨aB BK211⟩, ⟨aB BK212⟩, ⟨aB BK230⟩, ⟨aL HB⟩⟩
def stanzalaw10_CellsWhole.Pure : Prop := ∀ (l0 : List Int) (l1 : List Int) (l2 : List Int), (l0.length * 1 ≤ 140737488351232 ∧ ∀ y0 ∈ l0, (Lit.int .u8 y0).wf = true) → (l1.length * 1 ≤ 140737488351232 ∧ ∀ y0 ∈ l1, (Lit.int .u8 y0).wf = true) → (l2.length * 1 ≤ 140737488351232 ∧ ∀ y0 ∈ l2, (Lit.int .u8 y0).wf = true) → ∃ k, stanzalaw10_CellsWhole.f k l0 l1 l2 = some true
def stanzaref01_Of.l0 : Nat → List (S45) → Int → Int → Option (Int)
 | 0, _, _, _ => none
 | k + 1, x0, x1, x5 => if x5 < (x0.length : Int) then (if 0 ≤ x5 then (if ((rd_T45 x0 x5).f0) ≤ x1 then (if x1 ≤ ((rd_T45 x0 x5).f1) then (some ((rd_T45 x0 x5).f2)) else (stanzaref01_Of.l0 k x0 x1 (wrap64 (x5 + 1)))) else (stanzaref01_Of.l0 k x0 x1 (wrap64 (x5 + 1)))) else (none)) else (some 0)
def stanzaref01_Of.f (k : Nat) (l0 : List (S45)) (a1 : Int) : Option (Int) := stanzaref01_Of.l0 k l0 a1 0
theorem stanzaref01_Of.mono_l : ∀ k, (∀ y0 y1 y2, LeO (stanzaref01_Of.l0 k y0 y1 y2) (stanzaref01_Of.l0 (k + 1) y0 y1 y2))
 | 0 => fun _ _ _ r h => by simp [stanzaref01_Of.l0] at h
 | k + 1 => by
  have ih0 := stanzaref01_Of.mono_l k
  ·intro y0 y1 y2
   unfold stanzaref01_Of.l0
   repeat' (with_reducible first | exact ih0 _ _ _ | exact LeO.refl _ | exact LeO.none _ | refine LeO.ite ?_ ?_ | refine LeO.bind ?_ (fun _ => ?_))
theorem stanzaref01_Of.mono : ∀ a0 a1 k, LeO (stanzaref01_Of.f k a0 a1) (stanzaref01_Of.f (k + 1) a0 a1) := by
 intro a0 a1 k
 have ih0 := stanzaref01_Of.mono_l k; unfold stanzaref01_Of.f
 repeat' (with_reducible first | exact ih0 _ _ _ | exact LeO.refl _ | exact LeO.none _ | refine LeO.ite ?_ ?_ | refine LeO.bind ?_ (fun _ => ?_))
set_option maxHeartbeats 8000000 in
set_option maxRecDepth 100000 in
theorem stanzaref01_Of.calls (k : Nat) (A0 : Option Addr) (c0 : Nat) (l0 : List (S45)) (a1 : Int) (r : Int) (w : World) (hr0 : Kd.C k45 w A0 l0.length l0) (hc0 : l0.length ≤ c0) (h : stanzaref01_Of.f k l0 a1 = some r) :
  Calls Try.prog 37 #[.slice A0 l0.length c0, .int .i32 a1] w fun e w' => e = .returned (.int .i64 r) ∧ Drawn0 w w' := by
 have HR0 := zA.mk hr0; have HC0 := zA.mk hc0; clear hr0 hc0; have H : (stanzaref01_Of.l0 k l0 a1 0) = some r := h
 clear h; have H' := zA.mk H
 clear H; go_enter Try.func37, Try.ntmps37
 go_wp2
 go_loopg [5] k (fun kq v5 w' => ∃ (x5_1 : Int), v5 = .int .i64 x5_1 ∧ zA (stanzaref01_Of.l0 kq l0 a1 x5_1 = some r) ∧ zA (kq ≤ k) ∧ Drawn0 w w')
 case atStart => exact ⟨(0), aZ, H', ⟨Nat.le_refl _⟩, by repeat (first | exact Drawn0.refl _ | apply Drawn0.step)⟩
 clear H'; obtain ⟨x5_1, rfl, HA, HK1, ⟨m1, rfl⟩⟩ := hrel; cases gk with
 | zero => exact absurd HA.out (by simp [stanzaref01_Of.l0])
 | succ k1 =>
  have H := HA.out; clear HA; simp only [stanzaref01_Of.l0] at H; by_cases c3 : x5_1 < (l0.length : Int)
  rotate_left
  ·rw [if_neg c3] at H
   have c3b0 : decide (x5_1 < (l0.length : Int)) = false := decide_eq_false c3
   clear c3; obtain rfl := Option.some.inj H
   go_wp2
   go_ret
   exact ⟨by first | rfl | (simp; done) | (simp [*]; done), by repeat (first | exact Drawn0.refl _ | apply Drawn0.step)⟩
  rw [if_pos c3] at H; have c3b0 : decide (x5_1 < (l0.length : Int)) = true := decide_eq_true c3
  clear c3; by_cases c4 : 0 ≤ x5_1
  rotate_left
  ·rw [if_neg c4] at H
   exact absurd H (by simp)
  rw [if_pos c4] at H; have c4b0 : decide (0 ≤ x5_1) = true := decide_eq_true c4
  clear c4; by_cases c5 : ((rd_T45 l0 x5_1).f0) ≤ a1
  rotate_left
  ·rw [if_neg c5] at H
   have c5b0 : decide (((rd_T45 l0 x5_1).f0) ≤ a1) = false := decide_eq_false c5
   clear c5; have H' := zA.mk H
   clear H; have p422 : 0 ≤ (x5_1 : Int) := aD
   have q422 : x5_1 < (l0.length : Int) := aD
   obtain ⟨ad422, e422, hx422_0, hx422_1, hx422_2⟩ := at_T45 HR0.out x5_1 p422 q422; cases e422
   replace p422 := eq_true p422; replace q422 := eq_true q422; go_wp2
   go_roundg k1
   case measure => have := HK1.out; omega
   case rel => exact ⟨(wrap64 (x5_1 + 1)), aZ, H', ⟨by have := HK1.out; omega⟩, by repeat (first | exact Drawn0.refl _ | apply Drawn0.step)⟩
  rw [if_pos c5] at H; have c5b0 : decide (((rd_T45 l0 x5_1).f0) ≤ a1) = true := decide_eq_true c5
  clear c5; by_cases c6 : a1 ≤ ((rd_T45 l0 x5_1).f1)
  rotate_left
  ·rw [if_neg c6] at H
   have c6b0 : decide (a1 ≤ ((rd_T45 l0 x5_1).f1)) = false := decide_eq_false c6
   clear c6; have H' := zA.mk H
   clear H; have p422 : 0 ≤ (x5_1 : Int) := aD
   have q422 : x5_1 < (l0.length : Int) := aD
   obtain ⟨ad422, e422, hx422_0, hx422_1, hx422_2⟩ := at_T45 HR0.out x5_1 p422 q422; cases e422
   replace p422 := eq_true p422; replace q422 := eq_true q422; have p423 : 0 ≤ (x5_1 : Int) := aD
   have q423 : x5_1 < (l0.length : Int) := aD
   obtain ⟨ad423, e423, hx423_0, hx423_1, hx423_2⟩ := at_T45 HR0.out x5_1 p423 q423; obtain rfl : ad422 = ad423 := (by injection e423)
   replace p423 := eq_true p423; replace q423 := eq_true q423; go_wp2
   go_roundg k1
   case measure => have := HK1.out; omega
   case rel => exact ⟨(wrap64 (x5_1 + 1)), aZ, H', ⟨by have := HK1.out; omega⟩, by repeat (first | exact Drawn0.refl _ | apply Drawn0.step)⟩
  rw [if_pos c6] at H; have c6b0 : decide (a1 ≤ ((rd_T45 l0 x5_1).f1)) = true := decide_eq_true c6
  clear c6; obtain rfl := Option.some.inj H
  have p422 : 0 ≤ (x5_1 : Int) := aD
  have q422 : x5_1 < (l0.length : Int) := aD
  obtain ⟨ad422, e422, hx422_0, hx422_1, hx422_2⟩ := at_T45 HR0.out x5_1 p422 q422; cases e422
  replace p422 := eq_true p422; replace q422 := eq_true q422; have p423 : 0 ≤ (x5_1 : Int) := aD
  have q423 : x5_1 < (l0.length : Int) := aD
  obtain ⟨ad423, e423, hx423_0, hx423_1, hx423_2⟩ := at_T45 HR0.out x5_1 p423 q423; obtain rfl : ad422 = ad423 := (by injection e423)
  replace p423 := eq_true p423; replace q423 := eq_true q423; have p424 : 0 ≤ (x5_1 : Int) := aD
  have q424 : x5_1 < (l0.length : Int) := aD
  obtain ⟨ad424, e424, hx424_0, hx424_1, hx424_2⟩ := at_T45 HR0.out x5_1 p424 q424; obtain rfl : ad422 = ad424 := (by injection e424)
  replace p424 := eq_true p424; replace q424 := eq_true q424; go_wp2
  go_ret
  exact ⟨by first | rfl | (simp; done) | (simp [*]; done), by repeat (first | exact Drawn0.refl _ | apply Drawn0.step)⟩
end Go.Proofs.Ytigajcipjklknaa.F
end
