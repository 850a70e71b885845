/- Printed by a program: Lean functions that answer as the Go functions do, and the proofs of it. -/
import Derived.Test.YtigajcipjklknaaXCellsFiner0
import Derived.Test.YtigajcipjklknaaVCellsFiner0
section
namespace Go.Proofs.Ytigajcipjklknaa.F
open Go.RowKit Go.Proofs.YtigajcipjklknaaW.PrintWords Go.Proofs.YtigajcipjklknaaW.PrintLast Go.Proofs.YtigajcipjklknaaW.PrintMore
attribute [local go_sem] max2_int min2_int max_two min_two max_three min_three max_four min_four   -- for this text's walks alone
set_option linter.unusedVariables false
set_option linter.unusedSimpArgs false
def h3_Words.l0 : Nat → List Int → List Int → Int → Option (List Int)
 | 0, _, _, _ => none
 | k + 1, x0, x3, x4 => if x4 < (x0.length : Int) then ((h3_signs.f).bind fun t166 => (if 0 ≤ x4 then (if 0 ≤ (Int.tmod (wrap64 (rd x0 x4)) 14) then (if (Int.tmod (wrap64 (rd x0 x4)) 14) < (t166.length : Int) then (if x3.length + (rdOf ByteArray.empty t166 (Int.tmod (wrap64 (rd x0 x4)) 14)).size < 140737488355328 then (h3_Words.l0 k x0 (x3 ++ bytesOf (rdOf ByteArray.empty t166 (Int.tmod (wrap64 (rd x0 x4)) 14))) (wrap64 (x4 + 1))) else (none)) else (none)) else (none)) else (none))) else (some x3)
def h3_Words.f (k : Nat) (l0 : List Int) : Option (List Int) := h3_Words.l0 k l0 ([] : List Int) 0
theorem h3_Words.mono_l : ∀ k, (∀ y0 y1 y2, LeO (h3_Words.l0 k y0 y1 y2) (h3_Words.l0 (k + 1) y0 y1 y2))
 | 0 => fun _ _ _ r h => by simp [h3_Words.l0] at h
 | k + 1 => by
  have ih0 := h3_Words.mono_l k
  ·intro y0 y1 y2
   unfold h3_Words.l0
   repeat' (with_reducible first | exact ih0 _ _ _ | exact LeO.refl _ | exact LeO.none _ | refine LeO.ite ?_ ?_ | refine LeO.bind ?_ (fun _ => ?_))
theorem h3_Words.mono : ∀ a0 k, LeO (h3_Words.f k a0) (h3_Words.f (k + 1) a0) := by
 intro a0 k
 have ih0 := h3_Words.mono_l k; unfold h3_Words.f
 repeat' (with_reducible first | exact ih0 _ _ _ | exact LeO.refl _ | exact LeO.none _ | refine LeO.ite ?_ ?_ | refine LeO.bind ?_ (fun _ => ?_))
def h3_Words.T5 : Bool × List (List Nat × List Nat) := (true, [([], []), ([], []), ([], []), ([], []), ([2, 3], [2, 3]), ([4], [4]), ([5], [5]), ([6], [6]), ([1, 7], [1, 7]), ([8], [8]), ([0, 9, 1], [0, 9]), ([10, 10, 0, 1, 2, 3, 4, 5, 6, 7, 8, 9, 10], [0, 10])])
def h3_Words.B5 : List Nat := [0, 0, 0, 0, 12, 28, 60, 124, 254, 510, 1023, 2047]
theorem h3_Words.tab5 : rtab .any (opsOf Try.f15 5) = h3_Words.T5 := by kernel_rfl
theorem h3_Words.bits5 : waitsOk h3_Words.T5.2 h3_Words.B5 = true := by kernel_rfl
set_option maxHeartbeats 8000000 in
set_option maxRecDepth 100000 in
theorem h3_Words.calls (k : Nat) (A0 : Option Addr) (c0 : Nat) (l0 : List Int) (r : List Int) (w : World) (hr0 : Kd.C (Kd.int .u8) w A0 l0.length l0) (hc0 : l0.length ≤ c0) (h : h3_Words.f k l0 = some r) :
  Calls Try.prog 15 #[.slice A0 l0.length c0] w fun e w' => ∃ v0_ : Value, e = .returned (v0_) ∧ Kd.R (Kd.int .u8) 5 w' w.heap.size (fun _ => True) v0_ r ∧ Below w.heap.size w w' := by
 have HR0 := zA.mk hr0; have HC0 := zA.mk hc0; clear hr0 hc0; have HB := zA.mk (Below.refl w.heap.size w); have H : (h3_Words.l0 k l0 ([] : List Int) 0) = some r := h
 clear h; have H' := zA.mk H
 clear H; go_enter Try.func15, Try.ntmps15
 go_wp2
 go_loopg [3, 4] k (fun kq v3 v4 w' => ∃ (x3_1 : List Int) (x4_1 : Int), v4 = .int .i64 x4_1 ∧ zA (h3_Words.l0 kq l0 x3_1 x4_1 = some r) ∧ zA (kq ≤ k) ∧ zA (Kd.R (Kd.int .u8) 5 w' w.heap.size (fun _ => True) v3 x3_1) ∧ zA (Below w.heap.size w w'))
 case atStart => exact ⟨(([] : List Int)), (0), aZ, H', ⟨Nat.le_refl _⟩, ⟨by first | exact Kd.R_nil _ _ _ _ _ | exact Kd.N_nil _ _ _ _ _ | exact Kd.V_nil _ _ _ _ _ | exact Kd.Q_nil _ _ _ _ _ | exact Kd.S_nil _ _ _ _ _⟩, ⟨aL HB⟩⟩
 clear H'; obtain ⟨x3_1, x4_1, rfl, HA, HK1, HO_3, HB⟩ := hrel; cases gk with
 | zero => exact absurd HA.out (by simp [h3_Words.l0])
 | succ k1 =>
  have H := HA.out; clear HA; simp only [h3_Words.l0] at H; by_cases c2 : x4_1 < (l0.length : Int)
  rotate_left
  ·rw [if_neg c2] at H
   have c2b0 : decide (x4_1 < (l0.length : Int)) = false := decide_eq_false c2
   clear c2; obtain rfl := Option.some.inj H
   go_wp2
   go_ret
   exact ⟨_, aX, aR HO_3, aL HB⟩
  rw [if_pos c2] at H; have c2b0 : decide (x4_1 < (l0.length : Int)) = true := decide_eq_true c2
  clear c2; replace H := Option.bind_eq_some_iff.mp H; obtain ⟨t166, A30, H⟩ := H; replace H : (if 0 ≤ x4_1 then (if 0 ≤ (Int.tmod (wrap64 (rd l0 x4_1)) 14) then (if (Int.tmod (wrap64 (rd l0 x4_1)) 14) < (t166.length : Int) then (if x3_1.length + (rdOf ByteArray.empty t166 (Int.tmod (wrap64 (rd l0 x4_1)) 14)).size < 140737488355328 then (h3_Words.l0 k1 l0 (x3_1 ++ bytesOf (rdOf ByteArray.empty t166 (Int.tmod (wrap64 (rd l0 x4_1)) 14))) (wrap64 (x4_1 + 1))) else (none)) else (none)) else (none)) else (none)) = some r := H; have A3 := zA.mk A30; clear A30; by_cases c4 : 0 ≤ x4_1
  rotate_left
  ·rw [if_neg c4] at H
   exact absurd H (by simp)
  rw [if_pos c4] at H; have c4b0 : decide (0 ≤ x4_1) = true := decide_eq_true c4
  clear c4; obtain ⟨ji5, hji5⟩ : ∃ j_ : Int, (Int.tmod (wrap64 (rd l0 x4_1)) 14) = j_ := ⟨_, rfl⟩; replace H : (if 0 ≤ (ji5) then (if (ji5) < (t166.length : Int) then (if x3_1.length + (rdOf ByteArray.empty t166 (ji5)).size < 140737488355328 then (h3_Words.l0 k1 l0 (x3_1 ++ bytesOf (rdOf ByteArray.empty t166 (ji5))) (wrap64 (x4_1 + 1))) else (none)) else (none)) else (none)) = some r := by first | (rw [hji5] at H; exact H) | (simp only [hji5] at H ⊢; exact H)
  (try rw [hji5] at A3)
  by_cases c6 : 0 ≤ (ji5)
  rotate_left
  ·rw [if_neg c6] at H
   exact absurd H (by simp)
  rw [if_pos c6] at H; have c6b0 : decide (0 ≤ (ji5)) = true := decide_eq_true c6
  clear c6; by_cases c7 : (ji5) < (t166.length : Int)
  rotate_left
  ·rw [if_neg c7] at H
   exact absurd H (by simp)
  rw [if_pos c7] at H; have c7b0 : decide ((ji5) < (t166.length : Int)) = true := decide_eq_true c7
  clear c7; by_cases c8 : x3_1.length + (rdOf ByteArray.empty t166 (ji5)).size < 140737488355328
  rotate_left
  ·rw [if_neg c8] at H
   exact absurd H (by simp)
  rw [if_pos c8] at H; have LMc8 := zA.mk c8; clear c8; obtain ⟨y171, hy171⟩ : ∃ y_ : List Int, y_ = (x3_1 ++ bytesOf (rdOf ByteArray.empty t166 (ji5))) := ⟨_, rfl⟩; replace H : (h3_Words.l0 k1 l0 y171 (wrap64 (x4_1 + 1))) = some r := by first | (rw [hy171]; with_reducible exact H) | (have H2_ := (Option.bind_some _ _).symm.trans H; rw [hy171]; with_reducible exact H2_) | (have H2_ := (Option.bind_some _ _).symm.trans H; with_reducible exact H2_) | with_reducible exact H | (rw [hy171]; exact H) | exact H
  have Ny171 := zA.mk hy171; clear hy171; have H' := zA.mk H
  clear H; try go_wp2
  have pi170 : (0 ≤ ((ji5) : Int)) = True := eq_true (aD)
  have qi170 : ((ji5) < (t166.length : Int)) = True := eq_true (aD)
  replace HO_3 := zA.mk (Kd.zF HO_3.out); replace HB := zA.mk (below_drew1 HB.out); have p169 : 0 ≤ (x4_1 : Int) := aD
  have q169 : x4_1 < (l0.length : Int) := aD
  obtain ⟨ad169, e169, hx169_0⟩ := Kd.at_int HR0.out x4_1 p169 q169; have hw169_0 := hx169_0; cases e169
  replace hx169_0 := (HB.out.cell (World.block_lt_of_cell? w _ hx169_0)).trans hx169_0; replace p169 := eq_true p169; replace q169 := eq_true q169; refine start_ (n := 12) (S := fun w' => w'.cell? (ad169.add (x4_1).toNat) = some (.int .u8 (rd l0 x4_1))) (ds := []) #[false, false, false, false, false, false, false, false, false, false, false, false] (by kernel_rfl) rfl rfl (((HB.out.cell (World.block_lt_of_cell? w _ hw169_0)).trans hw169_0)) (fun hHeld => ?_); refine with_tabW h3_Words.tab5 h3_Words.bits5 (fun HT_ HW_ => ?_)
  generalize wr.drew = w9 at HO_3 HB hx169_0 hHeld ⊢
  refine aP 0 (some 11) (tf_ 1 12) HT_ ?_
  refine aP 2 (some 13) (tb_ 5 12) HT_ ?_
  refine aP 3 (some 14) (tb_ 13 12) HT_ ?_
  refine aP 4 (some 15) (tb_ 29 12) HT_ ?_
  refine take_ (i := 5) (N := some 16) (v := ?_) (a' := ?_) (tb_ 61 12) rfl rfl (take_ofW HT_.out HW_.out (by kernel_rfl)) (fun _ _ _ h => h) (Or.inl ⟨by rfl, ?_⟩) hHeld ?_ ?_
  rotate_left
  ·intro w' s0
   go_simp
   with_reducible rfl
  rotate_left
  ·simp only [Act.put, sA_, sB_, sC_, i64_w, i32_w]
   rfl
  refine aP 6 (some 17) (tb_ 125 12) HT_ ?_
  refine aP 7 (some 18) (tb_ 253 12) HT_ ?_
  refine one_ (i := 1) (N := some 12) (tb_ 255 12) rfl rfl (one_of HT_.out (by kernel_rfl)) (by decide) (fun K hK => ?_)
  refine goes_ Try.func34 (by kernel_rfl) rfl #[] (by rfl) rfl rfl aT ?_
  with_reducible refine (h3_signs.calls  t166 _ A3.out).mono ?_
  rintro e w10 ⟨v167, rfl, ho0, hb⟩
  refine ⟨_, rfl, ?_⟩
  replace HO_3 := zA.mk (Kd.zL (aR HO_3) hb); have HO168 := zA.mk (Kd.zO ho0 (below_size (aL HB))); replace HB := zA.mk (below_step (aL HB) hb); (try clear hb)
  (try clear hb2)
  (try clear hk)
  (try clear hi)
  (try clear ho0)
  obtain ⟨Ao11, co11, eo11⟩ := Kd.zN HO168.out; subst eo11; obtain ⟨ado11, fo11, _⟩ := Kd.at_string (Kd.zK HO168.out).2.2 0 (by decide) (by have h1_ := of_eq_true pi170; have h2_ := of_eq_true qi170; omega)
  cases fo11
  refine hK.out _ _ (((HB.out.cell (World.block_lt_of_cell? w _ hw169_0)).trans hw169_0)) (fun hHeld => ?_)
  clear hK K; refine norm_ (a' := ?_) ?_ ?_
  rotate_left
  ·show Act.put _ (some 12) _ = _
   simp only [Act.put, sA_, sB_, sC_, i64_w, i32_w]; rfl
  refine aP 8 (some 19) (tf_ 9 12) HT_ ?_
  refine one_ (i := 9) (N := some 20) (tb_ 1023 12) rfl rfl (one_of HT_.out (by kernel_rfl)) (by decide) (fun K hK => ?_)
  (have p170 : 0 ≤ ((ji5) : Int) := aD; have q170 : (ji5) < (t166.length : Int) := aD; obtain ⟨ad170, e170, hx170_0⟩ := Kd.at_string (Kd.zK HO168.out).2.2 (ji5) p170 q170; obtain rfl : ado11 = ad170 := (by injection e170))
  refine value_ (w1 := ?_) (v := ?_) (by rfl) rfl ?_ ?_
  rotate_left 2
  ·go_simp
   constructor
   ·rfl
   rfl
  clear hx170_0; refine hK.out _ _ (((HB.out.cell (World.block_lt_of_cell? w _ hw169_0)).trans hw169_0)) (fun hHeld => ?_)
  clear hK K; refine norm_ (a' := ?_) ?_ ?_
  rotate_left
  ·show Act.put _ (some 20) _ = _
   simp only [Act.put, sA_, sB_, sC_, i64_w, i32_w]; rfl
  refine one_ (i := 10) (N := some 21) (tb_ 2047 12) rfl rfl (one_of HT_.out (by kernel_rfl)) (by decide) (fun K hK => ?_)
  refine print_append_str_step (w0 := w) w.heap.size (by rfl) (.tmp 11) _ 22 9 5 rfl Try.underlying22 Try.underlying9 info5 u3 x3_1 (rdOf ByteArray.empty t166 (ji5)) rfl rfl ?aO ?aB ?aS ?aL ?_
  (case aB => exact (aL HB))
  (case aO => exact (Kd.own_of_R (aR HO_3)))
  (case aS => exact (below_size (aL HB)))
  (case aL => have := LMc8.out; omega)
  intro v172 w12 ho0 hb hg
  have ho := Kd.R_of_own (h1 := fun _ => rfl) (ok := fun _ => True) ho0 (fun _ _ => trivial)
  clear ho0; have hat := True.intro; rw [← Ny171.out] at ho; change Kd.R (Kd.int .u8) 5 w12 w.heap.size (fun _ => True) v172 y171 at ho
  replace HO168 := zA.mk (Kd.R_over' (aR HO168) (Kd.R_typed (aR HO_3)) (by decide) hg)
  replace HB := zA.mk (hb); have HO173 := zA.mk (ho); clear HO_3; clear ho hb hg hat; refine hK.out _ _ (((HB.out.cell (World.block_lt_of_cell? w _ hw169_0)).trans hw169_0)) (fun hHeld => ?_)
  clear hK K; refine norm_ (a' := ?_) ?_ ?_
  rotate_left
  ·show Act.put _ (some 21) _ = _
   simp only [Act.put, sA_, sB_, sC_, i64_w, i32_w]; rfl
  refine aP 11 (some 3) (tb_ 4095 12) HT_ ?_
  refine done_ (done_of HT_.out (by kernel_rfl)) ?_
  try go_wp2
  go_roundg k1
  case measure => have := HK1.out; omega
  case rel => exact ⟨(y171), (wrap64 (x4_1 + 1)), aZ, H', ⟨by have := HK1.out; omega⟩, ⟨aR HO173⟩, ⟨aL HB⟩⟩
mutual
def stanzaref01_length.j0 : Nat → Int → Bool → Option (Int)
 | 0, _, _ => none
 | k + 1, x0, x6 => if x6 = true then (some 2) else (if x0 ≥ 224 then (stanzaref01_length.j1 k x0 (decide (x0 ≤ 239))) else (stanzaref01_length.j1 k x0 false))
def stanzaref01_length.j1 : Nat → Int → Bool → Option (Int)
 | 0, _, _ => none
 | k + 1, x0, x13 => if x13 = true then (some 3) else (if x0 ≥ 240 then (if x0 ≤ 244 then (some 4) else (some 0)) else (some 0))
end
def stanzaref01_length.f (k : Nat) (a0 : Int) : Option (Int) := if a0 < 128 then (some 1) else (if a0 ≥ 194 then (stanzaref01_length.j0 k a0 (decide (a0 ≤ 223))) else (stanzaref01_length.j0 k a0 false))
theorem stanzaref01_length.mono_l : ∀ k, (∀ y0 y1, LeO (stanzaref01_length.j0 k y0 y1) (stanzaref01_length.j0 (k + 1) y0 y1)) ∧ (∀ y0 y1, LeO (stanzaref01_length.j1 k y0 y1) (stanzaref01_length.j1 (k + 1) y0 y1))
 | 0 => ⟨fun _ _ r h => by simp [stanzaref01_length.j0] at h, fun _ _ r h => by simp [stanzaref01_length.j1] at h⟩
 | k + 1 => by
  obtain ⟨ih0, ih1⟩ := stanzaref01_length.mono_l k; refine ⟨?_, ?_⟩
  ·intro y0 y1
   unfold stanzaref01_length.j0
   repeat' (with_reducible first | exact ih0 _ _ | exact ih1 _ _ | exact LeO.refl _ | exact LeO.none _ | refine LeO.ite ?_ ?_ | refine LeO.bind ?_ (fun _ => ?_))
  ·intro y0 y1
   unfold stanzaref01_length.j1
   repeat' (with_reducible first | exact ih0 _ _ | exact ih1 _ _ | exact LeO.refl _ | exact LeO.none _ | refine LeO.ite ?_ ?_ | refine LeO.bind ?_ (fun _ => ?_))
theorem stanzaref01_length.mono : ∀ a0 k, LeO (stanzaref01_length.f k a0) (stanzaref01_length.f (k + 1) a0) := by
 intro a0 k
 obtain ⟨ih0, ih1⟩ := stanzaref01_length.mono_l k; unfold stanzaref01_length.f
 repeat' (with_reducible first | exact ih0 _ _ | exact ih1 _ _ | exact LeO.refl _ | exact LeO.none _ | refine LeO.ite ?_ ?_ | refine LeO.bind ?_ (fun _ => ?_))
set_option maxHeartbeats 8000000 in
set_option maxRecDepth 100000 in
theorem stanzaref01_length.calls (k : Nat) (a0 : Int) (r : Int) (w : World) (h : stanzaref01_length.f k a0 = some r) :
  Calls Try.prog 39 #[.int .u8 a0] w fun e w' => e = .returned (.int .i64 r) ∧ Drawn0 w w' := by
 have H : (if a0 < 128 then (some 1) else (if a0 ≥ 194 then (stanzaref01_length.j0 k a0 (decide (a0 ≤ 223))) else (stanzaref01_length.j0 k a0 false))) = some r := h
 clear h; by_cases c2 : a0 < 128
 ·rw [if_pos c2] at H
  have c2b0 : decide (a0 < 128) = true := decide_eq_true c2
  clear c2; obtain rfl := Option.some.inj H
  go_enter Try.func39, Try.ntmps39
  go_wp2
  go_ret
  exact ⟨by first | rfl | (simp; done) | (simp [*]; done), by repeat (first | exact Drawn0.refl _ | apply Drawn0.step)⟩
 rw [if_neg c2] at H; have c2b0 : decide (a0 < 128) = false := decide_eq_false c2
 clear c2; have HC3 := zA.mk H; clear H; go_enter Try.func39, Try.ntmps39
 go_upto_region 3 with (fail)
 go_cut [6] (fun v6 wc => ∃ (kq : Nat) (x6_2 : Bool), v6 = .bool x6_2 ∧ zA (stanzaref01_length.j0 kq a0 x6_2 = some r) ∧ zA (kq ≤ k) ∧ Drawn0 w wc)
 case first =>
  have H := HC3.out; clear HC3; by_cases c4 : a0 ≥ 194
  ·rw [if_pos c4] at H
   have c4b0 : decide (194 ≤ a0) = true := decide_eq_true c4
   clear c4; (first | rw [c4b0] | (simp only [i64_w, i32_w]; rw [c4b0]) | skip)
   have H' := zA.mk H
   clear H; go_wp2
   go_meet
   case rel => exact ⟨_, (decide (a0 ≤ 223)), aZ, H', ⟨by first | omega | exact Nat.le_refl _⟩, by repeat (first | exact Drawn0.refl _ | apply Drawn0.step)⟩
  rw [if_neg c4] at H; have c4b0 : decide (194 ≤ a0) = false := decide_eq_false c4
  clear c4; (first | rw [c4b0] | (simp only [i64_w, i32_w]; rw [c4b0]) | skip)
  have H' := zA.mk H
  clear H; go_wp2
  go_meet
  case rel => exact ⟨_, (false), aZ, H', ⟨by first | omega | exact Nat.le_refl _⟩, by repeat (first | exact Drawn0.refl _ | apply Drawn0.step)⟩
 clear HC3; obtain ⟨kq, x6_2, rfl, HA, HJ2, ⟨mc2, rfl⟩⟩ := hcut; cases kq with
 | zero => exact absurd HA.out (by simp [stanzaref01_length.j0])
 | succ kj2 =>
  have H := HA.out; clear HA; simp only [stanzaref01_length.j0] at H; by_cases c5 : x6_2 = true
  ·subst c5
   have H1 : (some 2) = some r := by rw [if_pos rfl] at H; exact H
   clear H; have H := H1; clear H1; obtain rfl := Option.some.inj H
   go_wp2
   go_ret
   exact ⟨by first | rfl | (simp; done) | (simp [*]; done), by repeat (first | exact Drawn0.refl _ | apply Drawn0.step)⟩
  replace c5 := Bool.eq_false_iff.mpr c5; subst c5; have H1 : (if a0 ≥ 224 then (stanzaref01_length.j1 kj2 a0 (decide (a0 ≤ 239))) else (stanzaref01_length.j1 kj2 a0 false)) = some r := by rw [if_neg (show ¬ (false = true) by decide)] at H; exact H
  clear H; have H := H1; clear H1; have HC6 := zA.mk H; clear H; go_upto_region 5 with (fail)
  go_cut [13] (fun v13 wc => ∃ (kq : Nat) (x13_5 : Bool), v13 = .bool x13_5 ∧ zA (stanzaref01_length.j1 kq a0 x13_5 = some r) ∧ zA (kq ≤ kj2) ∧ Drawn0 w wc)
  case first =>
   have H := HC6.out; clear HC6; by_cases c7 : a0 ≥ 224
   ·rw [if_pos c7] at H
    have c7b0 : decide (224 ≤ a0) = true := decide_eq_true c7
    clear c7; (first | rw [c7b0] | (simp only [i64_w, i32_w]; rw [c7b0]) | skip)
    have H' := zA.mk H
    clear H; go_wp2
    go_meet
    case rel => exact ⟨_, (decide (a0 ≤ 239)), aZ, H', ⟨by have := HJ2.out; first | omega | exact Nat.le_refl _⟩, by repeat (first | exact Drawn0.refl _ | apply Drawn0.step)⟩
   rw [if_neg c7] at H; have c7b0 : decide (224 ≤ a0) = false := decide_eq_false c7
   clear c7; (first | rw [c7b0] | (simp only [i64_w, i32_w]; rw [c7b0]) | skip)
   have H' := zA.mk H
   clear H; go_wp2
   go_meet
   case rel => exact ⟨_, (false), aZ, H', ⟨by have := HJ2.out; first | omega | exact Nat.le_refl _⟩, by repeat (first | exact Drawn0.refl _ | apply Drawn0.step)⟩
  clear HC6; obtain ⟨kq, x13_5, rfl, HA, HJ5, ⟨mc5, rfl⟩⟩ := hcut; cases kq with
  | zero => exact absurd HA.out (by simp [stanzaref01_length.j1])
  | succ kj5 =>
   have H := HA.out; clear HA; simp only [stanzaref01_length.j1] at H; by_cases c8 : x13_5 = true
   ·subst c8
    have H1 : (some 3) = some r := by rw [if_pos rfl] at H; exact H
    clear H; have H := H1; clear H1; obtain rfl := Option.some.inj H
    go_wp2
    go_ret
    exact ⟨by first | rfl | (simp; done) | (simp [*]; done), by repeat (first | exact Drawn0.refl _ | apply Drawn0.step)⟩
   replace c8 := Bool.eq_false_iff.mpr c8; subst c8; have H1 : (if a0 ≥ 240 then (if a0 ≤ 244 then (some 4) else (some 0)) else (some 0)) = some r := by rw [if_neg (show ¬ (false = true) by decide)] at H; exact H
   clear H; have H := H1; clear H1; by_cases c9 : a0 ≥ 240
   rotate_left
   ·rw [if_neg c9] at H
    have c9b0 : decide (240 ≤ a0) = false := decide_eq_false c9
    clear c9; obtain rfl := Option.some.inj H
    go_wp2
    go_ret
    exact ⟨by first | rfl | (simp; done) | (simp [*]; done), by repeat (first | exact Drawn0.refl _ | apply Drawn0.step)⟩
   rw [if_pos c9] at H; have c9b0 : decide (240 ≤ a0) = true := decide_eq_true c9
   clear c9; by_cases c10 : a0 ≤ 244
   ·rw [if_pos c10] at H
    have c10b0 : decide (a0 ≤ 244) = true := decide_eq_true c10
    clear c10; obtain rfl := Option.some.inj H
    go_wp2
    go_ret
    exact ⟨by first | rfl | (simp; done) | (simp [*]; done), by repeat (first | exact Drawn0.refl _ | apply Drawn0.step)⟩
   rw [if_neg c10] at H; have c10b0 : decide (a0 ≤ 244) = false := decide_eq_false c10
   clear c10; obtain rfl := Option.some.inj H
   go_wp2
   go_ret
   exact ⟨by first | rfl | (simp; done) | (simp [*]; done), by repeat (first | exact Drawn0.refl _ | apply Drawn0.step)⟩
mutual
def stanzaref01_Begins.j0 : Nat → List Int → Bool → Option (Bool)
 | 0, _, _ => none
 | k + 1, x0, x15 => if x15 = true then (some false) else (stanzaref01_Begins.l0 k x0 1)
def stanzaref01_Begins.l0 : Nat → List Int → Int → Option (Bool)
 | 0, _, _ => none
 | k + 1, x0, x3 => if x3 < (x0.length : Int) then (if 0 ≤ x3 then (if (rd x0 x3) < 128 then (some false) else (if (rd x0 x3) > 191 then (some false) else (stanzaref01_Begins.l0 k x0 (wrap64 (x3 + 1))))) else (none)) else (if (x0.length : Int) = 1 then (some true) else (if 0 < (x0.length : Int) then (if (rd x0 0) = 224 then (if 1 < (x0.length : Int) then (some (decide ((rd x0 1) ≥ 160))) else (none)) else (if (rd x0 0) = 237 then (if 1 < (x0.length : Int) then (some (decide ((rd x0 1) < 160))) else (none)) else (if (rd x0 0) = 240 then (if 1 < (x0.length : Int) then (some (decide ((rd x0 1) ≥ 144))) else (none)) else (if (rd x0 0) = 244 then (if 1 < (x0.length : Int) then (some (decide ((rd x0 1) < 144))) else (none)) else (some true))))) else (none)))
end
def stanzaref01_Begins.f (k : Nat) (l0 : List Int) : Option (Bool) := if (l0.length : Int) = 0 then (stanzaref01_Begins.j0 k l0 true) else (if 0 < (l0.length : Int) then ((stanzaref01_length.f k (rd l0 0)).bind fun t175 => (stanzaref01_Begins.j0 k l0 (decide ((l0.length : Int) > t175)))) else (none))
theorem stanzaref01_Begins.mono_l : ∀ k, (∀ y0 y1, LeO (stanzaref01_Begins.j0 k y0 y1) (stanzaref01_Begins.j0 (k + 1) y0 y1)) ∧ (∀ y0 y1, LeO (stanzaref01_Begins.l0 k y0 y1) (stanzaref01_Begins.l0 (k + 1) y0 y1))
 | 0 => ⟨fun _ _ r h => by simp [stanzaref01_Begins.j0] at h, fun _ _ r h => by simp [stanzaref01_Begins.l0] at h⟩
 | k + 1 => by
  obtain ⟨ih0, ih1⟩ := stanzaref01_Begins.mono_l k; refine ⟨?_, ?_⟩
  ·intro y0 y1
   unfold stanzaref01_Begins.j0
   repeat' (with_reducible first | exact ih0 _ _ | exact ih1 _ _ | exact stanzaref01_length.mono _ _ | exact LeO.refl _ | exact LeO.none _ | refine LeO.ite ?_ ?_ | refine LeO.bind ?_ (fun _ => ?_))
  ·intro y0 y1
   unfold stanzaref01_Begins.l0
   repeat' (with_reducible first | exact ih0 _ _ | exact ih1 _ _ | exact stanzaref01_length.mono _ _ | exact LeO.refl _ | exact LeO.none _ | refine LeO.ite ?_ ?_ | refine LeO.bind ?_ (fun _ => ?_))
theorem stanzaref01_Begins.mono : ∀ a0 k, LeO (stanzaref01_Begins.f k a0) (stanzaref01_Begins.f (k + 1) a0) := by
 intro a0 k
 obtain ⟨ih0, ih1⟩ := stanzaref01_Begins.mono_l k; unfold stanzaref01_Begins.f
 repeat' (with_reducible first | exact ih0 _ _ | exact ih1 _ _ | exact stanzaref01_length.mono _ _ | exact LeO.refl _ | exact LeO.none _ | refine LeO.ite ?_ ?_ | refine LeO.bind ?_ (fun _ => ?_))
set_option maxHeartbeats 8000000 in
set_option maxRecDepth 100000 in
theorem stanzaref01_Begins.calls (k : Nat) (A0 : Option Addr) (c0 : Nat) (l0 : List Int) (r : Bool) (w : World) (hr0 : Kd.C (Kd.int .u8) w A0 l0.length l0) (hc0 : l0.length ≤ c0) (h : stanzaref01_Begins.f k l0 = some r) :
  Calls Try.prog 38 #[.slice A0 l0.length c0] w fun e w' => e = .returned (.bool r) ∧ Drawn0 w w' := by
 have HR0 := zA.mk hr0; have HC0 := zA.mk hc0; clear hr0 hc0; have H : (if (l0.length : Int) = 0 then (stanzaref01_Begins.j0 k l0 true) else (if 0 < (l0.length : Int) then ((stanzaref01_length.f k (rd l0 0)).bind fun t175 => (stanzaref01_Begins.j0 k l0 (decide ((l0.length : Int) > t175)))) else (none))) = some r := h
 clear h; have HC2 := zA.mk H; clear H; go_enter Try.func38, Try.ntmps38
 go_upto_region 1 with (fail)
 go_cut [15] (fun v15 wc => ∃ (kq : Nat) (x15_1 : Bool), v15 = .bool x15_1 ∧ zA (stanzaref01_Begins.j0 kq l0 x15_1 = some r) ∧ zA (kq ≤ k) ∧ Drawn0 w wc)
 case first =>
  have H := HC2.out; clear HC2; by_cases c3 : (l0.length : Int) = 0
  ·rw [if_pos c3] at H
   have c3b0 : ((l0.length : Int) == 0) = true := beq_iff_eq.mpr c3
   have c3b1 : ((l0.length : Int) != 0) = false := bne_eq_false_iff_eq.mpr c3
   clear c3; (first | rw [c3b0] | (simp only [i64_w, i32_w]; rw [c3b0]) | skip)
   have H' := zA.mk H
   clear H; go_wp2
   go_meet
   case rel => exact ⟨_, (true), aZ, H', ⟨by first | omega | exact Nat.le_refl _⟩, by repeat (first | exact Drawn0.refl _ | apply Drawn0.step)⟩
  rw [if_neg c3] at H; have c3b0 : ((l0.length : Int) == 0) = false := beq_eq_false_iff_ne.mpr c3
  have c3b1 : ((l0.length : Int) != 0) = true := bne_iff_ne.mpr c3
  have c3b2 : ¬ (l0 = []) := fun h_ => c3 (by rw [h_]; rfl)
  (first | rw [c3b0] | (simp only [i64_w, i32_w]; rw [c3b0]) | skip)
  by_cases c4 : 0 < (l0.length : Int)
  rotate_left
  ·rw [if_neg c4] at H
   exact absurd H (by simp)
  rw [if_pos c4] at H; have c4b0 : decide (0 < (l0.length : Int)) = true := decide_eq_true c4
  have c4b1 : decide (0 < l0.length) = true := decide_eq_true (by omega)
  clear c4; replace H := Option.bind_eq_some_iff.mp H; obtain ⟨t175, A50, H⟩ := H; replace H : (stanzaref01_Begins.j0 k l0 (decide ((l0.length : Int) > t175))) = some r := H; have A5 := zA.mk A50; clear A50; have H' := zA.mk H
  clear H; have p174 : 0 ≤ (0 : Int) := (by omega)
  have q174 : 0 < (l0.length : Int) := aD
  obtain ⟨ad174, e174, hx174_0⟩ := Kd.at_int HR0.out 0 p174 q174; cases e174
  have qi174 : (0 < l0.length) = True := eq_true (by omega)
  (try rw [show ((0 : Int)).toNat = 0 from rfl] at hx174_0)
  (try rw [Addr.add_zero'] at hx174_0)
  replace p174 := eq_true p174; replace q174 := eq_true q174; go_wp2_with (first | (go_at_call 39; (with_reducible refine (stanzaref01_length.calls k (rd l0 0) t175 _ A5.out).mono ?_); rintro e w' ⟨rfl, ⟨nd, rfl⟩⟩))
  go_meet
  case rel => exact ⟨_, (decide ((l0.length : Int) > t175)), aZ, H', ⟨by first | omega | exact Nat.le_refl _⟩, by repeat (first | exact Drawn0.refl _ | apply Drawn0.step)⟩
 clear HC2; obtain ⟨kq, x15_1, rfl, HA, HJ1, ⟨mc1, rfl⟩⟩ := hcut; cases kq with
 | zero => exact absurd HA.out (by simp [stanzaref01_Begins.j0])
 | succ kj1 =>
  have H := HA.out; clear HA; simp only [stanzaref01_Begins.j0] at H; by_cases c6 : x15_1 = true
  ·subst c6
   have H1 : (some false) = some r := by rw [if_pos rfl] at H; exact H
   clear H; have H := H1; clear H1; obtain rfl := Option.some.inj H
   go_wp2
   go_ret
   exact ⟨by first | rfl | (simp; done) | (simp [*]; done), by repeat (first | exact Drawn0.refl _ | apply Drawn0.step)⟩
  replace c6 := Bool.eq_false_iff.mpr c6; subst c6; have H1 : (stanzaref01_Begins.l0 kj1 l0 1) = some r := by rw [if_neg (show ¬ (false = true) by decide)] at H; exact H
  clear H; have H := H1; clear H1; have H' := zA.mk H
  clear H; go_wp2
  go_loopg [3] kj1 (fun kq v3 w' => ∃ (x3_2 : Int), v3 = .int .i64 x3_2 ∧ zA (stanzaref01_Begins.l0 kq l0 x3_2 = some r) ∧ zA (kq ≤ kj1) ∧ Drawn0 w w')
  case atStart => exact ⟨(1), aZ, H', ⟨Nat.le_refl _⟩, by repeat (first | exact Drawn0.refl _ | apply Drawn0.step)⟩
  clear H'; obtain ⟨x3_2, rfl, HA, HK2, ⟨m2, rfl⟩⟩ := hrel; cases gk with
  | zero => exact absurd HA.out (by simp [stanzaref01_Begins.l0])
  | succ k2 =>
   have H := HA.out; clear HA; simp only [stanzaref01_Begins.l0] at H; by_cases c7 : x3_2 < (l0.length : Int)
   ·rw [if_pos c7] at H
    have c7b0 : decide (x3_2 < (l0.length : Int)) = true := decide_eq_true c7
    clear c7; by_cases c8 : 0 ≤ x3_2
    rotate_left
    ·rw [if_neg c8] at H
     exact absurd H (by simp)
    rw [if_pos c8] at H; have c8b0 : decide (0 ≤ x3_2) = true := decide_eq_true c8
    clear c8; by_cases c9 : (rd l0 x3_2) < 128
    ·rw [if_pos c9] at H
     have c9b0 : decide ((rd l0 x3_2) < 128) = true := decide_eq_true c9
     clear c9; obtain rfl := Option.some.inj H
     have p176 : 0 ≤ (x3_2 : Int) := aD
     have q176 : x3_2 < (l0.length : Int) := aD
     obtain ⟨ad176, e176, hx176_0⟩ := Kd.at_int HR0.out x3_2 p176 q176; cases e176
     replace p176 := eq_true p176; replace q176 := eq_true q176; go_wp2
     go_ret
     exact ⟨by first | rfl | (simp; done) | (simp [*]; done), by repeat (first | exact Drawn0.refl _ | apply Drawn0.step)⟩
    rw [if_neg c9] at H; have c9b0 : decide ((rd l0 x3_2) < 128) = false := decide_eq_false c9
    clear c9; by_cases c10 : (rd l0 x3_2) > 191
    ·rw [if_pos c10] at H
     have c10b0 : decide (191 < (rd l0 x3_2)) = true := decide_eq_true c10
     clear c10; obtain rfl := Option.some.inj H
     have p176 : 0 ≤ (x3_2 : Int) := aD
     have q176 : x3_2 < (l0.length : Int) := aD
     obtain ⟨ad176, e176, hx176_0⟩ := Kd.at_int HR0.out x3_2 p176 q176; cases e176
     replace p176 := eq_true p176; replace q176 := eq_true q176; have p177 : 0 ≤ (x3_2 : Int) := aD
     have q177 : x3_2 < (l0.length : Int) := aD
     obtain ⟨ad177, e177, hx177_0⟩ := Kd.at_int HR0.out x3_2 p177 q177; obtain rfl : ad176 = ad177 := (by injection e177)
     replace p177 := eq_true p177; replace q177 := eq_true q177; go_wp2
     go_ret
     exact ⟨by first | rfl | (simp; done) | (simp [*]; done), by repeat (first | exact Drawn0.refl _ | apply Drawn0.step)⟩
    rw [if_neg c10] at H; have c10b0 : decide (191 < (rd l0 x3_2)) = false := decide_eq_false c10
    clear c10; have H' := zA.mk H
    clear H; have p176 : 0 ≤ (x3_2 : Int) := aD
    have q176 : x3_2 < (l0.length : Int) := aD
    obtain ⟨ad176, e176, hx176_0⟩ := Kd.at_int HR0.out x3_2 p176 q176; cases e176
    replace p176 := eq_true p176; replace q176 := eq_true q176; have p177 : 0 ≤ (x3_2 : Int) := aD
    have q177 : x3_2 < (l0.length : Int) := aD
    obtain ⟨ad177, e177, hx177_0⟩ := Kd.at_int HR0.out x3_2 p177 q177; obtain rfl : ad176 = ad177 := (by injection e177)
    replace p177 := eq_true p177; replace q177 := eq_true q177; go_wp2
    go_roundg k2
    case measure => have := HJ1.out; have := HK2.out; omega
    case rel => exact ⟨(wrap64 (x3_2 + 1)), aZ, H', ⟨by have := HJ1.out; have := HK2.out; omega⟩, by repeat (first | exact Drawn0.refl _ | apply Drawn0.step)⟩
   rw [if_neg c7] at H; have c7b0 : decide (x3_2 < (l0.length : Int)) = false := decide_eq_false c7
   clear c7; by_cases c11 : (l0.length : Int) = 1
   ·rw [if_pos c11] at H
    have c11b0 : ((l0.length : Int) == 1) = true := beq_iff_eq.mpr c11
    have c11b1 : ((l0.length : Int) != 1) = false := bne_eq_false_iff_eq.mpr c11
    clear c11; obtain rfl := Option.some.inj H
    go_wp2
    go_ret
    exact ⟨by first | rfl | (simp; done) | (simp [*]; done), by repeat (first | exact Drawn0.refl _ | apply Drawn0.step)⟩
   rw [if_neg c11] at H; have c11b0 : ((l0.length : Int) == 1) = false := beq_eq_false_iff_ne.mpr c11
   have c11b1 : ((l0.length : Int) != 1) = true := bne_iff_ne.mpr c11
   by_cases c12 : 0 < (l0.length : Int)
   rotate_left
   ·rw [if_neg c12] at H
    exact absurd H (by simp)
   rw [if_pos c12] at H; have c12b0 : decide (0 < (l0.length : Int)) = true := decide_eq_true c12
   have c12b1 : decide (0 < l0.length) = true := decide_eq_true (by omega)
   clear c12; by_cases c13 : (rd l0 0) = 224
   ·rw [if_pos c13] at H
    have c13b0 : ((rd l0 0) == 224) = true := beq_iff_eq.mpr c13
    have c13b1 : ((rd l0 0) != 224) = false := bne_eq_false_iff_eq.mpr c13
    clear c13; by_cases c14 : 1 < (l0.length : Int)
    rotate_left
    ·rw [if_neg c14] at H
     exact absurd H (by simp)
    rw [if_pos c14] at H; have c14b0 : decide (1 < (l0.length : Int)) = true := decide_eq_true c14
    have c14b1 : decide (1 < l0.length) = true := decide_eq_true (by omega)
    clear c14; obtain rfl := Option.some.inj H
    have p178 : 0 ≤ (0 : Int) := (by omega)
    have q178 : 0 < (l0.length : Int) := aD
    obtain ⟨ad178, e178, hx178_0⟩ := Kd.at_int HR0.out 0 p178 q178; cases e178
    have qi178 : (0 < l0.length) = True := eq_true (by omega)
    (try rw [show ((0 : Int)).toNat = 0 from rfl] at hx178_0)
    (try rw [Addr.add_zero'] at hx178_0)
    replace p178 := eq_true p178; replace q178 := eq_true q178; have p179 : 0 ≤ (1 : Int) := (by omega)
    have q179 : 1 < (l0.length : Int) := aD
    obtain ⟨ad179, e179, hx179_0⟩ := Kd.at_int HR0.out 1 p179 q179; obtain rfl : ad178 = ad179 := (by injection e179)
    (try simp only [show (1 : Int).toNat = 1 from rfl, Nat.reduceMul, Nat.reduceEqDiff, Go.Addr.add, ↓reduceIte] at hx179_0)
    have qi179 : (1 < l0.length) = True := eq_true (by omega)
    (try rw [show ((1 : Int)).toNat = 1 from rfl] at hx179_0)
    replace p179 := eq_true p179; replace q179 := eq_true q179; go_wp2
    go_ret
    exact ⟨by first | rfl | (simp; done) | (simp [*]; done), by repeat (first | exact Drawn0.refl _ | apply Drawn0.step)⟩
   rw [if_neg c13] at H; have c13b0 : ((rd l0 0) == 224) = false := beq_eq_false_iff_ne.mpr c13
   have c13b1 : ((rd l0 0) != 224) = true := bne_iff_ne.mpr c13
   by_cases c15 : (rd l0 0) = 237
   ·rw [if_pos c15] at H
    have c15b0 : ((rd l0 0) == 237) = true := beq_iff_eq.mpr c15
    have c15b1 : ((rd l0 0) != 237) = false := bne_eq_false_iff_eq.mpr c15
    clear c15; by_cases c16 : 1 < (l0.length : Int)
    rotate_left
    ·rw [if_neg c16] at H
     exact absurd H (by simp)
    rw [if_pos c16] at H; have c16b0 : decide (1 < (l0.length : Int)) = true := decide_eq_true c16
    have c16b1 : decide (1 < l0.length) = true := decide_eq_true (by omega)
    clear c16; obtain rfl := Option.some.inj H
    have p178 : 0 ≤ (0 : Int) := (by omega)
    have q178 : 0 < (l0.length : Int) := aD
    obtain ⟨ad178, e178, hx178_0⟩ := Kd.at_int HR0.out 0 p178 q178; cases e178
    have qi178 : (0 < l0.length) = True := eq_true (by omega)
    (try rw [show ((0 : Int)).toNat = 0 from rfl] at hx178_0)
    (try rw [Addr.add_zero'] at hx178_0)
    replace p178 := eq_true p178; replace q178 := eq_true q178; have p180 : 0 ≤ (1 : Int) := (by omega)
    have q180 : 1 < (l0.length : Int) := aD
    obtain ⟨ad180, e180, hx180_0⟩ := Kd.at_int HR0.out 1 p180 q180; obtain rfl : ad178 = ad180 := (by injection e180)
    (try simp only [show (1 : Int).toNat = 1 from rfl, Nat.reduceMul, Nat.reduceEqDiff, Go.Addr.add, ↓reduceIte] at hx180_0)
    have qi180 : (1 < l0.length) = True := eq_true (by omega)
    (try rw [show ((1 : Int)).toNat = 1 from rfl] at hx180_0)
    replace p180 := eq_true p180; replace q180 := eq_true q180; go_wp2
    go_ret
    exact ⟨by first | rfl | (simp; done) | (simp [*]; done), by repeat (first | exact Drawn0.refl _ | apply Drawn0.step)⟩
   rw [if_neg c15] at H; have c15b0 : ((rd l0 0) == 237) = false := beq_eq_false_iff_ne.mpr c15
   have c15b1 : ((rd l0 0) != 237) = true := bne_iff_ne.mpr c15
   by_cases c17 : (rd l0 0) = 240
   ·rw [if_pos c17] at H
    have c17b0 : ((rd l0 0) == 240) = true := beq_iff_eq.mpr c17
    have c17b1 : ((rd l0 0) != 240) = false := bne_eq_false_iff_eq.mpr c17
    clear c17; by_cases c18 : 1 < (l0.length : Int)
    rotate_left
    ·rw [if_neg c18] at H
     exact absurd H (by simp)
    rw [if_pos c18] at H; have c18b0 : decide (1 < (l0.length : Int)) = true := decide_eq_true c18
    have c18b1 : decide (1 < l0.length) = true := decide_eq_true (by omega)
    clear c18; obtain rfl := Option.some.inj H
    have p178 : 0 ≤ (0 : Int) := (by omega)
    have q178 : 0 < (l0.length : Int) := aD
    obtain ⟨ad178, e178, hx178_0⟩ := Kd.at_int HR0.out 0 p178 q178; cases e178
    have qi178 : (0 < l0.length) = True := eq_true (by omega)
    (try rw [show ((0 : Int)).toNat = 0 from rfl] at hx178_0)
    (try rw [Addr.add_zero'] at hx178_0)
    replace p178 := eq_true p178; replace q178 := eq_true q178; have p181 : 0 ≤ (1 : Int) := (by omega)
    have q181 : 1 < (l0.length : Int) := aD
    obtain ⟨ad181, e181, hx181_0⟩ := Kd.at_int HR0.out 1 p181 q181; obtain rfl : ad178 = ad181 := (by injection e181)
    (try simp only [show (1 : Int).toNat = 1 from rfl, Nat.reduceMul, Nat.reduceEqDiff, Go.Addr.add, ↓reduceIte] at hx181_0)
    have qi181 : (1 < l0.length) = True := eq_true (by omega)
    (try rw [show ((1 : Int)).toNat = 1 from rfl] at hx181_0)
    replace p181 := eq_true p181; replace q181 := eq_true q181; go_wp2
    go_ret
    exact ⟨by first | rfl | (simp; done) | (simp [*]; done), by repeat (first | exact Drawn0.refl _ | apply Drawn0.step)⟩
   rw [if_neg c17] at H; have c17b0 : ((rd l0 0) == 240) = false := beq_eq_false_iff_ne.mpr c17
   have c17b1 : ((rd l0 0) != 240) = true := bne_iff_ne.mpr c17
   by_cases c19 : (rd l0 0) = 244
   rotate_left
   ·rw [if_neg c19] at H
    have c19b0 : ((rd l0 0) == 244) = false := beq_eq_false_iff_ne.mpr c19
    have c19b1 : ((rd l0 0) != 244) = true := bne_iff_ne.mpr c19
    obtain rfl := Option.some.inj H
    have p178 : 0 ≤ (0 : Int) := (by omega)
    have q178 : 0 < (l0.length : Int) := aD
    obtain ⟨ad178, e178, hx178_0⟩ := Kd.at_int HR0.out 0 p178 q178; cases e178
    have qi178 : (0 < l0.length) = True := eq_true (by omega)
    (try rw [show ((0 : Int)).toNat = 0 from rfl] at hx178_0)
    (try rw [Addr.add_zero'] at hx178_0)
    replace p178 := eq_true p178; replace q178 := eq_true q178; go_wp2
    go_ret
    exact ⟨by first | rfl | (simp; done) | (simp [*]; done), by repeat (first | exact Drawn0.refl _ | apply Drawn0.step)⟩
   rw [if_pos c19] at H; have c19b0 : ((rd l0 0) == 244) = true := beq_iff_eq.mpr c19
   have c19b1 : ((rd l0 0) != 244) = false := bne_eq_false_iff_eq.mpr c19
   clear c19; by_cases c20 : 1 < (l0.length : Int)
   rotate_left
   ·rw [if_neg c20] at H
    exact absurd H (by simp)
   rw [if_pos c20] at H; have c20b0 : decide (1 < (l0.length : Int)) = true := decide_eq_true c20
   have c20b1 : decide (1 < l0.length) = true := decide_eq_true (by omega)
   clear c20; obtain rfl := Option.some.inj H
   have p178 : 0 ≤ (0 : Int) := (by omega)
   have q178 : 0 < (l0.length : Int) := aD
   obtain ⟨ad178, e178, hx178_0⟩ := Kd.at_int HR0.out 0 p178 q178; cases e178
   have qi178 : (0 < l0.length) = True := eq_true (by omega)
   (try rw [show ((0 : Int)).toNat = 0 from rfl] at hx178_0)
   (try rw [Addr.add_zero'] at hx178_0)
   replace p178 := eq_true p178; replace q178 := eq_true q178; have p182 : 0 ≤ (1 : Int) := (by omega)
   have q182 : 1 < (l0.length : Int) := aD
   obtain ⟨ad182, e182, hx182_0⟩ := Kd.at_int HR0.out 1 p182 q182; obtain rfl : ad178 = ad182 := (by injection e182)
   (try simp only [show (1 : Int).toNat = 1 from rfl, Nat.reduceMul, Nat.reduceEqDiff, Go.Addr.add, ↓reduceIte] at hx182_0)
   have qi182 : (1 < l0.length) = True := eq_true (by omega)
   (try rw [show ((1 : Int)).toNat = 1 from rfl] at hx182_0)
   replace p182 := eq_true p182; replace q182 := eq_true q182; go_wp2
   go_ret
   exact ⟨by first | rfl | (simp; done) | (simp [*]; done), by repeat (first | exact Drawn0.refl _ | apply Drawn0.step)⟩
mutual
def stanzaref01_One.j0 : Nat → List Int → Int → Bool → Option (Int × Int × Int)
 | 0, _, _, _ => none
 | k + 1, x0, x1, x16 => if x16 = true then (some (0, 0, 0)) else (stanzaref01_One.l0 k x0 x1 0)
def stanzaref01_One.j2 : Nat → List Int → Int → Int → Option (Int × Int × Int)
 | 0, _, _, _ => none
 | k + 1, x0, x1, x5 => if x5 = 0 then (some (65533, x1, 1)) else (if 0 ≤ x1 then (if x1 < (x0.length : Int) then ((stanzaref01_length.f k (rd x0 x1)).bind fun t187 => (if x5 < t187 then (some (65533, x1, x5)) else ((some (([0, 127, 31, 15, 7] : List Int) : List Int)).bind fun y189 => (if 0 ≤ x5 then (if x5 < (y189.length : Int) then (stanzaref01_One.l1 k x0 x1 x5 (Go.bits .and .i32 (wrap32 (rd x0 x1)) (rd y189 x5)) 1) else (none)) else (none))))) else (none)) else (none))
def stanzaref01_One.l1 : Nat → List Int → Int → Int → Int → Int → Option (Int × Int × Int)
 | 0, _, _, _, _, _ => none
 | k + 1, x0, x1, x5, x6, x8 => if x8 < x5 then (if 0 ≤ (wrap64 (x1 + x8)) then (if (wrap64 (x1 + x8)) < (x0.length : Int) then (stanzaref01_One.l1 k x0 x1 x5 (wrap32 ((wrap32 ((wrap32 (x6 * 64)) + (wrap32 (rd x0 (wrap64 (x1 + x8)))))) - 128)) (wrap64 (x8 + 1))) else (none)) else (none)) else (some (x6, x1, x5))
def stanzaref01_One.l0 : Nat → List Int → Int → Int → Option (Int × Int × Int)
 | 0, _, _, _ => none
 | k + 1, x0, x1, x5 => if x5 < 4 then (if x5 < (wrap64 ((x0.length : Int) - x1)) then (if 0 ≤ x1 then (if x1 ≤ (wrap64 ((wrap64 (x1 + x5)) + 1)) then (if (wrap64 ((wrap64 (x1 + x5)) + 1)) ≤ (x0.length : Int) then ((stanzaref01_Begins.f k ((x0.take ((wrap64 ((wrap64 (x1 + x5)) + 1)) : Int).toNat).drop (x1 : Int).toNat)).bind fun t185 => (if t185 = true then (stanzaref01_One.l0 k x0 x1 (wrap64 (x5 + 1))) else (stanzaref01_One.j2 k x0 x1 x5))) else (none)) else (none)) else (none)) else (stanzaref01_One.j2 k x0 x1 x5)) else (stanzaref01_One.j2 k x0 x1 x5)
end
def stanzaref01_One.f (k : Nat) (l0 : List Int) (a1 : Int) : Option (Int × Int × Int) := if a1 < 0 then (stanzaref01_One.j0 k l0 a1 true) else (stanzaref01_One.j0 k l0 a1 (decide (a1 ≥ (l0.length : Int))))
theorem stanzaref01_One.mono_l : ∀ k, (∀ y0 y1 y2, LeO (stanzaref01_One.j0 k y0 y1 y2) (stanzaref01_One.j0 (k + 1) y0 y1 y2)) ∧ (∀ y0 y1 y2, LeO (stanzaref01_One.j2 k y0 y1 y2) (stanzaref01_One.j2 (k + 1) y0 y1 y2)) ∧ (∀ y0 y1 y2 y3 y4, LeO (stanzaref01_One.l1 k y0 y1 y2 y3 y4) (stanzaref01_One.l1 (k + 1) y0 y1 y2 y3 y4)) ∧ (∀ y0 y1 y2, LeO (stanzaref01_One.l0 k y0 y1 y2) (stanzaref01_One.l0 (k + 1) y0 y1 y2))
 | 0 => ⟨fun _ _ _ r h => by simp [stanzaref01_One.j0] at h, fun _ _ _ r h => by simp [stanzaref01_One.j2] at h, fun _ _ _ _ _ r h => by simp [stanzaref01_One.l1] at h, fun _ _ _ r h => by simp [stanzaref01_One.l0] at h⟩
 | k + 1 => by
  obtain ⟨ih0, ih1, ih2, ih3⟩ := stanzaref01_One.mono_l k; refine ⟨?_, ?_, ?_, ?_⟩
  ·intro y0 y1 y2
   unfold stanzaref01_One.j0
   repeat' (with_reducible first | exact ih0 _ _ _ | exact ih1 _ _ _ | exact ih2 _ _ _ _ _ | exact ih3 _ _ _ | exact stanzaref01_Begins.mono _ _ | exact stanzaref01_length.mono _ _ | exact LeO.refl _ | exact LeO.none _ | refine LeO.ite ?_ ?_ | refine LeO.bind ?_ (fun _ => ?_))
  ·intro y0 y1 y2
   unfold stanzaref01_One.j2
   repeat' (with_reducible first | exact ih0 _ _ _ | exact ih1 _ _ _ | exact ih2 _ _ _ _ _ | exact ih3 _ _ _ | exact stanzaref01_Begins.mono _ _ | exact stanzaref01_length.mono _ _ | exact LeO.refl _ | exact LeO.none _ | refine LeO.ite ?_ ?_ | refine LeO.bind ?_ (fun _ => ?_))
  ·intro y0 y1 y2 y3 y4
   unfold stanzaref01_One.l1
   repeat' (with_reducible first | exact ih0 _ _ _ | exact ih1 _ _ _ | exact ih2 _ _ _ _ _ | exact ih3 _ _ _ | exact stanzaref01_Begins.mono _ _ | exact stanzaref01_length.mono _ _ | exact LeO.refl _ | exact LeO.none _ | refine LeO.ite ?_ ?_ | refine LeO.bind ?_ (fun _ => ?_))
  ·intro y0 y1 y2
   unfold stanzaref01_One.l0
   repeat' (with_reducible first | exact ih0 _ _ _ | exact ih1 _ _ _ | exact ih2 _ _ _ _ _ | exact ih3 _ _ _ | exact stanzaref01_Begins.mono _ _ | exact stanzaref01_length.mono _ _ | exact LeO.refl _ | exact LeO.none _ | refine LeO.ite ?_ ?_ | refine LeO.bind ?_ (fun _ => ?_))
theorem stanzaref01_One.mono : ∀ a0 a1 k, LeO (stanzaref01_One.f k a0 a1) (stanzaref01_One.f (k + 1) a0 a1) := by
 intro a0 a1 k
 obtain ⟨ih0, ih1, ih2, ih3⟩ := stanzaref01_One.mono_l k; unfold stanzaref01_One.f
 repeat' (with_reducible first | exact ih0 _ _ _ | exact ih1 _ _ _ | exact ih2 _ _ _ _ _ | exact ih3 _ _ _ | exact stanzaref01_Begins.mono _ _ | exact stanzaref01_length.mono _ _ | exact LeO.refl _ | exact LeO.none _ | refine LeO.ite ?_ ?_ | refine LeO.bind ?_ (fun _ => ?_))
set_option maxHeartbeats 8000000 in
set_option maxRecDepth 100000 in
theorem stanzaref01_One.calls (k : Nat) (A0 : Option Addr) (c0 : Nat) (l0 : List Int) (a1 : Int) (r1 : Int) (r2 : Int) (r3 : Int) (w : World) (hr0 : Kd.C (Kd.int .u8) w A0 l0.length l0) (hc0 : l0.length ≤ c0) (h : stanzaref01_One.f k l0 a1 = some (r1, r2, r3)) :
  Calls Try.prog 35 #[.slice A0 l0.length c0, .int .i64 a1] w fun e w' => e = .returned (.agg #[.int .i32 r1, .int .i64 r2, .int .i64 r3]) ∧ Below w.heap.size w w' := by
 have hu50 := Try.underlying50; have HR0 := zA.mk hr0; have HC0 := zA.mk hc0; clear hr0 hc0; have HB := zA.mk (Below.refl w.heap.size w); have H : (if a1 < 0 then (stanzaref01_One.j0 k l0 a1 true) else (stanzaref01_One.j0 k l0 a1 (decide (a1 ≥ (l0.length : Int))))) = some (r1, r2, r3) := h
 clear h; have HC3 := zA.mk H; clear H; go_enter Try.func35, Try.ntmps35
 go_upto_region 1 with (first | ((with_reducible refine gate_dst (N := 4) rfl ?_); (try (refine gate_guard (by rfl) ?_; dsimp only)); refine box_event ?hg (N := 4) ?hd (cs := #[.int .i32 0, .int .i64 0, .int .i64 0]) (t := 50) ?hr ?_; (case hd => rfl); (case hg => rfl); (case hr => first | (go_simp; done) | (go_simp; rfl)); intro gb183 hg w4 hbox hb; have BK183 := zA.mk (hbox); have GW183 := zA.mk ((by rw [hg]; exact (below_size (aL HB)) : w.heap.size ≤ gb183)); replace HB := zA.mk (below_step (aL HB) hb); have GE183 := GW183; clear hb hbox hg))
 (try simp only [Act.put, sA_, sB_, sC_])
 go_cut [16] (fun v16 wc => ∃ (kq : Nat) (x16_2 : Bool), v16 = .bool x16_2 ∧ zA (stanzaref01_One.j0 kq l0 a1 x16_2 = some (r1, r2, r3)) ∧ zA (kq ≤ k) ∧ zA (wc.heap[gb183]? = some (.cells #[.int .i32 0, .int .i64 0, .int .i64 0] 50 (0, 0))) ∧ zA (Below w.heap.size w wc))
 case first =>
  have H := HC3.out; clear HC3; by_cases c5 : a1 < 0
  ·rw [if_pos c5] at H
   have c5b0 : decide (a1 < 0) = true := decide_eq_true c5
   clear c5; (first | rw [c5b0] | (simp only [i64_w, i32_w]; rw [c5b0]) | skip)
   have H' := zA.mk H
   clear H; go_wp2
   go_meet
   case rel => exact ⟨_, (true), aZ, H', ⟨by first | omega | exact Nat.le_refl _⟩, ⟨aB BK183⟩, ⟨aL HB⟩⟩
  rw [if_neg c5] at H; have c5b0 : decide (a1 < 0) = false := decide_eq_false c5
  clear c5; (first | rw [c5b0] | (simp only [i64_w, i32_w]; rw [c5b0]) | skip)
  have H' := zA.mk H
  clear H; go_wp2
  go_meet
  case rel => exact ⟨_, (decide (a1 ≥ (l0.length : Int))), aZ, H', ⟨by first | omega | exact Nat.le_refl _⟩, ⟨aB BK183⟩, ⟨aL HB⟩⟩
 clear HC3; obtain ⟨kq, x16_2, rfl, HA, HJ2, BK183, HB⟩ := hcut; cases kq with
 | zero => exact absurd HA.out (by simp [stanzaref01_One.j0])
 | succ kj2 =>
  have H := HA.out; clear HA; simp only [stanzaref01_One.j0] at H; by_cases c6 : x16_2 = true
  ·subst c6
   have H1 : (some (0, 0, 0)) = some (r1, r2, r3) := by rw [if_pos rfl] at H; exact H
   clear H; have H := H1; clear H1; simp only [Option.some.injEq, Prod.mk.injEq] at H; obtain ⟨rfl, rfl, rfl⟩ := H; obtain ⟨hcz7_0, hcz7_1, hcz7_2, hfz7_0, hfz7_1, hfz7_2⟩ := aC3 BK183; go_wp2_with (first | ((with_reducible refine gate_store (t := 50) (p := 4) rfl ?_); refine store_event (t := 50) (p := 4) (v := ?vo_w8) (w1 := (((wc.setCell ⟨gb183, 0, none⟩ (.int .i32 0)).setCell ⟨gb183, 1, none⟩ (.int .i64 0)).setCell ⟨gb183, 2, none⟩ (.int .i64 0))) ?hg ?ho ?hn ?hr ?_; (case ho => rfl); (case hg => rfl); (case hn => rfl); (case hr => first | (go_simp; done) | (go_simp; rfl)); intro w8 hw; have n0_ : zA (w8.heap[gb183]? = some (.cells #[.int .i32 0, .int .i64 0, .int .i64 0] 50 (0, 0))) := ⟨(by rw [hw]; exact (by (with_reducible repeat (first | refine zC ?_ _ | refine blk_drew ?_ | refine zB ?_ _)); refine blk_put (cs := #[.int .i32 0, .int .i64 0, .int .i64 0]) ?_ 2 _ rfl; (with_reducible repeat (first | refine zC ?_ _ | refine blk_drew ?_ | refine zB ?_ _)); refine blk_put (cs := #[.int .i32 0, .int .i64 0, .int .i64 0]) ?_ 1 _ rfl; (with_reducible repeat (first | refine zC ?_ _ | refine blk_drew ?_ | refine zB ?_ _)); refine blk_put (cs := #[.int .i32 0, .int .i64 0, .int .i64 0]) ?_ 0 _ rfl; (with_reducible repeat (first | refine zC ?_ _ | refine blk_drew ?_ | refine zB ?_ _)); exact BK183.out))⟩; have n1_ : zA (Below w.heap.size w w8) := ⟨(by rw [hw]; exact (aL HB))⟩; clear hw; clear BK183; clear HB; have BK183 := n0_; have HB := n1_; clear n0_ n1_))
   refine bodyPost_ret (results_cell_row rfl _ _ gb183 50 #[.int .i32 0, .int .i64 0, .int .i64 0] (0, 0) _ rfl (aB BK183) Try.underlying50 rfl (by kernel_rfl)) rfl ?_
   exact ⟨aX, aL HB⟩
  replace c6 := Bool.eq_false_iff.mpr c6; subst c6; have H1 : (stanzaref01_One.l0 kj2 l0 a1 0) = some (r1, r2, r3) := by rw [if_neg (show ¬ (false = true) by decide)] at H; exact H
  clear H; have H := H1; clear H1; have HC9 := zA.mk H; clear H; go_upto_block 0 with (fail)
  go_cut [5] (fun v5 wc => ∃ (kq : Nat) (x5_8 : Int), v5 = .int .i64 x5_8 ∧ zA (stanzaref01_One.j2 kq l0 a1 x5_8 = some (r1, r2, r3)) ∧ zA (kq ≤ kj2) ∧ zA (wc.heap[gb183]? = some (.cells #[.int .i32 0, .int .i64 0, .int .i64 0] 50 (0, 0))) ∧ zA (Below w.heap.size w wc))
  case first =>
   have H := HC9.out; clear HC9; have H' := zA.mk H
   clear H; go_wp2
   go_loopg [5] kj2 (fun kq v5 w' => ∃ (x5_2 : Int), v5 = .int .i64 x5_2 ∧ zA (stanzaref01_One.l0 kq l0 a1 x5_2 = some (r1, r2, r3)) ∧ zA (kq ≤ kj2) ∧ zA (w'.heap[gb183]? = some (.cells #[.int .i32 0, .int .i64 0, .int .i64 0] 50 (0, 0))) ∧ zA (Below w.heap.size w w'))
   case atStart => exact ⟨(0), aZ, H', ⟨Nat.le_refl _⟩, ⟨aB BK183⟩, ⟨aL HB⟩⟩
   clear H'; obtain ⟨x5_2, rfl, HA, HK2, BK183, HB⟩ := hrel; cases gk with
   | zero => exact absurd HA.out (by simp [stanzaref01_One.l0])
   | succ k2 =>
    have H := HA.out; clear HA; simp only [stanzaref01_One.l0] at H; by_cases c10 : x5_2 < 4
    rotate_left
    ·rw [if_neg c10] at H
     have c10b0 : decide (x5_2 < 4) = false := decide_eq_false c10
     clear c10; (first | rw [c10b0] | (simp only [i64_w, i32_w]; rw [c10b0]) | skip)
     have H' := zA.mk H
     clear H; go_wp2
     go_meet
     case rel => exact ⟨_, (x5_2), aZ, H', ⟨by have := HJ2.out; have := HK2.out; first | omega | exact Nat.le_refl _⟩, ⟨aB BK183⟩, ⟨aL HB⟩⟩
    rw [if_pos c10] at H; have c10b0 : decide (x5_2 < 4) = true := decide_eq_true c10
    clear c10; (first | rw [c10b0] | (simp only [i64_w, i32_w]; rw [c10b0]) | skip)
    by_cases c11 : x5_2 < (wrap64 ((l0.length : Int) - a1))
    rotate_left
    ·rw [if_neg c11] at H
     have c11b0 : decide (x5_2 < (wrap64 ((l0.length : Int) - a1))) = false := decide_eq_false c11
     clear c11; have H' := zA.mk H
     clear H; go_wp2
     go_meet
     case rel => exact ⟨_, (x5_2), aZ, H', ⟨by have := HJ2.out; have := HK2.out; first | omega | exact Nat.le_refl _⟩, ⟨aB BK183⟩, ⟨aL HB⟩⟩
    rw [if_pos c11] at H; have c11b0 : decide (x5_2 < (wrap64 ((l0.length : Int) - a1))) = true := decide_eq_true c11
    clear c11; by_cases c12 : 0 ≤ a1
    rotate_left
    ·rw [if_neg c12] at H
     exact absurd H (by simp)
    rw [if_pos c12] at H; have c12b0 := eq_true c12; have c12b1 : decide (0 ≤ a1) = true := decide_eq_true c12
    clear c12; by_cases c13 : a1 ≤ (wrap64 ((wrap64 (a1 + x5_2)) + 1))
    rotate_left
    ·rw [if_neg c13] at H
     exact absurd H (by simp)
    rw [if_pos c13] at H; have c13b0 := eq_true c13; have c13b1 : decide (a1 ≤ (wrap64 ((wrap64 (a1 + x5_2)) + 1))) = true := decide_eq_true c13
    by_cases c14 : (wrap64 ((wrap64 (a1 + x5_2)) + 1)) ≤ (l0.length : Int)
    rotate_left
    ·rw [if_neg c14] at H
     exact absurd H (by simp)
    rw [if_pos c14] at H; have c14b0 := eq_true c14; have c14b1 : decide ((wrap64 ((wrap64 (a1 + x5_2)) + 1)) ≤ (l0.length : Int)) = true := decide_eq_true c14
    replace H := Option.bind_eq_some_iff.mp H; obtain ⟨t185, A150, H⟩ := H; replace H : (if t185 = true then (stanzaref01_One.l0 k2 l0 a1 (wrap64 (x5_2 + 1))) else (stanzaref01_One.j2 k2 l0 a1 x5_2)) = some (r1, r2, r3) := H; have A15 := zA.mk A150; clear A150; by_cases c16 : t185 = true
    ·subst c16
     have H1 : (stanzaref01_One.l0 k2 l0 a1 (wrap64 (x5_2 + 1))) = some (r1, r2, r3) := by rw [if_pos rfl] at H; exact H
     clear H; have H := H1; clear H1; have H' := zA.mk H
     clear H; obtain ⟨i017, hi017, _, hsz17, _⟩ := info_parts info5; obtain ⟨A17, hcut17, hA17, hC17⟩ := print_mid_of (P := Try.prog) (Value.int .u8) 0 22 5 .i64 .i64 Try.underlying22 hi017 hsz17 A0 c0 l0 a1 (wrap64 ((wrap64 (a1 + x5_2)) + 1)) (aD) (by first | omega | exact aD) (aD) HC0.out
     have HR184 := zA.mk (Kd.C_of_reads (h1 := fun _ => rfl) (hA17 _ (Kd.reads_of_C HR0.out)))
     have HC184 := zA.mk hC17; clear hA17 hC17 hi017 hsz17; go_wp2_with (first | (go_at_call 38; refine calls_of_args (args' := #[.slice A17 ((l0.take ((wrap64 ((wrap64 (a1 + x5_2)) + 1)) : Int).toNat).drop (a1 : Int).toNat).length (c0 - a1.toNat)]) (by first | (rw [show ((l0.take ((wrap64 ((wrap64 (a1 + x5_2)) + 1)) : Int).toNat).drop (a1 : Int).toNat).length = ((wrap64 ((wrap64 (a1 + x5_2)) + 1)).toNat - a1.toNat) from (by rw [List.length_drop, List.length_take]; have h_ : ((wrap64 ((wrap64 (a1 + x5_2)) + 1)) : Int) ≤ (l0.length : Int) := aD; omega)] <;> rfl) | rfl) ?_; (with_reducible refine (stanzaref01_Begins.calls k2 _ _ ((l0.take ((wrap64 ((wrap64 (a1 + x5_2)) + 1)) : Int).toNat).drop (a1 : Int).toNat) true _ ?side1 ?side2 A15.out).mono ?_); (case side1 => exact aA HR184 HB); (case side2 => exact HC184.out); rintro e w' ⟨rfl, ⟨nd, rfl⟩⟩))
     go_roundg k2
     case measure => have := HJ2.out; have := HK2.out; omega
     case rel => exact ⟨(wrap64 (x5_2 + 1)), aZ, H', ⟨by have := HJ2.out; have := HK2.out; omega⟩, ⟨aB BK183⟩, ⟨aL HB⟩⟩
    replace c16 := Bool.eq_false_iff.mpr c16; subst c16; have H1 : (stanzaref01_One.j2 k2 l0 a1 x5_2) = some (r1, r2, r3) := by rw [if_neg (show ¬ (false = true) by decide)] at H; exact H
    clear H; have H := H1; clear H1; have H' := zA.mk H
    clear H; obtain ⟨i018, hi018, _, hsz18, _⟩ := info_parts info5; obtain ⟨A18, hcut18, hA18, hC18⟩ := print_mid_of (P := Try.prog) (Value.int .u8) 0 22 5 .i64 .i64 Try.underlying22 hi018 hsz18 A0 c0 l0 a1 (wrap64 ((wrap64 (a1 + x5_2)) + 1)) (aD) (by first | omega | exact aD) (aD) HC0.out
    have HR184 := zA.mk (Kd.C_of_reads (h1 := fun _ => rfl) (hA18 _ (Kd.reads_of_C HR0.out)))
    have HC184 := zA.mk hC18; clear hA18 hC18 hi018 hsz18; go_wp2_with (first | (go_at_call 38; refine calls_of_args (args' := #[.slice A18 ((l0.take ((wrap64 ((wrap64 (a1 + x5_2)) + 1)) : Int).toNat).drop (a1 : Int).toNat).length (c0 - a1.toNat)]) (by first | (rw [show ((l0.take ((wrap64 ((wrap64 (a1 + x5_2)) + 1)) : Int).toNat).drop (a1 : Int).toNat).length = ((wrap64 ((wrap64 (a1 + x5_2)) + 1)).toNat - a1.toNat) from (by rw [List.length_drop, List.length_take]; have h_ : ((wrap64 ((wrap64 (a1 + x5_2)) + 1)) : Int) ≤ (l0.length : Int) := aD; omega)] <;> rfl) | rfl) ?_; (with_reducible refine (stanzaref01_Begins.calls k2 _ _ ((l0.take ((wrap64 ((wrap64 (a1 + x5_2)) + 1)) : Int).toNat).drop (a1 : Int).toNat) false _ ?side1 ?side2 A15.out).mono ?_); (case side1 => exact aA HR184 HB); (case side2 => exact HC184.out); rintro e w' ⟨rfl, ⟨nd, rfl⟩⟩))
    go_meet
    case rel => exact ⟨_, (x5_2), aZ, H', ⟨by have := HJ2.out; have := HK2.out; first | omega | exact Nat.le_refl _⟩, ⟨aB BK183⟩, ⟨aL HB⟩⟩
  clear HC9; obtain ⟨kq, x5_8, rfl, HA, HJ8, BK183, HB⟩ := hcut; cases kq with
  | zero => exact absurd HA.out (by simp [stanzaref01_One.j2])
  | succ kj8 =>
   have H := HA.out; clear HA; simp only [stanzaref01_One.j2] at H; by_cases c19 : x5_8 = 0
   ·rw [if_pos c19] at H
    have c19b0 : (x5_8 == 0) = true := beq_iff_eq.mpr c19
    have c19b1 : (x5_8 != 0) = false := bne_eq_false_iff_eq.mpr c19
    clear c19; simp only [Option.some.injEq, Prod.mk.injEq] at H; obtain ⟨rfl, rfl, rfl⟩ := H; obtain ⟨hcz20_0, hcz20_1, hcz20_2, hfz20_0, hfz20_1, hfz20_2⟩ := aC3 BK183; go_wp2_with (first | ((with_reducible refine gate_store (t := 50) (p := 4) rfl ?_); refine store_event (t := 50) (p := 4) (v := ?vo_w21) (w1 := (((wc.setCell ⟨gb183, 0, none⟩ (.int .i32 65533)).setCell ⟨gb183, 1, none⟩ (.int .i64 a1)).setCell ⟨gb183, 2, none⟩ (.int .i64 1))) ?hg ?ho ?hn ?hr ?_; (case ho => rfl); (case hg => rfl); (case hn => rfl); (case hr => first | (go_simp; done) | (go_simp; rfl)); intro w21 hw; have n0_ : zA (w21.heap[gb183]? = some (.cells #[.int .i32 65533, .int .i64 a1, .int .i64 1] 50 (0, 0))) := ⟨(by rw [hw]; exact (by (with_reducible repeat (first | refine zC ?_ _ | refine blk_drew ?_ | refine zB ?_ _)); refine blk_put (cs := #[.int .i32 65533, .int .i64 a1, .int .i64 0]) ?_ 2 _ rfl; (with_reducible repeat (first | refine zC ?_ _ | refine blk_drew ?_ | refine zB ?_ _)); refine blk_put (cs := #[.int .i32 65533, .int .i64 0, .int .i64 0]) ?_ 1 _ rfl; (with_reducible repeat (first | refine zC ?_ _ | refine blk_drew ?_ | refine zB ?_ _)); refine blk_put (cs := #[.int .i32 0, .int .i64 0, .int .i64 0]) ?_ 0 _ rfl; (with_reducible repeat (first | refine zC ?_ _ | refine blk_drew ?_ | refine zB ?_ _)); exact BK183.out))⟩; have n1_ : zA (Below w.heap.size w w21) := ⟨(by rw [hw]; exact (aL HB))⟩; clear hw; clear BK183; clear HB; have BK183 := n0_; have HB := n1_; clear n0_ n1_))
    refine bodyPost_ret (results_cell_row rfl _ _ gb183 50 #[.int .i32 65533, .int .i64 a1, .int .i64 1] (0, 0) _ rfl (aB BK183) Try.underlying50 rfl (by kernel_rfl)) rfl ?_
    exact ⟨aX, aL HB⟩
   rw [if_neg c19] at H; have c19b0 : (x5_8 == 0) = false := beq_eq_false_iff_ne.mpr c19
   have c19b1 : (x5_8 != 0) = true := bne_iff_ne.mpr c19
   by_cases c22 : 0 ≤ a1
   rotate_left
   ·rw [if_neg c22] at H
    exact absurd H (by simp)
   rw [if_pos c22] at H; have c22b0 : decide (0 ≤ a1) = true := decide_eq_true c22
   clear c22; by_cases c23 : a1 < (l0.length : Int)
   rotate_left
   ·rw [if_neg c23] at H
    exact absurd H (by simp)
   rw [if_pos c23] at H; have c23b0 : decide (a1 < (l0.length : Int)) = true := decide_eq_true c23
   clear c23; replace H := Option.bind_eq_some_iff.mp H; obtain ⟨t187, A240, H⟩ := H; replace H : (if x5_8 < t187 then (some (65533, a1, x5_8)) else ((some (([0, 127, 31, 15, 7] : List Int) : List Int)).bind fun y189 => (if 0 ≤ x5_8 then (if x5_8 < (y189.length : Int) then (stanzaref01_One.l1 kj8 l0 a1 x5_8 (Go.bits .and .i32 (wrap32 (rd l0 a1)) (rd y189 x5_8)) 1) else (none)) else (none)))) = some (r1, r2, r3) := H
   have A24 := zA.mk A240; clear A240; by_cases c25 : x5_8 < t187
   ·rw [if_pos c25] at H
    have c25b0 : decide (x5_8 < t187) = true := decide_eq_true c25
    clear c25; simp only [Option.some.injEq, Prod.mk.injEq] at H; obtain ⟨rfl, rfl, rfl⟩ := H; have p186 : 0 ≤ (a1 : Int) := aD
    have q186 : a1 < (l0.length : Int) := aD
    obtain ⟨ad186, e186, hx186_0⟩ := Kd.at_int HR0.out a1 p186 q186; cases e186
    replace hx186_0 := (HB.out.cell (World.block_lt_of_cell? w _ hx186_0)).trans hx186_0; replace p186 := eq_true p186; replace q186 := eq_true q186; go_wp2_with (first | ((with_reducible refine gate_callee (f := 39) rfl ?_); refine goesL_ (some 49) rfl rfl Try.func39 (by kernel_rfl) rfl #[.int .u8 (rd l0 a1)] rfl aT ?_; (with_reducible refine (stanzaref01_length.calls kj8 (rd l0 a1) t187 _ A24.out).mono ?_); rintro e w' ⟨rfl, ⟨nd, rfl⟩⟩; refine ⟨_, rfl, ?_⟩; (try (rw [drewN_self wc]; generalize hq_ : World.drewN wc _ = wc; have n0_ : zA (wc.heap[gb183]? = some (.cells #[.int .i32 0, .int .i64 0, .int .i64 0] 50 (0, 0))) := ⟨by rw [← hq_]; exact (aB BK183)⟩; have n1_ : zA (Below w.heap.size w wc) := ⟨by rw [← hq_]; exact (aL HB)⟩; clear BK183 HB hq_; have BK183 := n0_; have HB := n1_; clear n0_ n1_)); obtain ⟨hcz26_0, hcz26_1, hcz26_2, hfz26_0, hfz26_1, hfz26_2⟩ := aC3 BK183) | ((with_reducible refine gate_store (t := 50) (p := 4) rfl ?_); refine store_event (t := 50) (p := 4) (v := ?vo_w27) (w1 := (((wc.setCell ⟨gb183, 0, none⟩ (.int .i32 65533)).setCell ⟨gb183, 1, none⟩ (.int .i64 a1)).setCell ⟨gb183, 2, none⟩ (.int .i64 x5_8))) ?hg ?ho ?hn ?hr ?_; (case ho => rfl); (case hg => rfl); (case hn => rfl); (case hr => first | (go_simp; done) | (go_simp; rfl)); intro w27 hw; have n0_ : zA (w27.heap[gb183]? = some (.cells #[.int .i32 65533, .int .i64 a1, .int .i64 x5_8] 50 (0, 0))) := ⟨(by rw [hw]; exact (by (with_reducible repeat (first | refine zC ?_ _ | refine blk_drew ?_ | refine zB ?_ _)); refine blk_put (cs := #[.int .i32 65533, .int .i64 a1, .int .i64 0]) ?_ 2 _ rfl; (with_reducible repeat (first | refine zC ?_ _ | refine blk_drew ?_ | refine zB ?_ _)); refine blk_put (cs := #[.int .i32 65533, .int .i64 0, .int .i64 0]) ?_ 1 _ rfl; (with_reducible repeat (first | refine zC ?_ _ | refine blk_drew ?_ | refine zB ?_ _)); refine blk_put (cs := #[.int .i32 0, .int .i64 0, .int .i64 0]) ?_ 0 _ rfl; (with_reducible repeat (first | refine zC ?_ _ | refine blk_drew ?_ | refine zB ?_ _)); exact BK183.out))⟩; have n1_ : zA (Below w.heap.size w w27) := ⟨(by rw [hw]; exact (aL HB))⟩; clear hw; clear BK183; clear HB; have BK183 := n0_; have HB := n1_; clear n0_ n1_))
    refine bodyPost_ret (results_cell_row rfl _ _ gb183 50 #[.int .i32 65533, .int .i64 a1, .int .i64 x5_8] (0, 0) _ rfl (aB BK183) Try.underlying50 rfl (by kernel_rfl)) rfl ?_
    exact ⟨aX, aL HB⟩
   rw [if_neg c25] at H; have c25b0 : decide (x5_8 < t187) = false := decide_eq_false c25
   clear c25; obtain ⟨y189, hy189⟩ : ∃ y_ : List Int, y_ = (([0, 127, 31, 15, 7] : List Int)) := ⟨_, rfl⟩; replace H : (if 0 ≤ x5_8 then (if x5_8 < (y189.length : Int) then (stanzaref01_One.l1 kj8 l0 a1 x5_8 (Go.bits .and .i32 (wrap32 (rd l0 a1)) (rd y189 x5_8)) 1) else (none)) else (none)) = some (r1, r2, r3) := by first | (rw [hy189]; with_reducible exact H) | (have H2_ := (Option.bind_some _ _).symm.trans H; rw [hy189]; with_reducible exact H2_) | (have H2_ := (Option.bind_some _ _).symm.trans H; with_reducible exact H2_) | with_reducible exact H | (rw [hy189]; exact H) | exact H
   have Ny189 := zA.mk hy189; clear hy189; by_cases c28 : 0 ≤ x5_8
   rotate_left
   ·rw [if_neg c28] at H
    exact absurd H (by simp)
   rw [if_pos c28] at H; have c28b0 : decide (0 ≤ x5_8) = true := decide_eq_true c28
   clear c28; by_cases c29 : x5_8 < (y189.length : Int)
   rotate_left
   ·rw [if_neg c29] at H
    exact absurd H (by simp)
   rw [if_pos c29] at H; have c29b0 : decide (x5_8 < (y189.length : Int)) = true := decide_eq_true c29
   clear c29; have H' := zA.mk H
   clear H; have p186 : 0 ≤ (a1 : Int) := aD
   have q186 : a1 < (l0.length : Int) := aD
   obtain ⟨ad186, e186, hx186_0⟩ := Kd.at_int HR0.out a1 p186 q186; cases e186
   replace hx186_0 := (HB.out.cell (World.block_lt_of_cell? w _ hx186_0)).trans hx186_0; replace p186 := eq_true p186; replace q186 := eq_true q186; go_wp2_with (first | ((with_reducible refine gate_callee (f := 39) rfl ?_); refine goesL_ (some 49) rfl rfl Try.func39 (by kernel_rfl) rfl #[.int .u8 (rd l0 a1)] rfl aT ?_; (with_reducible refine (stanzaref01_length.calls kj8 (rd l0 a1) t187 _ A24.out).mono ?_); rintro e w' ⟨rfl, ⟨nd, rfl⟩⟩; refine ⟨_, rfl, ?_⟩; have p188 : 0 ≤ (a1 : Int) := aD; have q188 : a1 < (l0.length : Int) := aD; obtain ⟨ad188, e188, hx188_0⟩ := Kd.at_int HR0.out a1 p188 q188; obtain rfl : ad186 = ad188 := (by injection e188); replace hx188_0 := (HB.out.cell (World.block_lt_of_cell? w _ hx188_0)).trans hx188_0; replace p188 := eq_true p188; replace q188 := eq_true q188) | ((with_reducible refine gate_dst (N := 59) rfl ?_); (try (refine gate_guard (by rfl) ?_; dsimp only)); refine Kd.R_lit (Kd.int .i32) _ 21 ?hg (N := 59) ?hd (xs := ([0, 127, 31, 15, 7] : List Int)) (inner := [.int .i32 0, .int .i32 127, .int .i32 31, .int .i32 15, .int .i32 7]) (ok := fun _ => True) (okp := fun _ => True) ?hr ?hp (fun _ hk => hk) trivial (Below.refl _ _) (Nat.le_refl _) (by simp) ?_; (case hd => rfl); (case hg => rfl); (case hr => first | (go_simp; done) | (go_simp; rfl)); (case hp => exact (Reps.one (show Kd.M (Kd.int .i32) _ _ _ 0 [.int .i32 0] from rfl) (Reps.one (show Kd.M (Kd.int .i32) _ _ _ 127 [.int .i32 127] from rfl) (Reps.one (show Kd.M (Kd.int .i32) _ _ _ 31 [.int .i32 31] from rfl) (Reps.one (show Kd.M (Kd.int .i32) _ _ _ 15 [.int .i32 15] from rfl) (Reps.one (show Kd.M (Kd.int .i32) _ _ _ 7 [.int .i32 7] from rfl) (Reps.none _ _))))))); intro v190 w30 ho31 hb hg_ hnew_; clear hg_ hnew_; (first | rw [← Ny189.out] at ho31 | (simp only [Int.reduceToNat] at ho31; rw [← Ny189.out] at ho31)); have HO191 := zA.mk (Kd.zO ho31 (below_size (aL HB))); replace BK183 := zA.mk (blk_below (aB BK183) hb); replace HB := zA.mk (below_step (aL HB) hb); clear hb ho31; obtain ⟨Ao32, co32, eo32⟩ := Kd.zN HO191.out; subst eo32; have p192 : 0 ≤ (x5_8 : Int) := aD; have q192 : x5_8 < (y189.length : Int) := aD; obtain ⟨ad192, e192, hx192_0⟩ := Kd.at_int (Kd.zK HO191.out).2.2 x5_8 p192 q192; cases e192; replace p192 := eq_true p192; replace q192 := eq_true q192))
   go_loopg [6, 8] kj8 (fun kq v6 v8 w' => ∃ (x6_3 : Int) (x8_3 : Int), v6 = .int .i32 x6_3 ∧ v8 = .int .i64 x8_3 ∧ zA (stanzaref01_One.l1 kq l0 a1 x5_8 x6_3 x8_3 = some (r1, r2, r3)) ∧ zA (kq ≤ kj8) ∧ zA (w'.heap[gb183]? = some (.cells #[.int .i32 0, .int .i64 0, .int .i64 0] 50 (0, 0))) ∧ zA (Below w.heap.size w w'))
   case atStart => exact ⟨(Go.bits .and .i32 (wrap32 (rd l0 a1)) (rd y189 x5_8)), (1), aZ, aZ, H', ⟨Nat.le_refl _⟩, ⟨aB BK183⟩, ⟨aL HB⟩⟩
   clear H'; obtain ⟨x6_3, x8_3, rfl, rfl, HA, HK3, BK183, HB⟩ := hrel; cases gk with
   | zero => exact absurd HA.out (by simp [stanzaref01_One.l1])
   | succ k3 =>
    have H := HA.out; clear HA; simp only [stanzaref01_One.l1] at H; by_cases c33 : x8_3 < x5_8
    ·rw [if_pos c33] at H
     have c33b0 : decide (x8_3 < x5_8) = true := decide_eq_true c33
     clear c33; obtain ⟨ji34, hji34⟩ : ∃ j_ : Int, (wrap64 (a1 + x8_3)) = j_ := ⟨_, rfl⟩; replace H : (if 0 ≤ (ji34) then (if (ji34) < (l0.length : Int) then (stanzaref01_One.l1 k3 l0 a1 x5_8 (wrap32 ((wrap32 ((wrap32 (x6_3 * 64)) + (wrap32 (rd l0 (ji34))))) - 128)) (wrap64 (x8_3 + 1))) else (none)) else (none)) = some (r1, r2, r3) := by first | (rw [hji34] at H; exact H) | (simp only [hji34] at H ⊢; exact H)
     have hji34w : (IntKind.i64.wrap (a1 + x8_3)) = ji34 := (i64_w _).trans hji34
     by_cases c35 : 0 ≤ (ji34)
     rotate_left
     ·rw [if_neg c35] at H
      exact absurd H (by simp)
     rw [if_pos c35] at H; have c35b0 : decide (0 ≤ (ji34)) = true := decide_eq_true c35
     clear c35; by_cases c36 : (ji34) < (l0.length : Int)
     rotate_left
     ·rw [if_neg c36] at H
      exact absurd H (by simp)
     rw [if_pos c36] at H; have c36b0 : decide ((ji34) < (l0.length : Int)) = true := decide_eq_true c36
     clear c36; have H' := zA.mk H
     clear H; have p193 : 0 ≤ ((ji34) : Int) := aD
     have q193 : (ji34) < (l0.length : Int) := aD
     obtain ⟨ad193, e193, hx193_0⟩ := Kd.at_int HR0.out (ji34) p193 q193; obtain rfl : ad186 = ad193 := (by injection e193)
     replace hx193_0 := (HB.out.cell (World.block_lt_of_cell? w _ hx193_0)).trans hx193_0; replace p193 := eq_true p193; replace q193 := eq_true q193; go_wp2
     go_roundg k3
     case measure => have := HJ2.out; have := HJ8.out; have := HK3.out; omega
     case rel => exact ⟨(wrap32 ((wrap32 ((wrap32 (x6_3 * 64)) + (wrap32 (rd l0 (ji34))))) - 128)), (wrap64 (x8_3 + 1)), (by first | rfl | (simp; done) | (simp only [← hji34] <;> (first | rfl | simp)) | (simp [*]; done)), aZ, H', ⟨by have := HJ2.out; have := HJ8.out; have := HK3.out; omega⟩, ⟨aB BK183⟩, ⟨aL HB⟩⟩
    rw [if_neg c33] at H; have c33b0 : decide (x8_3 < x5_8) = false := decide_eq_false c33
    clear c33; simp only [Option.some.injEq, Prod.mk.injEq] at H; obtain ⟨rfl, rfl, rfl⟩ := H; obtain ⟨hcz37_0, hcz37_1, hcz37_2, hfz37_0, hfz37_1, hfz37_2⟩ := aC3 BK183; go_wp2_with (first | ((with_reducible refine gate_store (t := 50) (p := 4) rfl ?_); refine store_event (t := 50) (p := 4) (v := ?vo_w38) (w1 := (((wr.setCell ⟨gb183, 0, none⟩ (.int .i32 x6_3)).setCell ⟨gb183, 1, none⟩ (.int .i64 a1)).setCell ⟨gb183, 2, none⟩ (.int .i64 x5_8))) ?hg ?ho ?hn ?hr ?_; (case ho => rfl); (case hg => rfl); (case hn => rfl); (case hr => first | (go_simp; done) | (go_simp; rfl)); intro w38 hw; have n0_ : zA (w38.heap[gb183]? = some (.cells #[.int .i32 x6_3, .int .i64 a1, .int .i64 x5_8] 50 (0, 0))) := ⟨(by rw [hw]; exact (by (with_reducible repeat (first | refine zC ?_ _ | refine blk_drew ?_ | refine zB ?_ _)); refine blk_put (cs := #[.int .i32 x6_3, .int .i64 a1, .int .i64 0]) ?_ 2 _ rfl; (with_reducible repeat (first | refine zC ?_ _ | refine blk_drew ?_ | refine zB ?_ _)); refine blk_put (cs := #[.int .i32 x6_3, .int .i64 0, .int .i64 0]) ?_ 1 _ rfl; (with_reducible repeat (first | refine zC ?_ _ | refine blk_drew ?_ | refine zB ?_ _)); refine blk_put (cs := #[.int .i32 0, .int .i64 0, .int .i64 0]) ?_ 0 _ rfl; (with_reducible repeat (first | refine zC ?_ _ | refine blk_drew ?_ | refine zB ?_ _)); exact BK183.out))⟩; have n1_ : zA (Below w.heap.size w w38) := ⟨(by rw [hw]; exact (aL HB))⟩; clear hw; clear BK183; clear HB; have BK183 := n0_; have HB := n1_; clear n0_ n1_))
    refine bodyPost_ret (results_cell_row rfl _ _ gb183 50 #[.int .i32 x6_3, .int .i64 a1, .int .i64 x5_8] (0, 0) _ rfl (aB BK183) Try.underlying50 rfl (by kernel_rfl)) rfl ?_
    exact ⟨aX, aL HB⟩
def stanzaref01_All.l0 : Nat → List Int → List (S50) → Int → Option ((List (S50)))
 | 0, _, _, _ => none
 | k + 1, x0, x3, x4 => if x4 < (x0.length : Int) then ((stanzaref01_One.f k x0 x4).bind fun bt194 => (if x3.length < 5864062014805 then (stanzaref01_All.l0 k x0 (x3 ++ [(⟨bt194.1, bt194.2.1, bt194.2.2⟩ : S50)]) (wrap64 (x4 + bt194.2.2))) else (none))) else (some x3)
def stanzaref01_All.f (k : Nat) (l0 : List Int) : Option ((List (S50))) := stanzaref01_All.l0 k l0 ([] : List (S50)) 0
theorem stanzaref01_All.mono_l : ∀ k, (∀ y0 y1 y2, LeO (stanzaref01_All.l0 k y0 y1 y2) (stanzaref01_All.l0 (k + 1) y0 y1 y2))
 | 0 => fun _ _ _ r h => by simp [stanzaref01_All.l0] at h
 | k + 1 => by
  have ih0 := stanzaref01_All.mono_l k
  ·intro y0 y1 y2
   unfold stanzaref01_All.l0
   repeat' (with_reducible first | exact ih0 _ _ _ | exact stanzaref01_One.mono _ _ _ | exact LeO.refl _ | exact LeO.none _ | refine LeO.ite ?_ ?_ | refine LeO.bind ?_ (fun _ => ?_))
theorem stanzaref01_All.mono : ∀ a0 k, LeO (stanzaref01_All.f k a0) (stanzaref01_All.f (k + 1) a0) := by
 intro a0 k
 have ih0 := stanzaref01_All.mono_l k; unfold stanzaref01_All.f
 repeat' (with_reducible first | exact ih0 _ _ _ | exact stanzaref01_One.mono _ _ _ | exact LeO.refl _ | exact LeO.none _ | refine LeO.ite ?_ ?_ | refine LeO.bind ?_ (fun _ => ?_))
set_option maxHeartbeats 8000000 in
set_option maxRecDepth 100000 in
theorem stanzaref01_All.calls (k : Nat) (A0 : Option Addr) (c0 : Nat) (l0 : List Int) (r : List (S50)) (w : World) (hr0 : Kd.C (Kd.int .u8) w A0 l0.length l0) (hc0 : l0.length ≤ c0) (h : stanzaref01_All.f k l0 = some r) :
  Calls Try.prog 16 #[.slice A0 l0.length c0] w fun e w' => ∃ v0_ : Value, e = .returned (v0_) ∧ Kd.R k50 50 w' w.heap.size (fun _ => True) v0_ r ∧ Below w.heap.size w w' := by
 have hu50 := Try.underlying50; have HR0 := zA.mk hr0; have HC0 := zA.mk hc0; clear hr0 hc0; have HB := zA.mk (Below.refl w.heap.size w); have H : (stanzaref01_All.l0 k l0 ([] : List (S50)) 0) = some r := h
 clear h; have H' := zA.mk H
 clear H; go_enter Try.func16, Try.ntmps16
 go_wp2
 go_loopg [3, 4] k (fun kq v3 v4 w' => ∃ (x3_1 : List (S50)) (x4_1 : Int), v4 = .int .i64 x4_1 ∧ zA (stanzaref01_All.l0 kq l0 x3_1 x4_1 = some r) ∧ zA (kq ≤ k) ∧ zA (Kd.R k50 50 w' w.heap.size (fun _ => True) v3 x3_1) ∧ zA (Below w.heap.size w w'))
 case atStart => exact ⟨(([] : List (S50))), (0), aZ, H', ⟨Nat.le_refl _⟩, ⟨by first | exact Kd.R_nil _ _ _ _ _ | exact Kd.N_nil _ _ _ _ _ | exact Kd.V_nil _ _ _ _ _ | exact Kd.Q_nil _ _ _ _ _ | exact Kd.S_nil _ _ _ _ _⟩, ⟨aL HB⟩⟩
 clear H'; obtain ⟨x3_1, x4_1, rfl, HA, HK1, HO_3, HB⟩ := hrel; cases gk with
 | zero => exact absurd HA.out (by simp [stanzaref01_All.l0])
 | succ k1 =>
  have H := HA.out; clear HA; simp only [stanzaref01_All.l0] at H; by_cases c2 : x4_1 < (l0.length : Int)
  rotate_left
  ·rw [if_neg c2] at H
   have c2b0 : decide (x4_1 < (l0.length : Int)) = false := decide_eq_false c2
   clear c2; obtain rfl := Option.some.inj H
   go_wp2
   go_ret
   exact ⟨_, aX, aR HO_3, aL HB⟩
  rw [if_pos c2] at H; have c2b0 : decide (x4_1 < (l0.length : Int)) = true := decide_eq_true c2
  clear c2; replace H := Option.bind_eq_some_iff.mp H; obtain ⟨⟨t194, t195, t196⟩, A30, H⟩ := H; replace H : (if x3_1.length < 5864062014805 then (stanzaref01_All.l0 k1 l0 (x3_1 ++ [(⟨t194, t195, t196⟩ : S50)]) (wrap64 (x4_1 + t196))) else (none)) = some r := H; have A3 := zA.mk A30; clear A30; by_cases c4 : x3_1.length < 5864062014805
  rotate_left
  ·rw [if_neg c4] at H
   exact absurd H (by simp)
  rw [if_pos c4] at H; have LMc4 := zA.mk c4; clear c4; obtain ⟨y198, hy198⟩ : ∃ y_ : List (S50), y_ = (x3_1 ++ [(⟨t194, t195, t196⟩ : S50)]) := ⟨_, rfl⟩; replace H : (stanzaref01_All.l0 k1 l0 y198 (wrap64 (x4_1 + t196))) = some r := by first | (rw [hy198]; with_reducible exact H) | (have H2_ := (Option.bind_some _ _).symm.trans H; rw [hy198]; with_reducible exact H2_) | (have H2_ := (Option.bind_some _ _).symm.trans H; with_reducible exact H2_) | with_reducible exact H | (rw [hy198]; exact H) | exact H
  have Ny198 := zA.mk hy198; clear hy198; have H' := zA.mk H
  clear H; go_wp2_with (first | ((with_reducible refine gate_callee (f := 35) rfl ?_); refine goesL_ (some 12) rfl rfl Try.func35 (by kernel_rfl) rfl #[.slice A0 l0.length c0, .int .i64 x4_1] rfl aT ?_; (with_reducible refine (stanzaref01_One.calls k1 _ _ l0 x4_1 t194 t195 t196 _ ?side1 ?side2 A3.out).mono ?_); (case side1 => exact aA HR0 HB); (case side2 => exact HC0.out); rintro e w5 ⟨rfl, hb⟩; refine ⟨_, rfl, ?_⟩; replace HO_3 := zA.mk (Kd.zL (aR HO_3) hb); replace HB := zA.mk (below_step (aL HB) hb); (try clear hb); (try clear hb2); (try clear hk); (try clear hi)) | ((with_reducible refine gate_dst (N := 5) rfl ?_); refine box_event ?hg (N := 5) ?hd (cs := #[.int .i32 0, .int .i64 0, .int .i64 0]) (t := 50) ?hr ?_; (case hd => rfl); (case hg => rfl); (case hr => first | (go_simp; done) | (go_simp; rfl)); intro gb197 hg w6 hbox hb; replace HO_3 := zA.mk (Kd.zL (Kd.R_elderB (aR HO_3) gb197 (Nat.le_of_eq hg.symm)) hb); have BK197 := zA.mk (hbox); have GW197 := zA.mk ((by rw [hg]; exact (below_size (aL HB)) : w.heap.size ≤ gb197)); replace HB := zA.mk (below_step (aL HB) hb); have GE197 := GW197; clear hb hbox hg; obtain ⟨hcz7_0, hcz7_1, hcz7_2, hfz7_0, hfz7_1, hfz7_2⟩ := aC3 BK197) | ((with_reducible refine gate_store (t := 50) (p := 5) rfl ?_); refine store_event (t := 50) (p := 5) (v := ?vo_w8) (w1 := (((w6.setCell ⟨gb197, 0, none⟩ (.int .i32 t194)).setCell ⟨gb197, 1, none⟩ (.int .i64 t195)).setCell ⟨gb197, 2, none⟩ (.int .i64 t196))) ?hg ?ho ?hn ?hr ?_; (case ho => rfl); (case hg => rfl); (case hn => rfl); (case hr => first | (go_simp; done) | (go_simp; rfl)); intro w8 hw; have n0_ : zA (Kd.R k50 50 w8 w.heap.size (fun k_ => k_ ≠ gb197) u3 x3_1) := ⟨(by rw [hw]; exact (by (with_reducible repeat (first | apply Kd.zD | apply Kd.zE | apply Kd.zF)); exact Kd.zP (Kd.zM (p := ⟨gb197, 2, none⟩) (Kd.zM (p := ⟨gb197, 1, none⟩) (Kd.zM (p := ⟨gb197, 0, none⟩) (Kd.zP HO_3.out (fun k_ hk => (⟨hk, hk.2⟩ : _ ∧ k_ ≠ gb197))) (fun _ hk => hk.2) (.int .i32 t194)) (fun _ hk => hk.2) (.int .i64 t195)) (fun _ hk => hk.2) (.int .i64 t196)) (fun _ hk => hk.1.2)))⟩; have n1_ : zA (w8.heap[gb197]? = some (.cells #[.int .i32 t194, .int .i64 t195, .int .i64 t196] 50 (0, 0))) := ⟨(by rw [hw]; exact (by (with_reducible repeat (first | refine zC ?_ _ | refine blk_drew ?_ | refine zB ?_ _)); refine blk_put (cs := #[.int .i32 t194, .int .i64 t195, .int .i64 0]) ?_ 2 _ rfl; (with_reducible repeat (first | refine zC ?_ _ | refine blk_drew ?_ | refine zB ?_ _)); refine blk_put (cs := #[.int .i32 t194, .int .i64 0, .int .i64 0]) ?_ 1 _ rfl; (with_reducible repeat (first | refine zC ?_ _ | refine blk_drew ?_ | refine zB ?_ _)); refine blk_put (cs := #[.int .i32 0, .int .i64 0, .int .i64 0]) ?_ 0 _ rfl; (with_reducible repeat (first | refine zC ?_ _ | refine blk_drew ?_ | refine zB ?_ _)); exact BK197.out))⟩; have n2_ : zA (Below w.heap.size w w8) := ⟨(by rw [hw]; exact (aL HB))⟩; clear hw; clear HO_3; clear BK197; clear HB; have HO_3 := n0_; have BK197 := n1_; have HB := n2_; clear n0_ n1_ n2_; obtain ⟨hcz9_0, hcz9_1, hcz9_2, hfz9_0, hfz9_1, hfz9_2⟩ := aC3 BK197) | ((with_reducible refine gate_builtin (b := .append) (xs := #[.tmp 13, .tmp 15]) rfl ?_); at_builtin; refine Kd.R_append k50 (w0 := w) w.heap.size rfl (.tmp 13) (.tmp 15) 32 50 (.agg #[(.int .i32 0), (.int .i64 0), (.int .i64 0)]) 24 rfl Try.underlying32 info50 rfl (by decide) (by omega) u3 x3_1 (⟨t194, t195, t196⟩ : S50) [.int .i32 t194, .int .i64 t195, .int .i64 t196] (fun k_ => k_ ≠ gb197) (fun _ => False) rfl rfl ?aP (fun _ hk => hk.elim) ?aF ?aO ?aB ?aS ?aL ?_; (case aP => exact k50_mkM _ _ _ (⟨t194, t195, t196⟩ : S50)); (case aB => exact (aL HB)); (case aF => exact (fun k_ hk => Kd.freshB (g := gb197) (o := .cells #[.int .i32 t194, .int .i64 t195, .int .i64 t196] 50 (0, 0)) (aB BK197) k_ hk)); (case aO => exact (aR HO_3)); (case aS => exact (below_size (aL HB))); (case aL => have := LMc4.out; omega); intro v199 w10 ho hb hg hat; rw [← Ny198.out] at ho; replace BK197 := zA.mk (blk_grown (g := gb197) (o := .cells #[.int .i32 t194, .int .i64 t195, .int .i64 t196] 50 (0, 0)) (aB BK197) hg (Kd.R_away HO_3.out (fun _ hk => hk))); replace HB := zA.mk (hb); have HO200 := zA.mk (ho); clear HO_3; clear ho hb hg hat; obtain ⟨hcz11_0, hcz11_1, hcz11_2, hfz11_0, hfz11_1, hfz11_2⟩ := aC3 BK197))
  go_roundg k1
  case measure => have := HK1.out; omega
  case rel => exact ⟨(y198), (wrap64 (x4_1 + t196)), aZ, H', ⟨by have := HK1.out; omega⟩, ⟨by (with_reducible repeat (first | apply Kd.zD | apply Kd.zE | apply Kd.zF)); exact Kd.zP HO200.out (fun _ hk => trivial)⟩, ⟨aL HB⟩⟩
def h3_Opps.l0 : Nat → List Int → List Int → Int → Option (List Int)
 | 0, _, _, _ => none
 | k + 1, x0, x3, x4 => if x4 < (x0.length : Int) then (if 0 ≤ x4 then (if x3.length < 140737488355328 then (h3_Opps.l0 k x0 (x3 ++ [rd x0 x4]) (wrap64 (x4 + 1))) else (none)) else (none)) else (some x3)
def h3_Opps.f (k : Nat) (l0 : List Int) : Option (List Int) := h3_Opps.l0 k l0 ([] : List Int) 0
theorem h3_Opps.mono_l : ∀ k, (∀ y0 y1 y2, LeO (h3_Opps.l0 k y0 y1 y2) (h3_Opps.l0 (k + 1) y0 y1 y2))
 | 0 => fun _ _ _ r h => by simp [h3_Opps.l0] at h
 | k + 1 => by
  have ih0 := h3_Opps.mono_l k
  ·intro y0 y1 y2
   unfold h3_Opps.l0
   repeat' (with_reducible first | exact ih0 _ _ _ | exact LeO.refl _ | exact LeO.none _ | refine LeO.ite ?_ ?_ | refine LeO.bind ?_ (fun _ => ?_))
theorem h3_Opps.mono : ∀ a0 k, LeO (h3_Opps.f k a0) (h3_Opps.f (k + 1) a0) := by
 intro a0 k
 have ih0 := h3_Opps.mono_l k; unfold h3_Opps.f
 repeat' (with_reducible first | exact ih0 _ _ _ | exact LeO.refl _ | exact LeO.none _ | refine LeO.ite ?_ ?_ | refine LeO.bind ?_ (fun _ => ?_))
set_option maxHeartbeats 8000000 in
set_option maxRecDepth 100000 in
theorem h3_Opps.calls (k : Nat) (A0 : Option Addr) (c0 : Nat) (l0 : List Int) (r : List Int) (w : World) (hr0 : Kd.C (Kd.int .u8) w A0 l0.length l0) (hc0 : l0.length ≤ c0) (h : h3_Opps.f k l0 = some r) :
  Calls Try.prog 18 #[.slice A0 l0.length c0] w fun e w' => ∃ v0_ : Value, e = .returned (v0_) ∧ Kd.R (Kd.int .u8) 53 w' w.heap.size (fun _ => True) v0_ r ∧ Below w.heap.size w w' := by
 have HR0 := zA.mk hr0; have HC0 := zA.mk hc0; clear hr0 hc0; have HB := zA.mk (Below.refl w.heap.size w); have H : (h3_Opps.l0 k l0 ([] : List Int) 0) = some r := h
 clear h; have H' := zA.mk H
 clear H; go_enter Try.func18, Try.ntmps18
 go_wp2
 go_loopg [3, 4] k (fun kq v3 v4 w' => ∃ (x3_1 : List Int) (x4_1 : Int), v4 = .int .i64 x4_1 ∧ zA (h3_Opps.l0 kq l0 x3_1 x4_1 = some r) ∧ zA (kq ≤ k) ∧ zA (Kd.R (Kd.int .u8) 53 w' w.heap.size (fun _ => True) v3 x3_1) ∧ zA (Below w.heap.size w w'))
 case atStart => exact ⟨(([] : List Int)), (0), aZ, H', ⟨Nat.le_refl _⟩, ⟨by first | exact Kd.R_nil _ _ _ _ _ | exact Kd.N_nil _ _ _ _ _ | exact Kd.V_nil _ _ _ _ _ | exact Kd.Q_nil _ _ _ _ _ | exact Kd.S_nil _ _ _ _ _⟩, ⟨aL HB⟩⟩
 clear H'; obtain ⟨x3_1, x4_1, rfl, HA, HK1, HO_3, HB⟩ := hrel; cases gk with
 | zero => exact absurd HA.out (by simp [h3_Opps.l0])
 | succ k1 =>
  have H := HA.out; clear HA; simp only [h3_Opps.l0] at H; by_cases c2 : x4_1 < (l0.length : Int)
  rotate_left
  ·rw [if_neg c2] at H
   have c2b0 : decide (x4_1 < (l0.length : Int)) = false := decide_eq_false c2
   clear c2; obtain rfl := Option.some.inj H
   go_wp2
   go_ret
   exact ⟨_, aX, aR HO_3, aL HB⟩
  rw [if_pos c2] at H; have c2b0 : decide (x4_1 < (l0.length : Int)) = true := decide_eq_true c2
  clear c2; by_cases c3 : 0 ≤ x4_1
  rotate_left
  ·rw [if_neg c3] at H
   exact absurd H (by simp)
  rw [if_pos c3] at H; have c3b0 : decide (0 ≤ x4_1) = true := decide_eq_true c3
  clear c3; by_cases c4 : x3_1.length < 140737488355328
  rotate_left
  ·rw [if_neg c4] at H
   exact absurd H (by simp)
  rw [if_pos c4] at H; have LMc4 := zA.mk c4; clear c4; obtain ⟨y202, hy202⟩ : ∃ y_ : List Int, y_ = (x3_1 ++ [rd l0 x4_1]) := ⟨_, rfl⟩; replace H : (h3_Opps.l0 k1 l0 y202 (wrap64 (x4_1 + 1))) = some r := by first | (rw [hy202]; with_reducible exact H) | (have H2_ := (Option.bind_some _ _).symm.trans H; rw [hy202]; with_reducible exact H2_) | (have H2_ := (Option.bind_some _ _).symm.trans H; with_reducible exact H2_) | with_reducible exact H | (rw [hy202]; exact H) | exact H
  have Ny202 := zA.mk hy202; clear hy202; have H' := zA.mk H
  clear H; have p201 : 0 ≤ (x4_1 : Int) := aD
  have q201 : x4_1 < (l0.length : Int) := aD
  obtain ⟨ad201, e201, hx201_0⟩ := Kd.at_int HR0.out x4_1 p201 q201; cases e201
  replace hx201_0 := (HB.out.cell (World.block_lt_of_cell? w _ hx201_0)).trans hx201_0; replace p201 := eq_true p201; replace q201 := eq_true q201; go_wp2_with (first | ((with_reducible refine gate_builtin (b := .append) (xs := #[.tmp 11, .tmp 16]) rfl ?_); at_builtin; refine Kd.R_append (Kd.int .u8) (w0 := w) w.heap.size rfl (.tmp 11) (.tmp 16) 38 53 (.int .u8 0) 1 rfl Try.underlying38 info53 rfl (by decide) (by omega) u3 x3_1 (rd l0 x4_1) [.int .u8 (rd l0 x4_1)] (fun _ => True) (fun _ => False) rfl rfl ?aP (fun _ hk => hk.elim) ?aF ?aO ?aB ?aS ?aL ?_; (case aP => exact rfl); (case aB => exact (aL HB)); (case aF => exact (fun _ _ => trivial)); (case aO => exact (aR HO_3)); (case aS => exact (below_size (aL HB))); (case aL => have := LMc4.out; omega); intro v203 w5 ho hb hg hat; rw [← Ny202.out] at ho; replace HB := zA.mk (hb); have HO204 := zA.mk (ho); clear HO_3; clear ho hb hg hat))
  go_roundg k1
  case measure => have := HK1.out; omega
  case rel => exact ⟨(y202), (wrap64 (x4_1 + 1)), aZ, H', ⟨by have := HK1.out; omega⟩, ⟨aR HO204⟩, ⟨aL HB⟩⟩
mutual
def stanzalaw10_CellsFiner.l0 : Nat → List Int → List Int → List Int → List (S45) → List Int → Int → Int → Option (Bool)
 | 0, _, _, _, _, _, _, _ => none
 | k + 1, x0, x1, x2, x9, x33, x34, x35 => if x35 < x34 then (if 0 ≤ x35 then (if x35 < (x33.length : Int) then (if x35 < 200 then (if x9.length < 8796093022208 then (stanzalaw10_CellsFiner.l0 k x0 x1 x2 (x9 ++ [(⟨wrap32 (x35), wrap32 (x35), wrap64 (Int.tmod (rd x33 x35) 3)⟩ : S45)]) x33 x34 (wrap64 (x35 + 1))) else (none)) else (stanzalaw10_CellsFiner.l0 k x0 x1 x2 x9 x33 x34 (wrap64 (x35 + 1)))) else (none)) else (none)) else (if prop_Make.c x9 3 = true then ((prop_MakeY.f x9 3).bind fun t251 => ((h3_Words.f k x0).bind fun t252 => ((stanzaref01_All.f k t252).bind fun t255 => ((h3_Opps.f k x1).bind fun t258 => ((h3_Opps.f k x2).bind fun t261 => (if 0 ≤ (wrap64 ((t255.length : Int) + 1)) then (if (wrap64 ((t255.length : Int) + 1) : Int).toNat ≤ 281474976710656 then ((some (List.replicate (wrap64 ((t255.length : Int) + 1) : Int).toNat 0 : List Int)).bind fun y264 => (stanzalaw10_CellsFiner.l1 k t251 t255 t258 t261 y264 (y264.length : Int) 0)) else (none)) else (none))))))) else ((prop_MakeN.f x9 3).bind fun _ => (some false)))
def stanzalaw10_CellsFiner.l1 : Nat → Option (List (Int × Int × Int)) → List (S50) → List Int → List Int → List Int → Int → Int → Option (Bool)
 | 0, _, _, _, _, _, _, _ => none
 | k + 1, x12, x14, x15, x16, x17, x73, x74 => if x74 < x73 then (if x74 < (x15.length : Int) then (if 0 ≤ x74 then (if x74 < (x17.length : Int) then ((some (x17.set (x74 : Int).toNat (rd x15 x74) : List Int)).bind fun y268 => (if x74 < (x16.length : Int) then (if (rd x16 x74) = 0 then (stanzalaw10_CellsFiner.l1 k x12 x14 x15 x16 y268 x73 (wrap64 (x74 + 1))) else (stanzalaw10_CellsFiner.l1 k x12 x14 x15 x16 (y268.set (x74 : Int).toNat (rd x16 x74)) x73 (wrap64 (x74 + 1)))) else (stanzalaw10_CellsFiner.l1 k x12 x14 x15 x16 y268 x73 (wrap64 (x74 + 1))))) else (none)) else (none)) else (if x74 < (x16.length : Int) then (if 0 ≤ x74 then (if (rd x16 x74) = 0 then (stanzalaw10_CellsFiner.l1 k x12 x14 x15 x16 x17 x73 (wrap64 (x74 + 1))) else (if x74 < (x17.length : Int) then (stanzalaw10_CellsFiner.l1 k x12 x14 x15 x16 (x17.set (x74 : Int).toNat (rd x16 x74)) x73 (wrap64 (x74 + 1))) else (none))) else (none)) else (stanzalaw10_CellsFiner.l1 k x12 x14 x15 x16 x17 x73 (wrap64 (x74 + 1))))) else ((cells_Make.f k x14 x15 x12).bind fun bt275 => ((cells_Make.f k x14 x17 x12).bind fun bt281 => (stanzalaw10_CellsFiner.l2 k bt275.2 bt281.1 bt281.2 0 bt275.1 (bt275.1.length : Int) 0)))
def stanzalaw10_CellsFiner.l2 : Nat → List Int → List (S48) → List Int → Int → List (S48) → Int → Int → Option (Bool)
 | 0, _, _, _, _, _, _, _ => none
 | k + 1, x20, x21, x22, x23, x121, x122, x123 => if x123 < x122 then (if 0 ≤ x123 then (if x123 < (x121.length : Int) then (stanzalaw10_CellsFiner.l3 k x20 x21 x22 x23 x123 0 0 x121 x122 x123 ((rd_T48 x121 x123).f0) ((rd_T48 x121 x123).f1) ((rd_T48 x121 x123).f2) ((rd_T48 x121 x123).f3)) else (none)) else (none)) else (some (x23 == (x21.length : Int)))
def stanzalaw10_CellsFiner.l3 : Nat → List Int → List (S48) → List Int → Int → Int → Int → Int → List (S48) → Int → Int → Int → Int → Int → Int → Option (Bool)
 | 0, _, _, _, _, _, _, _, _, _, _, _, _, _, _ => none
 | k + 1, x20, x21, x22, x23, x24, x26, x27, x121, x122, x123, x289000, x289001, x289002, x289003 => if x23 < (x21.length : Int) then (if 0 ≤ x23 then (if x23 < (x22.length : Int) then (if 0 ≤ (wrap64 (x24 + 1)) then (if (wrap64 (x24 + 1)) < (x20.length : Int) then (if (rd x22 x23) < (rd x20 (wrap64 (x24 + 1))) then (stanzalaw10_CellsFiner.l3 k x20 x21 x22 (wrap64 (x23 + 1)) x24 (wrap64 (x26 + ((rd_T48 x21 x23).f1))) (mx x27 ((rd_T48 x21 x23).f2)) x121 x122 x123 x289000 x289001 x289002 x289003) else (if x26 = x289001 then (if x27 = x289002 then (stanzalaw10_CellsFiner.l2 k x20 x21 x22 x23 x121 x122 (wrap64 (x123 + 1))) else (some false)) else (some false))) else (none)) else (none)) else (none)) else (none)) else (if x26 = x289001 then (if x27 = x289002 then (stanzalaw10_CellsFiner.l2 k x20 x21 x22 x23 x121 x122 (wrap64 (x123 + 1))) else (some false)) else (some false))
end
def stanzalaw10_CellsFiner.f (k : Nat) (l0 : List Int) (l1 : List Int) (l2 : List Int) (l3 : List Int) : Option (Bool) := (stanzalaw10_Awake.f k).bind fun t244 => (if t244 = true then (if (l0.length : Int) > 300 then (some true) else (stanzalaw10_CellsFiner.l0 k l0 l1 l2 ([] : List (S45)) l3 (l3.length : Int) 0)) else (some false))
theorem stanzalaw10_CellsFiner.mono_l : ∀ k, (∀ y0 y1 y2 y3 y4 y5 y6, LeO (stanzalaw10_CellsFiner.l0 k y0 y1 y2 y3 y4 y5 y6) (stanzalaw10_CellsFiner.l0 (k + 1) y0 y1 y2 y3 y4 y5 y6)) ∧ (∀ y0 y1 y2 y3 y4 y5 y6, LeO (stanzalaw10_CellsFiner.l1 k y0 y1 y2 y3 y4 y5 y6) (stanzalaw10_CellsFiner.l1 (k + 1) y0 y1 y2 y3 y4 y5 y6)) ∧ (∀ y0 y1 y2 y3 y4 y5 y6, LeO (stanzalaw10_CellsFiner.l2 k y0 y1 y2 y3 y4 y5 y6) (stanzalaw10_CellsFiner.l2 (k + 1) y0 y1 y2 y3 y4 y5 y6)) ∧ (∀ y0 y1 y2 y3 y4 y5 y6 y7 y8 y9 y10 y11 y12 y13, LeO (stanzalaw10_CellsFiner.l3 k y0 y1 y2 y3 y4 y5 y6 y7 y8 y9 y10 y11 y12 y13) (stanzalaw10_CellsFiner.l3 (k + 1) y0 y1 y2 y3 y4 y5 y6 y7 y8 y9 y10 y11 y12 y13))
 | 0 => ⟨fun _ _ _ _ _ _ _ r h => by simp [stanzalaw10_CellsFiner.l0] at h, fun _ _ _ _ _ _ _ r h => by simp [stanzalaw10_CellsFiner.l1] at h, fun _ _ _ _ _ _ _ r h => by simp [stanzalaw10_CellsFiner.l2] at h, fun _ _ _ _ _ _ _ _ _ _ _ _ _ _ r h => by simp [stanzalaw10_CellsFiner.l3] at h⟩
 | k + 1 => by
  obtain ⟨ih0, ih1, ih2, ih3⟩ := stanzalaw10_CellsFiner.mono_l k; refine ⟨?_, ?_, ?_, ?_⟩
  ·intro y0 y1 y2 y3 y4 y5 y6
   unfold stanzalaw10_CellsFiner.l0
   repeat' (with_reducible first | exact ih0 _ _ _ _ _ _ _ | exact ih1 _ _ _ _ _ _ _ | exact ih2 _ _ _ _ _ _ _ | exact ih3 _ _ _ _ _ _ _ _ _ _ _ _ _ _ | exact cells_Make.mono _ _ _ _ | exact h3_Opps.mono _ _ | exact h3_Words.mono _ _ | exact stanzalaw10_Awake.mono _ | exact stanzaref01_All.mono _ _ | exact LeO.refl _ | exact LeO.none _ | refine LeO.ite ?_ ?_ | refine LeO.bind ?_ (fun _ => ?_))
  ·intro y0 y1 y2 y3 y4 y5 y6
   unfold stanzalaw10_CellsFiner.l1
   repeat' (with_reducible first | exact ih0 _ _ _ _ _ _ _ | exact ih1 _ _ _ _ _ _ _ | exact ih2 _ _ _ _ _ _ _ | exact ih3 _ _ _ _ _ _ _ _ _ _ _ _ _ _ | exact cells_Make.mono _ _ _ _ | exact h3_Opps.mono _ _ | exact h3_Words.mono _ _ | exact stanzalaw10_Awake.mono _ | exact stanzaref01_All.mono _ _ | exact LeO.refl _ | exact LeO.none _ | refine LeO.ite ?_ ?_ | refine LeO.bind ?_ (fun _ => ?_))
  ·intro y0 y1 y2 y3 y4 y5 y6
   unfold stanzalaw10_CellsFiner.l2
   repeat' (with_reducible first | exact ih0 _ _ _ _ _ _ _ | exact ih1 _ _ _ _ _ _ _ | exact ih2 _ _ _ _ _ _ _ | exact ih3 _ _ _ _ _ _ _ _ _ _ _ _ _ _ | exact cells_Make.mono _ _ _ _ | exact h3_Opps.mono _ _ | exact h3_Words.mono _ _ | exact stanzalaw10_Awake.mono _ | exact stanzaref01_All.mono _ _ | exact LeO.refl _ | exact LeO.none _ | refine LeO.ite ?_ ?_ | refine LeO.bind ?_ (fun _ => ?_))
  ·intro y0 y1 y2 y3 y4 y5 y6 y7 y8 y9 y10 y11 y12 y13
   unfold stanzalaw10_CellsFiner.l3
   repeat' (with_reducible first | exact ih0 _ _ _ _ _ _ _ | exact ih1 _ _ _ _ _ _ _ | exact ih2 _ _ _ _ _ _ _ | exact ih3 _ _ _ _ _ _ _ _ _ _ _ _ _ _ | exact cells_Make.mono _ _ _ _ | exact h3_Opps.mono _ _ | exact h3_Words.mono _ _ | exact stanzalaw10_Awake.mono _ | exact stanzaref01_All.mono _ _ | exact LeO.refl _ | exact LeO.none _ | refine LeO.ite ?_ ?_ | refine LeO.bind ?_ (fun _ => ?_))
theorem stanzalaw10_CellsFiner.mono : ∀ a0 a1 a2 a3 k, LeO (stanzalaw10_CellsFiner.f k a0 a1 a2 a3) (stanzalaw10_CellsFiner.f (k + 1) a0 a1 a2 a3) := by
 intro a0 a1 a2 a3 k
 obtain ⟨ih0, ih1, ih2, ih3⟩ := stanzalaw10_CellsFiner.mono_l k; unfold stanzalaw10_CellsFiner.f
 repeat' (with_reducible first | exact ih0 _ _ _ _ _ _ _ | exact ih1 _ _ _ _ _ _ _ | exact ih2 _ _ _ _ _ _ _ | exact ih3 _ _ _ _ _ _ _ _ _ _ _ _ _ _ | exact cells_Make.mono _ _ _ _ | exact h3_Opps.mono _ _ | exact h3_Words.mono _ _ | exact stanzalaw10_Awake.mono _ | exact stanzaref01_All.mono _ _ | exact LeO.refl _ | exact LeO.none _ | refine LeO.ite ?_ ?_ | refine LeO.bind ?_ (fun _ => ?_))
set_option maxHeartbeats 8000000 in
set_option maxRecDepth 100000 in
theorem stanzalaw10_CellsFiner.calls (k : Nat) (A0 : Option Addr) (c0 : Nat) (l0 : List Int) (A1 : Option Addr) (c1 : Nat) (l1 : List Int) (A2 : Option Addr) (c2 : Nat) (l2 : List Int) (A3 : Option Addr) (c3 : Nat) (l3 : List Int) (r : Bool) (w : World) (hr0 : Kd.C (Kd.int .u8) w A0 l0.length l0) (hc0 : l0.length ≤ c0) (hr1 : Kd.C (Kd.int .u8) w A1 l1.length l1) (hc1 : l1.length ≤ c1) (hr2 : Kd.C (Kd.int .u8) w A2 l2.length l2) (hc2 : l2.length ≤ c2) (hr3 : Kd.C (Kd.int .u8) w A3 l3.length l3) (hc3 : l3.length ≤ c3) (h : stanzalaw10_CellsFiner.f k l0 l1 l2 l3 = some r) (hrt_ : zA (r = true)) :
  Calls Try.prog 5 #[.slice A0 l0.length c0, .slice A1 l1.length c1, .slice A2 l2.length c2, .slice A3 l3.length c3] w fun e w' => e = .returned (.bool r) ∧ Below w.heap.size w w' := by
 have hu45 := Try.underlying45; have hu48 := Try.underlying48; have HR0 := zA.mk hr0; have HC0 := zA.mk hc0; clear hr0 hc0; have HR1 := zA.mk hr1; have HC1 := zA.mk hc1; clear hr1 hc1; have HR2 := zA.mk hr2; have HC2 := zA.mk hc2; clear hr2 hc2; have HR3 := zA.mk hr3; have HC3 := zA.mk hc3; clear hr3 hc3; have HB := zA.mk (Below.refl w.heap.size w); have H : ((stanzalaw10_Awake.f k).bind fun t244 => (if t244 = true then (if (l0.length : Int) > 300 then (some true) else (stanzalaw10_CellsFiner.l0 k l0 l1 l2 ([] : List (S45)) l3 (l3.length : Int) 0)) else (some false))) = some r := h
 clear h; replace H := Option.bind_eq_some_iff.mp H; obtain ⟨t244, A50, H⟩ := H; replace H : (if t244 = true then (if (l0.length : Int) > 300 then (some true) else (stanzalaw10_CellsFiner.l0 k l0 l1 l2 ([] : List (S45)) l3 (l3.length : Int) 0)) else (some false)) = some r := H; have A5 := zA.mk A50; clear A50; by_cases c6 : t244 = true
 rotate_left
 ·replace c6 := Bool.eq_false_iff.mpr c6
  subst c6; have H1 : (some false) = some r := by rw [if_neg (show ¬ (false = true) by decide)] at H; exact H
  clear H; have H := H1; clear H1; exact absurd ((Option.some.inj H).trans hrt_.out) (by decide)
 subst c6; have H1 : (if (l0.length : Int) > 300 then (some true) else (stanzalaw10_CellsFiner.l0 k l0 l1 l2 ([] : List (S45)) l3 (l3.length : Int) 0)) = some r := by rw [if_pos rfl] at H; exact H
 clear H; have H := H1; clear H1; by_cases c7 : (l0.length : Int) > 300
 ·rw [if_pos c7] at H
  have c7b0 : decide (300 < (l0.length : Int)) = true := decide_eq_true c7
  have c7b1 : decide (300 < l0.length) = true := decide_eq_true (by omega)
  clear c7; obtain rfl := Option.some.inj H
  go_enter Try.func5, Try.ntmps5
  go_wp2_with (first | (go_at_call 12; (with_reducible refine (stanzalaw10_Awake.calls k  true _ A5.out (by first | exact ⟨rfl⟩ | exact hrt_)).mono ?_); rintro e w8 ⟨rfl, hb⟩; have n0_ := zA.mk (below_step (aL HB) hb); clear HB; have HB := n0_; clear n0_; (try clear hb); (try clear hb2); (try clear hk); (try clear hi)))
  repeat (go_quiet (first | (go_at_call 12; (with_reducible refine (stanzalaw10_Awake.calls k  true _ A5.out (by first | exact ⟨rfl⟩ | exact hrt_)).mono ?_); rintro e w8 ⟨rfl, hb⟩; have n0_ := zA.mk (below_step (aL HB) hb); clear HB; have HB := n0_; clear n0_; (try clear hb); (try clear hb2); (try clear hk); (try clear hi))); try go_wp2_with (first | (go_at_call 12; (with_reducible refine (stanzalaw10_Awake.calls k  true _ A5.out (by first | exact ⟨rfl⟩ | exact hrt_)).mono ?_); rintro e w8 ⟨rfl, hb⟩; have n0_ := zA.mk (below_step (aL HB) hb); clear HB; have HB := n0_; clear n0_; (try clear hb); (try clear hb2); (try clear hk); (try clear hi))))
  go_ret
  exact ⟨aX, aL HB⟩
 rw [if_neg c7] at H; have c7b0 : decide (300 < (l0.length : Int)) = false := decide_eq_false c7
 have c7b1 : decide (300 < l0.length) = false := decide_eq_false (by omega)
 clear c7; have H' := zA.mk H
 clear H; go_enter Try.func5, Try.ntmps5
 go_wp2_with (first | (go_at_call 12; (with_reducible refine (stanzalaw10_Awake.calls k  true _ A5.out (by first | exact ⟨rfl⟩ | exact hrt_)).mono ?_); rintro e w9 ⟨rfl, hb⟩; have n0_ := zA.mk (below_step (aL HB) hb); clear HB; have HB := n0_; clear n0_; (try clear hb); (try clear hb2); (try clear hk); (try clear hi)))
 repeat (go_quiet (first | (go_at_call 12; (with_reducible refine (stanzalaw10_Awake.calls k  true _ A5.out (by first | exact ⟨rfl⟩ | exact hrt_)).mono ?_); rintro e w9 ⟨rfl, hb⟩; have n0_ := zA.mk (below_step (aL HB) hb); clear HB; have HB := n0_; clear n0_; (try clear hb); (try clear hb2); (try clear hk); (try clear hi))); try go_wp2_with (first | (go_at_call 12; (with_reducible refine (stanzalaw10_Awake.calls k  true _ A5.out (by first | exact ⟨rfl⟩ | exact hrt_)).mono ?_); rintro e w9 ⟨rfl, hb⟩; have n0_ := zA.mk (below_step (aL HB) hb); clear HB; have HB := n0_; clear n0_; (try clear hb); (try clear hb2); (try clear hk); (try clear hi))))
 go_loopg [9, 35] k (fun kq v9 v35 w' => ∃ (x9_1 : List (S45)) (x35_1 : Int), v35 = .int .i64 x35_1 ∧ zA (stanzalaw10_CellsFiner.l0 kq l0 l1 l2 x9_1 l3 (l3.length : Int) x35_1 = some r) ∧ zA (kq ≤ k) ∧ zA (Kd.R k45 45 w' w.heap.size (fun _ => True) v9 x9_1) ∧ zA (Below w.heap.size w w'))
 case atStart => exact ⟨(([] : List (S45))), (0), aZ, H', ⟨Nat.le_refl _⟩, ⟨by first | exact Kd.R_nil _ _ _ _ _ | exact Kd.N_nil _ _ _ _ _ | exact Kd.V_nil _ _ _ _ _ | exact Kd.Q_nil _ _ _ _ _ | exact Kd.S_nil _ _ _ _ _⟩, ⟨aL HB⟩⟩
 clear H'; try clear c1
 try clear c2
 try clear p2
 try clear c3
 try clear c5
 try clear c6
 try clear c7
 try clear c7b0
 try clear c7b1
 obtain ⟨x9_1, x35_1, rfl, HA, HK1, HO_9, HB⟩ := hrel; cases gk with
 | zero => exact absurd HA.out (by simp [stanzalaw10_CellsFiner.l0])
 | succ k1 =>
  have H := HA.out; clear HA; simp only [stanzalaw10_CellsFiner.l0] at H; by_cases c10 : x35_1 < (l3.length : Int)
  ·rw [if_pos c10] at H
   have c10b0 : decide (x35_1 < (l3.length : Int)) = true := decide_eq_true c10
   clear c10; by_cases c11 : 0 ≤ x35_1
   rotate_left
   ·rw [if_neg c11] at H
    exact absurd H (by simp)
   rw [if_pos c11] at H; have c11b0 : decide (0 ≤ x35_1) = true := decide_eq_true c11
   clear c11; by_cases c12 : x35_1 < (l3.length : Int)
   rotate_left
   ·rw [if_neg c12] at H
    exact absurd H (by simp)
   rw [if_pos c12] at H; have c12b0 : decide (x35_1 < (l3.length : Int)) = true := decide_eq_true c12
   clear c12; by_cases c13 : x35_1 < 200
   rotate_left
   ·rw [if_neg c13] at H
    have c13b0 : decide (x35_1 < 200) = false := decide_eq_false c13
    clear c13; have H' := zA.mk H
    clear H; have p245 : 0 ≤ (x35_1 : Int) := aD
    have q245 : x35_1 < (l3.length : Int) := aD
    obtain ⟨ad245, e245, hx245_0⟩ := Kd.at_int HR3.out x35_1 p245 q245; cases e245
    replace hx245_0 := (HB.out.cell (World.block_lt_of_cell? w _ hx245_0)).trans hx245_0; replace p245 := eq_true p245; replace q245 := eq_true q245; go_wp2
    repeat (go_quiet (fail); try go_wp2)
    go_roundg k1
    case measure => have := HK1.out; omega
    case rel => exact ⟨(x9_1), (wrap64 (x35_1 + 1)), aZ, H', ⟨by have := HK1.out; omega⟩, ⟨aR HO_9⟩, ⟨aL HB⟩⟩
   rw [if_pos c13] at H; have c13b0 : decide (x35_1 < 200) = true := decide_eq_true c13
   clear c13; by_cases c14 : x9_1.length < 8796093022208
   rotate_left
   ·rw [if_neg c14] at H
    exact absurd H (by simp)
   rw [if_pos c14] at H; have LMc14 := zA.mk c14; clear c14; obtain ⟨y246, hy246⟩ : ∃ y_ : List (S45), y_ = (x9_1 ++ [(⟨wrap32 (x35_1), wrap32 (x35_1), wrap64 (Int.tmod (rd l3 x35_1) 3)⟩ : S45)]) := ⟨_, rfl⟩; replace H : (stanzalaw10_CellsFiner.l0 k1 l0 l1 l2 y246 l3 (l3.length : Int) (wrap64 (x35_1 + 1))) = some r := by first | (rw [hy246]; with_reducible exact H) | (have H2_ := (Option.bind_some _ _).symm.trans H; rw [hy246]; with_reducible exact H2_) | (have H2_ := (Option.bind_some _ _).symm.trans H; with_reducible exact H2_) | with_reducible exact H | (rw [hy246]; exact H) | exact H
   have Ny246 := zA.mk hy246; clear hy246; have H' := zA.mk H
   clear H; have p245 : 0 ≤ (x35_1 : Int) := aD
   have q245 : x35_1 < (l3.length : Int) := aD
   obtain ⟨ad245, e245, hx245_0⟩ := Kd.at_int HR3.out x35_1 p245 q245; cases e245
   replace hx245_0 := (HB.out.cell (World.block_lt_of_cell? w _ hx245_0)).trans hx245_0; replace p245 := eq_true p245; replace q245 := eq_true q245; go_wp2_with (first | ((with_reducible refine gate_builtin (b := .append) (xs := #[.tmp 42, .tmp 51]) rfl ?_); at_builtin; refine Kd.R_append k45 (w0 := w) w.heap.size rfl (.tmp 42) (.tmp 51) 23 45 (.agg #[(.int .i32 0), (.int .i32 0), (.int .i64 0)]) 16 rfl Try.underlying23 info45 rfl (by decide) (by omega) u9 x9_1 (⟨wrap32 (x35_1), wrap32 (x35_1), wrap64 (Int.tmod (rd l3 x35_1) 3)⟩ : S45) [.int .i32 (wrap32 (x35_1)), .int .i32 (wrap32 (x35_1)), .int .i64 (wrap64 (Int.tmod (rd l3 x35_1) 3))] (fun _ => True) (fun _ => False) rfl rfl ?aP (fun _ hk => hk.elim) ?aF ?aO ?aB ?aS ?aL ?_; (case aP => exact k45_mkM _ _ _ (⟨wrap32 (x35_1), wrap32 (x35_1), wrap64 (Int.tmod (rd l3 x35_1) 3)⟩ : S45)); (case aB => exact (aL HB)); (case aF => exact (fun _ _ => trivial)); (case aO => exact (aR HO_9)); (case aS => exact (below_size (aL HB))); (case aL => have := LMc14.out; omega); intro v247 w15 ho hb hg hat; rw [← Ny246.out] at ho; have n0_ := zA.mk (hb); have n1_ := zA.mk (ho); clear HB; clear HO_9; have HB := n0_; have HO248 := n1_; clear n0_ n1_; clear ho hb hg hat))
   repeat (go_quiet (first | ((with_reducible refine gate_builtin (b := .append) (xs := #[.tmp 42, .tmp 51]) rfl ?_); at_builtin; refine Kd.R_append k45 (w0 := w) w.heap.size rfl (.tmp 42) (.tmp 51) 23 45 (.agg #[(.int .i32 0), (.int .i32 0), (.int .i64 0)]) 16 rfl Try.underlying23 info45 rfl (by decide) (by omega) u9 x9_1 (⟨wrap32 (x35_1), wrap32 (x35_1), wrap64 (Int.tmod (rd l3 x35_1) 3)⟩ : S45) [.int .i32 (wrap32 (x35_1)), .int .i32 (wrap32 (x35_1)), .int .i64 (wrap64 (Int.tmod (rd l3 x35_1) 3))] (fun _ => True) (fun _ => False) rfl rfl ?aP (fun _ hk => hk.elim) ?aF ?aO ?aB ?aS ?aL ?_; (case aP => exact k45_mkM _ _ _ (⟨wrap32 (x35_1), wrap32 (x35_1), wrap64 (Int.tmod (rd l3 x35_1) 3)⟩ : S45)); (case aB => exact (aL HB)); (case aF => exact (fun _ _ => trivial)); (case aO => exact (aR HO_9)); (case aS => exact (below_size (aL HB))); (case aL => have := LMc14.out; omega); intro v247 w15 ho hb hg hat; rw [← Ny246.out] at ho; have n0_ := zA.mk (hb); have n1_ := zA.mk (ho); clear HB; clear HO_9; have HB := n0_; have HO248 := n1_; clear n0_ n1_; clear ho hb hg hat)); try go_wp2_with (first | ((with_reducible refine gate_builtin (b := .append) (xs := #[.tmp 42, .tmp 51]) rfl ?_); at_builtin; refine Kd.R_append k45 (w0 := w) w.heap.size rfl (.tmp 42) (.tmp 51) 23 45 (.agg #[(.int .i32 0), (.int .i32 0), (.int .i64 0)]) 16 rfl Try.underlying23 info45 rfl (by decide) (by omega) u9 x9_1 (⟨wrap32 (x35_1), wrap32 (x35_1), wrap64 (Int.tmod (rd l3 x35_1) 3)⟩ : S45) [.int .i32 (wrap32 (x35_1)), .int .i32 (wrap32 (x35_1)), .int .i64 (wrap64 (Int.tmod (rd l3 x35_1) 3))] (fun _ => True) (fun _ => False) rfl rfl ?aP (fun _ hk => hk.elim) ?aF ?aO ?aB ?aS ?aL ?_; (case aP => exact k45_mkM _ _ _ (⟨wrap32 (x35_1), wrap32 (x35_1), wrap64 (Int.tmod (rd l3 x35_1) 3)⟩ : S45)); (case aB => exact (aL HB)); (case aF => exact (fun _ _ => trivial)); (case aO => exact (aR HO_9)); (case aS => exact (below_size (aL HB))); (case aL => have := LMc14.out; omega); intro v247 w15 ho hb hg hat; rw [← Ny246.out] at ho; have n0_ := zA.mk (hb); have n1_ := zA.mk (ho); clear HB; clear HO_9; have HB := n0_; have HO248 := n1_; clear n0_ n1_; clear ho hb hg hat)))
   go_roundg k1
   case measure => have := HK1.out; omega
   case rel => exact ⟨(y246), (wrap64 (x35_1 + 1)), aZ, H', ⟨by have := HK1.out; omega⟩, ⟨aR HO248⟩, ⟨aL HB⟩⟩
  rw [if_neg c10] at H; have c10b0 : decide (x35_1 < (l3.length : Int)) = false := decide_eq_false c10
  clear c10; by_cases c16 : prop_Make.c x9_1 3 = true
  rotate_left
  ·rw [if_neg c16] at H
   have c16b0 : prop_Make.c x9_1 3 = false := by simpa using c16
   clear c16; replace H := Option.bind_eq_some_iff.mp H; obtain ⟨_, A1110, H⟩ := H; replace H : (some false) = some r := H; have A111 := zA.mk A1110; clear A1110; exact absurd ((Option.some.inj H).trans hrt_.out) (by decide)
  rw [if_pos c16] at H; have c16b0 : prop_Make.c x9_1 3 = true := c16
  clear c16; replace H := Option.bind_eq_some_iff.mp H; obtain ⟨t251, A170, H⟩ := H; replace H : ((h3_Words.f k1 l0).bind fun t252 => ((stanzaref01_All.f k1 t252).bind fun t255 => ((h3_Opps.f k1 l1).bind fun t258 => ((h3_Opps.f k1 l2).bind fun t261 => (if 0 ≤ (wrap64 ((t255.length : Int) + 1)) then (if (wrap64 ((t255.length : Int) + 1) : Int).toNat ≤ 281474976710656 then ((some (List.replicate (wrap64 ((t255.length : Int) + 1) : Int).toNat 0 : List Int)).bind fun y264 => (stanzalaw10_CellsFiner.l1 k1 t251 t255 t258 t261 y264 (y264.length : Int) 0)) else (none)) else (none)))))) = some r := H
  have A17 := zA.mk A170; clear A170; replace H := Option.bind_eq_some_iff.mp H; obtain ⟨t252, A180, H⟩ := H; replace H : ((stanzaref01_All.f k1 t252).bind fun t255 => ((h3_Opps.f k1 l1).bind fun t258 => ((h3_Opps.f k1 l2).bind fun t261 => (if 0 ≤ (wrap64 ((t255.length : Int) + 1)) then (if (wrap64 ((t255.length : Int) + 1) : Int).toNat ≤ 281474976710656 then ((some (List.replicate (wrap64 ((t255.length : Int) + 1) : Int).toNat 0 : List Int)).bind fun y264 => (stanzalaw10_CellsFiner.l1 k1 t251 t255 t258 t261 y264 (y264.length : Int) 0)) else (none)) else (none))))) = some r := H
  have A18 := zA.mk A180; clear A180; replace H := Option.bind_eq_some_iff.mp H; obtain ⟨t255, A190, H⟩ := H; replace H : ((h3_Opps.f k1 l1).bind fun t258 => ((h3_Opps.f k1 l2).bind fun t261 => (if 0 ≤ (wrap64 ((t255.length : Int) + 1)) then (if (wrap64 ((t255.length : Int) + 1) : Int).toNat ≤ 281474976710656 then ((some (List.replicate (wrap64 ((t255.length : Int) + 1) : Int).toNat 0 : List Int)).bind fun y264 => (stanzalaw10_CellsFiner.l1 k1 t251 t255 t258 t261 y264 (y264.length : Int) 0)) else (none)) else (none)))) = some r := H
  have A19 := zA.mk A190; clear A190; replace H := Option.bind_eq_some_iff.mp H; obtain ⟨t258, A200, H⟩ := H; replace H : ((h3_Opps.f k1 l2).bind fun t261 => (if 0 ≤ (wrap64 ((t255.length : Int) + 1)) then (if (wrap64 ((t255.length : Int) + 1) : Int).toNat ≤ 281474976710656 then ((some (List.replicate (wrap64 ((t255.length : Int) + 1) : Int).toNat 0 : List Int)).bind fun y264 => (stanzalaw10_CellsFiner.l1 k1 t251 t255 t258 t261 y264 (y264.length : Int) 0)) else (none)) else (none))) = some r := H
  have A20 := zA.mk A200; clear A200; replace H := Option.bind_eq_some_iff.mp H; obtain ⟨t261, A210, H⟩ := H; replace H : (if 0 ≤ (wrap64 ((t255.length : Int) + 1)) then (if (wrap64 ((t255.length : Int) + 1) : Int).toNat ≤ 281474976710656 then ((some (List.replicate (wrap64 ((t255.length : Int) + 1) : Int).toNat 0 : List Int)).bind fun y264 => (stanzalaw10_CellsFiner.l1 k1 t251 t255 t258 t261 y264 (y264.length : Int) 0)) else (none)) else (none)) = some r := H
  have A21 := zA.mk A210; clear A210; obtain ⟨ji22, hji22⟩ : ∃ j_ : Int, (wrap64 ((t255.length : Int) + 1)) = j_ := ⟨_, rfl⟩; replace H : (if 0 ≤ (ji22) then (if (ji22 : Int).toNat ≤ 281474976710656 then ((some (List.replicate (ji22 : Int).toNat 0 : List Int)).bind fun y264 => (stanzalaw10_CellsFiner.l1 k1 t251 t255 t258 t261 y264 (y264.length : Int) 0)) else (none)) else (none)) = some r := by first | (rw [hji22] at H; exact H) | (simp only [hji22] at H ⊢; exact H)
  (try rw [hji22] at A17)
  (try rw [hji22] at A18)
  (try rw [hji22] at A19)
  (try rw [hji22] at A20)
  (try rw [hji22] at A21)
  have hji22w : (IntKind.i64.wrap ((t255.length : Int) + 1)) = ji22 := (i64_w _).trans hji22
  by_cases c23 : 0 ≤ (ji22)
  rotate_left
  ·rw [if_neg c23] at H
   exact absurd H (by simp)
  rw [if_pos c23] at H; have c23b0 := eq_true c23; have c23b1 : decide (0 ≤ (ji22)) = true := decide_eq_true c23
  clear c23; by_cases c24 : (ji22 : Int).toNat ≤ 281474976710656
  rotate_left
  ·rw [if_neg c24] at H
   exact absurd H (by simp)
  rw [if_pos c24] at H; have c24b0 := eq_true c24; have c24b1 : decide ((ji22 : Int).toNat ≤ 281474976710656) = true := decide_eq_true c24
  clear c24; obtain ⟨y264, hy264⟩ : ∃ y_ : List Int, y_ = (List.replicate (ji22 : Int).toNat 0) := ⟨_, rfl⟩; replace H : (stanzalaw10_CellsFiner.l1 k1 t251 t255 t258 t261 y264 (y264.length : Int) 0) = some r := by first | (rw [hy264]; with_reducible exact H) | (have H2_ := (Option.bind_some _ _).symm.trans H; rw [hy264]; with_reducible exact H2_) | (have H2_ := (Option.bind_some _ _).symm.trans H; with_reducible exact H2_) | with_reducible exact H | (rw [hy264]; exact H) | exact H
  have Ny264 := zA.mk hy264; clear hy264; have H' := zA.mk H
  clear H; obtain ⟨Ao25, co25, eo25⟩ := Kd.zN HO_9.out; subst eo25; go_wp2_with (first | (go_at_call 14; (with_reducible refine (prop_MakeY.calls _ _ x9_1 3 t251 _ ?side1 ?side2 A17.out).mono ?_); (case side1 => exact aF HO_9); (case side2 => exact (Kd.zK HO_9.out).2.1); rintro e w26 ⟨gb250, ob250, gb251, ob251, rfl, hx1, hx2, hg1, hg2, hne, htb, hb⟩; have n0_ := zA.mk (Kd.zL (Kd.R_elderB (Kd.R_elderB (aR HO_9) gb250 hg1) gb251 hg2) hb); have n1_ := zA.mk (below_step (aL HB) hb); have n2_ := zA.mk (hx1); have n3_ := zA.mk ((Nat.le_trans (below_size (aL HB)) hg1 : w.heap.size ≤ gb250)); have n4_ := zA.mk ((Nat.le_trans (below_size (aL HB)) hg1 : w.heap.size ≤ gb250)); have n5_ := zA.mk (hne); have n6_ := zA.mk (hx2); have n7_ := zA.mk ((Nat.le_trans (below_size (aL HB)) hg2 : w.heap.size ≤ gb251)); have n8_ := zA.mk ((Nat.le_trans (below_size (aL HB)) hg2 : w.heap.size ≤ gb251)); have n9_ := zA.mk (Ne.symm hne); have n10_ := zA.mk (htb); clear HO_9; clear HB; have HO_9 := n0_; have HB := n1_; have BK250 := n2_; have GW250 := n3_; have GE250 := n4_; have NB250_251 := n5_; have BK251 := n6_; have GW251 := n7_; have GE251 := n8_; have NB251_250 := n9_; have HTt251 := n10_; clear n0_ n1_ n2_ n3_ n4_ n5_ n6_ n7_ n8_ n9_ n10_; clear hb hx1 hx2 hg1 hg2 hne htb) | (go_at_call 15; (with_reducible refine (h3_Words.calls k1 _ _ l0 t252 _ ?side1 ?side2 A18.out).mono ?_); (case side1 => exact aA HR0 HB); (case side2 => exact HC0.out); rintro e w27 ⟨v253, rfl, ho0, hb⟩; have n0_ := zA.mk (Kd.zL (aR HO_9) hb); have n1_ := zA.mk (Kd.zO (Kd.R_newB (Kd.R_newB ho0 (g := gb250) (o := ob250) (aB BK250)) (g := gb251) (o := ob251) (aB BK251)) (below_size (aL HB))); have n2_ := zA.mk (blk_below (g := gb250) (o := ob250) (aB BK250) hb); have n3_ := zA.mk (blk_below (g := gb251) (o := ob251) (aB BK251) hb); have n4_ := zA.mk (below_step (aL HB) hb); clear HO_9; clear BK250; clear BK251; clear HB; have HO_9 := n0_; have HO254 := n1_; have BK250 := n2_; have BK251 := n3_; have HB := n4_; clear n0_ n1_ n2_ n3_ n4_; (try clear hb); (try clear hb2); (try clear hk); (try clear hi); (try clear ho0); obtain ⟨Ao28, co28, eo28⟩ := Kd.zN HO254.out; subst eo28) | (go_at_call 16; (with_reducible refine (stanzaref01_All.calls k1 _ _ t252 t255 _ ?side1 ?side2 A19.out).mono ?_); (case side1 => exact aF HO254); (case side2 => exact (Kd.zK HO254.out).2.1); rintro e w29 ⟨v256, rfl, ho0, hb⟩; have n0_ := zA.mk (Kd.zL (aR HO_9) hb); have n1_ := zA.mk (Kd.zL (aR HO254) hb); have n2_ := zA.mk (Kd.zO (Kd.R_newB (Kd.R_newB ho0 (g := gb250) (o := ob250) (aB BK250)) (g := gb251) (o := ob251) (aB BK251)) (below_size (aL HB))); have n3_ := zA.mk (blk_below (g := gb250) (o := ob250) (aB BK250) hb); have n4_ := zA.mk (blk_below (g := gb251) (o := ob251) (aB BK251) hb); have n5_ := zA.mk (below_step (aL HB) hb); clear HO_9; clear HO254; clear BK250; clear BK251; clear HB; have HO_9 := n0_; have HO254 := n1_; have HO257 := n2_; have BK250 := n3_; have BK251 := n4_; have HB := n5_; clear n0_ n1_ n2_ n3_ n4_ n5_; (try clear hb); (try clear hb2); (try clear hk); (try clear hi); (try clear ho0)) | (go_at_call 18; (with_reducible refine (h3_Opps.calls k1 _ _ l1 t258 _ ?side1 ?side2 A20.out).mono ?_); (case side1 => exact aA HR1 HB); (case side2 => exact HC1.out); rintro e w30 ⟨v259, rfl, ho0, hb⟩; have n0_ := zA.mk (Kd.zL (aR HO_9) hb); have n1_ := zA.mk (Kd.zL (aR HO254) hb); have n2_ := zA.mk (Kd.zL (aR HO257) hb); have n3_ := zA.mk (Kd.zO (Kd.R_newB (Kd.R_newB ho0 (g := gb250) (o := ob250) (aB BK250)) (g := gb251) (o := ob251) (aB BK251)) (below_size (aL HB))); have n4_ := zA.mk (blk_below (g := gb250) (o := ob250) (aB BK250) hb); have n5_ := zA.mk (blk_below (g := gb251) (o := ob251) (aB BK251) hb); have n6_ := zA.mk (below_step (aL HB) hb); clear HO_9; clear HO254; clear HO257; clear BK250; clear BK251; clear HB; have HO_9 := n0_; have HO254 := n1_; have HO257 := n2_; have HO260 := n3_; have BK250 := n4_; have BK251 := n5_; have HB := n6_; clear n0_ n1_ n2_ n3_ n4_ n5_ n6_; (try clear hb); (try clear hb2); (try clear hk); (try clear hi); (try clear ho0)) | (go_at_call 18; (with_reducible refine (h3_Opps.calls k1 _ _ l2 t261 _ ?side1 ?side2 A21.out).mono ?_); (case side1 => exact aA HR2 HB); (case side2 => exact HC2.out); rintro e w31 ⟨v262, rfl, ho0, hb⟩; have n0_ := zA.mk (Kd.zL (aR HO_9) hb); have n1_ := zA.mk (Kd.zL (aR HO254) hb); have n2_ := zA.mk (Kd.zL (aR HO257) hb); have n3_ := zA.mk (Kd.R_elder' (aR HO260) (Kd.R_base ho0) hb); have n4_ := zA.mk (Kd.zO (Kd.R_newB (Kd.R_newB (Kd.R_new' ho0 (Kd.R_lt (aR HO260))) (g := gb250) (o := ob250) (aB BK250)) (g := gb251) (o := ob251) (aB BK251)) (below_size (aL HB))); have n5_ := zA.mk (blk_below (g := gb250) (o := ob250) (aB BK250) hb); have n6_ := zA.mk (blk_below (g := gb251) (o := ob251) (aB BK251) hb); have n7_ := zA.mk (below_step (aL HB) hb); clear HO_9; clear HO254; clear HO257; clear HO260; clear BK250; clear BK251; clear HB; have HO_9 := n0_; have HO254 := n1_; have HO257 := n2_; have HO260 := n3_; have HO263 := n4_; have BK250 := n5_; have BK251 := n6_; have HB := n7_; clear n0_ n1_ n2_ n3_ n4_ n5_ n6_ n7_; (try clear hb); (try clear hb2); (try clear hk); (try clear hi); (try clear ho0); obtain ⟨Ao32, co32, eo32⟩ := Kd.zN HO257.out; subst eo32) | ((with_reducible refine gate_dst (N := 71) rfl ?_); refine Kd.R_make (Kd.int .u8) _ 53 rfl (N := 71) rfl 38 _ _ rfl ji22 rfl rfl Try.underlying38 (.int .u8 0) 1 info53 rfl (by decide) (by omega) 0 (ok := fun _ => True) (okp := fun _ => True) rfl (fun _ hk => hk) trivial (aD) (Nat.le_trans (Nat.mul_le_mul_right _ (aD : ji22.toNat ≤ 281474976710656)) (by omega)) (Below.refl _ _) (Nat.le_refl _) ?_; intro v265 w33 ho34 hb hg_ hnew_; clear hg_ hnew_; (first | rw [← Ny264.out] at ho34 | (simp only [Int.reduceToNat] at ho34; rw [← Ny264.out] at ho34)); have n0_ := zA.mk (Kd.zL (aR HO_9) hb); have n1_ := zA.mk (Kd.zL (aR HO254) hb); have n2_ := zA.mk (Kd.zL (aR HO257) hb); have n3_ := zA.mk (Kd.R_elder' (aR HO260) (Kd.R_base ho34) hb); have n4_ := zA.mk (Kd.R_elder' (aR HO263) (Kd.R_base ho34) hb); have n5_ := zA.mk (Kd.zO (Kd.R_newB (Kd.R_newB (Kd.R_new' (Kd.R_new' ho34 (Kd.R_lt (aR HO260))) (Kd.R_lt (aR HO263))) (g := gb250) (o := ob250) (aB BK250)) (g := gb251) (o := ob251) (aB BK251)) (below_size (aL HB))); have n6_ := zA.mk (blk_below (g := gb250) (o := ob250) (aB BK250) hb); have n7_ := zA.mk (blk_below (g := gb251) (o := ob251) (aB BK251) hb); have n8_ := zA.mk (below_step (aL HB) hb); clear HO_9; clear HO254; clear HO257; clear HO260; clear HO263; clear BK250; clear BK251; clear HB; have HO_9 := n0_; have HO254 := n1_; have HO257 := n2_; have HO260 := n3_; have HO263 := n4_; have HO266 := n5_; have BK250 := n6_; have BK251 := n7_; have HB := n8_; clear n0_ n1_ n2_ n3_ n4_ n5_ n6_ n7_ n8_; clear hb ho34; obtain ⟨Ao35, co35, eo35⟩ := Kd.zN HO266.out; subst eo35))
  repeat (go_quiet (first | (go_at_call 14; (with_reducible refine (prop_MakeY.calls _ _ x9_1 3 t251 _ ?side1 ?side2 A17.out).mono ?_); (case side1 => exact aF HO_9); (case side2 => exact (Kd.zK HO_9.out).2.1); rintro e w26 ⟨gb250, ob250, gb251, ob251, rfl, hx1, hx2, hg1, hg2, hne, htb, hb⟩; have n0_ := zA.mk (Kd.zL (Kd.R_elderB (Kd.R_elderB (aR HO_9) gb250 hg1) gb251 hg2) hb); have n1_ := zA.mk (below_step (aL HB) hb); have n2_ := zA.mk (hx1); have n3_ := zA.mk ((Nat.le_trans (below_size (aL HB)) hg1 : w.heap.size ≤ gb250)); have n4_ := zA.mk ((Nat.le_trans (below_size (aL HB)) hg1 : w.heap.size ≤ gb250)); have n5_ := zA.mk (hne); have n6_ := zA.mk (hx2); have n7_ := zA.mk ((Nat.le_trans (below_size (aL HB)) hg2 : w.heap.size ≤ gb251)); have n8_ := zA.mk ((Nat.le_trans (below_size (aL HB)) hg2 : w.heap.size ≤ gb251)); have n9_ := zA.mk (Ne.symm hne); have n10_ := zA.mk (htb); clear HO_9; clear HB; have HO_9 := n0_; have HB := n1_; have BK250 := n2_; have GW250 := n3_; have GE250 := n4_; have NB250_251 := n5_; have BK251 := n6_; have GW251 := n7_; have GE251 := n8_; have NB251_250 := n9_; have HTt251 := n10_; clear n0_ n1_ n2_ n3_ n4_ n5_ n6_ n7_ n8_ n9_ n10_; clear hb hx1 hx2 hg1 hg2 hne htb) | (go_at_call 15; (with_reducible refine (h3_Words.calls k1 _ _ l0 t252 _ ?side1 ?side2 A18.out).mono ?_); (case side1 => exact aA HR0 HB); (case side2 => exact HC0.out); rintro e w27 ⟨v253, rfl, ho0, hb⟩; have n0_ := zA.mk (Kd.zL (aR HO_9) hb); have n1_ := zA.mk (Kd.zO (Kd.R_newB (Kd.R_newB ho0 (g := gb250) (o := ob250) (aB BK250)) (g := gb251) (o := ob251) (aB BK251)) (below_size (aL HB))); have n2_ := zA.mk (blk_below (g := gb250) (o := ob250) (aB BK250) hb); have n3_ := zA.mk (blk_below (g := gb251) (o := ob251) (aB BK251) hb); have n4_ := zA.mk (below_step (aL HB) hb); clear HO_9; clear BK250; clear BK251; clear HB; have HO_9 := n0_; have HO254 := n1_; have BK250 := n2_; have BK251 := n3_; have HB := n4_; clear n0_ n1_ n2_ n3_ n4_; (try clear hb); (try clear hb2); (try clear hk); (try clear hi); (try clear ho0); obtain ⟨Ao28, co28, eo28⟩ := Kd.zN HO254.out; subst eo28) | (go_at_call 16; (with_reducible refine (stanzaref01_All.calls k1 _ _ t252 t255 _ ?side1 ?side2 A19.out).mono ?_); (case side1 => exact aF HO254); (case side2 => exact (Kd.zK HO254.out).2.1); rintro e w29 ⟨v256, rfl, ho0, hb⟩; have n0_ := zA.mk (Kd.zL (aR HO_9) hb); have n1_ := zA.mk (Kd.zL (aR HO254) hb); have n2_ := zA.mk (Kd.zO (Kd.R_newB (Kd.R_newB ho0 (g := gb250) (o := ob250) (aB BK250)) (g := gb251) (o := ob251) (aB BK251)) (below_size (aL HB))); have n3_ := zA.mk (blk_below (g := gb250) (o := ob250) (aB BK250) hb); have n4_ := zA.mk (blk_below (g := gb251) (o := ob251) (aB BK251) hb); have n5_ := zA.mk (below_step (aL HB) hb); clear HO_9; clear HO254; clear BK250; clear BK251; clear HB; have HO_9 := n0_; have HO254 := n1_; have HO257 := n2_; have BK250 := n3_; have BK251 := n4_; have HB := n5_; clear n0_ n1_ n2_ n3_ n4_ n5_; (try clear hb); (try clear hb2); (try clear hk); (try clear hi); (try clear ho0)) | (go_at_call 18; (with_reducible refine (h3_Opps.calls k1 _ _ l1 t258 _ ?side1 ?side2 A20.out).mono ?_); (case side1 => exact aA HR1 HB); (case side2 => exact HC1.out); rintro e w30 ⟨v259, rfl, ho0, hb⟩; have n0_ := zA.mk (Kd.zL (aR HO_9) hb); have n1_ := zA.mk (Kd.zL (aR HO254) hb); have n2_ := zA.mk (Kd.zL (aR HO257) hb); have n3_ := zA.mk (Kd.zO (Kd.R_newB (Kd.R_newB ho0 (g := gb250) (o := ob250) (aB BK250)) (g := gb251) (o := ob251) (aB BK251)) (below_size (aL HB))); have n4_ := zA.mk (blk_below (g := gb250) (o := ob250) (aB BK250) hb); have n5_ := zA.mk (blk_below (g := gb251) (o := ob251) (aB BK251) hb); have n6_ := zA.mk (below_step (aL HB) hb); clear HO_9; clear HO254; clear HO257; clear BK250; clear BK251; clear HB; have HO_9 := n0_; have HO254 := n1_; have HO257 := n2_; have HO260 := n3_; have BK250 := n4_; have BK251 := n5_; have HB := n6_; clear n0_ n1_ n2_ n3_ n4_ n5_ n6_; (try clear hb); (try clear hb2); (try clear hk); (try clear hi); (try clear ho0)) | (go_at_call 18; (with_reducible refine (h3_Opps.calls k1 _ _ l2 t261 _ ?side1 ?side2 A21.out).mono ?_); (case side1 => exact aA HR2 HB); (case side2 => exact HC2.out); rintro e w31 ⟨v262, rfl, ho0, hb⟩; have n0_ := zA.mk (Kd.zL (aR HO_9) hb); have n1_ := zA.mk (Kd.zL (aR HO254) hb); have n2_ := zA.mk (Kd.zL (aR HO257) hb); have n3_ := zA.mk (Kd.R_elder' (aR HO260) (Kd.R_base ho0) hb); have n4_ := zA.mk (Kd.zO (Kd.R_newB (Kd.R_newB (Kd.R_new' ho0 (Kd.R_lt (aR HO260))) (g := gb250) (o := ob250) (aB BK250)) (g := gb251) (o := ob251) (aB BK251)) (below_size (aL HB))); have n5_ := zA.mk (blk_below (g := gb250) (o := ob250) (aB BK250) hb); have n6_ := zA.mk (blk_below (g := gb251) (o := ob251) (aB BK251) hb); have n7_ := zA.mk (below_step (aL HB) hb); clear HO_9; clear HO254; clear HO257; clear HO260; clear BK250; clear BK251; clear HB; have HO_9 := n0_; have HO254 := n1_; have HO257 := n2_; have HO260 := n3_; have HO263 := n4_; have BK250 := n5_; have BK251 := n6_; have HB := n7_; clear n0_ n1_ n2_ n3_ n4_ n5_ n6_ n7_; (try clear hb); (try clear hb2); (try clear hk); (try clear hi); (try clear ho0); obtain ⟨Ao32, co32, eo32⟩ := Kd.zN HO257.out; subst eo32) | ((with_reducible refine gate_dst (N := 71) rfl ?_); refine Kd.R_make (Kd.int .u8) _ 53 rfl (N := 71) rfl 38 _ _ rfl ji22 rfl rfl Try.underlying38 (.int .u8 0) 1 info53 rfl (by decide) (by omega) 0 (ok := fun _ => True) (okp := fun _ => True) rfl (fun _ hk => hk) trivial (aD) (Nat.le_trans (Nat.mul_le_mul_right _ (aD : ji22.toNat ≤ 281474976710656)) (by omega)) (Below.refl _ _) (Nat.le_refl _) ?_; intro v265 w33 ho34 hb hg_ hnew_; clear hg_ hnew_; (first | rw [← Ny264.out] at ho34 | (simp only [Int.reduceToNat] at ho34; rw [← Ny264.out] at ho34)); have n0_ := zA.mk (Kd.zL (aR HO_9) hb); have n1_ := zA.mk (Kd.zL (aR HO254) hb); have n2_ := zA.mk (Kd.zL (aR HO257) hb); have n3_ := zA.mk (Kd.R_elder' (aR HO260) (Kd.R_base ho34) hb); have n4_ := zA.mk (Kd.R_elder' (aR HO263) (Kd.R_base ho34) hb); have n5_ := zA.mk (Kd.zO (Kd.R_newB (Kd.R_newB (Kd.R_new' (Kd.R_new' ho34 (Kd.R_lt (aR HO260))) (Kd.R_lt (aR HO263))) (g := gb250) (o := ob250) (aB BK250)) (g := gb251) (o := ob251) (aB BK251)) (below_size (aL HB))); have n6_ := zA.mk (blk_below (g := gb250) (o := ob250) (aB BK250) hb); have n7_ := zA.mk (blk_below (g := gb251) (o := ob251) (aB BK251) hb); have n8_ := zA.mk (below_step (aL HB) hb); clear HO_9; clear HO254; clear HO257; clear HO260; clear HO263; clear BK250; clear BK251; clear HB; have HO_9 := n0_; have HO254 := n1_; have HO257 := n2_; have HO260 := n3_; have HO263 := n4_; have HO266 := n5_; have BK250 := n6_; have BK251 := n7_; have HB := n8_; clear n0_ n1_ n2_ n3_ n4_ n5_ n6_ n7_ n8_; clear hb ho34; obtain ⟨Ao35, co35, eo35⟩ := Kd.zN HO266.out; subst eo35)); try go_wp2_with (first | (go_at_call 14; (with_reducible refine (prop_MakeY.calls _ _ x9_1 3 t251 _ ?side1 ?side2 A17.out).mono ?_); (case side1 => exact aF HO_9); (case side2 => exact (Kd.zK HO_9.out).2.1); rintro e w26 ⟨gb250, ob250, gb251, ob251, rfl, hx1, hx2, hg1, hg2, hne, htb, hb⟩; have n0_ := zA.mk (Kd.zL (Kd.R_elderB (Kd.R_elderB (aR HO_9) gb250 hg1) gb251 hg2) hb); have n1_ := zA.mk (below_step (aL HB) hb); have n2_ := zA.mk (hx1); have n3_ := zA.mk ((Nat.le_trans (below_size (aL HB)) hg1 : w.heap.size ≤ gb250)); have n4_ := zA.mk ((Nat.le_trans (below_size (aL HB)) hg1 : w.heap.size ≤ gb250)); have n5_ := zA.mk (hne); have n6_ := zA.mk (hx2); have n7_ := zA.mk ((Nat.le_trans (below_size (aL HB)) hg2 : w.heap.size ≤ gb251)); have n8_ := zA.mk ((Nat.le_trans (below_size (aL HB)) hg2 : w.heap.size ≤ gb251)); have n9_ := zA.mk (Ne.symm hne); have n10_ := zA.mk (htb); clear HO_9; clear HB; have HO_9 := n0_; have HB := n1_; have BK250 := n2_; have GW250 := n3_; have GE250 := n4_; have NB250_251 := n5_; have BK251 := n6_; have GW251 := n7_; have GE251 := n8_; have NB251_250 := n9_; have HTt251 := n10_; clear n0_ n1_ n2_ n3_ n4_ n5_ n6_ n7_ n8_ n9_ n10_; clear hb hx1 hx2 hg1 hg2 hne htb) | (go_at_call 15; (with_reducible refine (h3_Words.calls k1 _ _ l0 t252 _ ?side1 ?side2 A18.out).mono ?_); (case side1 => exact aA HR0 HB); (case side2 => exact HC0.out); rintro e w27 ⟨v253, rfl, ho0, hb⟩; have n0_ := zA.mk (Kd.zL (aR HO_9) hb); have n1_ := zA.mk (Kd.zO (Kd.R_newB (Kd.R_newB ho0 (g := gb250) (o := ob250) (aB BK250)) (g := gb251) (o := ob251) (aB BK251)) (below_size (aL HB))); have n2_ := zA.mk (blk_below (g := gb250) (o := ob250) (aB BK250) hb); have n3_ := zA.mk (blk_below (g := gb251) (o := ob251) (aB BK251) hb); have n4_ := zA.mk (below_step (aL HB) hb); clear HO_9; clear BK250; clear BK251; clear HB; have HO_9 := n0_; have HO254 := n1_; have BK250 := n2_; have BK251 := n3_; have HB := n4_; clear n0_ n1_ n2_ n3_ n4_; (try clear hb); (try clear hb2); (try clear hk); (try clear hi); (try clear ho0); obtain ⟨Ao28, co28, eo28⟩ := Kd.zN HO254.out; subst eo28) | (go_at_call 16; (with_reducible refine (stanzaref01_All.calls k1 _ _ t252 t255 _ ?side1 ?side2 A19.out).mono ?_); (case side1 => exact aF HO254); (case side2 => exact (Kd.zK HO254.out).2.1); rintro e w29 ⟨v256, rfl, ho0, hb⟩; have n0_ := zA.mk (Kd.zL (aR HO_9) hb); have n1_ := zA.mk (Kd.zL (aR HO254) hb); have n2_ := zA.mk (Kd.zO (Kd.R_newB (Kd.R_newB ho0 (g := gb250) (o := ob250) (aB BK250)) (g := gb251) (o := ob251) (aB BK251)) (below_size (aL HB))); have n3_ := zA.mk (blk_below (g := gb250) (o := ob250) (aB BK250) hb); have n4_ := zA.mk (blk_below (g := gb251) (o := ob251) (aB BK251) hb); have n5_ := zA.mk (below_step (aL HB) hb); clear HO_9; clear HO254; clear BK250; clear BK251; clear HB; have HO_9 := n0_; have HO254 := n1_; have HO257 := n2_; have BK250 := n3_; have BK251 := n4_; have HB := n5_; clear n0_ n1_ n2_ n3_ n4_ n5_; (try clear hb); (try clear hb2); (try clear hk); (try clear hi); (try clear ho0)) | (go_at_call 18; (with_reducible refine (h3_Opps.calls k1 _ _ l1 t258 _ ?side1 ?side2 A20.out).mono ?_); (case side1 => exact aA HR1 HB); (case side2 => exact HC1.out); rintro e w30 ⟨v259, rfl, ho0, hb⟩; have n0_ := zA.mk (Kd.zL (aR HO_9) hb); have n1_ := zA.mk (Kd.zL (aR HO254) hb); have n2_ := zA.mk (Kd.zL (aR HO257) hb); have n3_ := zA.mk (Kd.zO (Kd.R_newB (Kd.R_newB ho0 (g := gb250) (o := ob250) (aB BK250)) (g := gb251) (o := ob251) (aB BK251)) (below_size (aL HB))); have n4_ := zA.mk (blk_below (g := gb250) (o := ob250) (aB BK250) hb); have n5_ := zA.mk (blk_below (g := gb251) (o := ob251) (aB BK251) hb); have n6_ := zA.mk (below_step (aL HB) hb); clear HO_9; clear HO254; clear HO257; clear BK250; clear BK251; clear HB; have HO_9 := n0_; have HO254 := n1_; have HO257 := n2_; have HO260 := n3_; have BK250 := n4_; have BK251 := n5_; have HB := n6_; clear n0_ n1_ n2_ n3_ n4_ n5_ n6_; (try clear hb); (try clear hb2); (try clear hk); (try clear hi); (try clear ho0)) | (go_at_call 18; (with_reducible refine (h3_Opps.calls k1 _ _ l2 t261 _ ?side1 ?side2 A21.out).mono ?_); (case side1 => exact aA HR2 HB); (case side2 => exact HC2.out); rintro e w31 ⟨v262, rfl, ho0, hb⟩; have n0_ := zA.mk (Kd.zL (aR HO_9) hb); have n1_ := zA.mk (Kd.zL (aR HO254) hb); have n2_ := zA.mk (Kd.zL (aR HO257) hb); have n3_ := zA.mk (Kd.R_elder' (aR HO260) (Kd.R_base ho0) hb); have n4_ := zA.mk (Kd.zO (Kd.R_newB (Kd.R_newB (Kd.R_new' ho0 (Kd.R_lt (aR HO260))) (g := gb250) (o := ob250) (aB BK250)) (g := gb251) (o := ob251) (aB BK251)) (below_size (aL HB))); have n5_ := zA.mk (blk_below (g := gb250) (o := ob250) (aB BK250) hb); have n6_ := zA.mk (blk_below (g := gb251) (o := ob251) (aB BK251) hb); have n7_ := zA.mk (below_step (aL HB) hb); clear HO_9; clear HO254; clear HO257; clear HO260; clear BK250; clear BK251; clear HB; have HO_9 := n0_; have HO254 := n1_; have HO257 := n2_; have HO260 := n3_; have HO263 := n4_; have BK250 := n5_; have BK251 := n6_; have HB := n7_; clear n0_ n1_ n2_ n3_ n4_ n5_ n6_ n7_; (try clear hb); (try clear hb2); (try clear hk); (try clear hi); (try clear ho0); obtain ⟨Ao32, co32, eo32⟩ := Kd.zN HO257.out; subst eo32) | ((with_reducible refine gate_dst (N := 71) rfl ?_); refine Kd.R_make (Kd.int .u8) _ 53 rfl (N := 71) rfl 38 _ _ rfl ji22 rfl rfl Try.underlying38 (.int .u8 0) 1 info53 rfl (by decide) (by omega) 0 (ok := fun _ => True) (okp := fun _ => True) rfl (fun _ hk => hk) trivial (aD) (Nat.le_trans (Nat.mul_le_mul_right _ (aD : ji22.toNat ≤ 281474976710656)) (by omega)) (Below.refl _ _) (Nat.le_refl _) ?_; intro v265 w33 ho34 hb hg_ hnew_; clear hg_ hnew_; (first | rw [← Ny264.out] at ho34 | (simp only [Int.reduceToNat] at ho34; rw [← Ny264.out] at ho34)); have n0_ := zA.mk (Kd.zL (aR HO_9) hb); have n1_ := zA.mk (Kd.zL (aR HO254) hb); have n2_ := zA.mk (Kd.zL (aR HO257) hb); have n3_ := zA.mk (Kd.R_elder' (aR HO260) (Kd.R_base ho34) hb); have n4_ := zA.mk (Kd.R_elder' (aR HO263) (Kd.R_base ho34) hb); have n5_ := zA.mk (Kd.zO (Kd.R_newB (Kd.R_newB (Kd.R_new' (Kd.R_new' ho34 (Kd.R_lt (aR HO260))) (Kd.R_lt (aR HO263))) (g := gb250) (o := ob250) (aB BK250)) (g := gb251) (o := ob251) (aB BK251)) (below_size (aL HB))); have n6_ := zA.mk (blk_below (g := gb250) (o := ob250) (aB BK250) hb); have n7_ := zA.mk (blk_below (g := gb251) (o := ob251) (aB BK251) hb); have n8_ := zA.mk (below_step (aL HB) hb); clear HO_9; clear HO254; clear HO257; clear HO260; clear HO263; clear BK250; clear BK251; clear HB; have HO_9 := n0_; have HO254 := n1_; have HO257 := n2_; have HO260 := n3_; have HO263 := n4_; have HO266 := n5_; have BK250 := n6_; have BK251 := n7_; have HB := n8_; clear n0_ n1_ n2_ n3_ n4_ n5_ n6_ n7_ n8_; clear hb ho34; obtain ⟨Ao35, co35, eo35⟩ := Kd.zN HO266.out; subst eo35)))
  (try simp only [hji22])
  go_loopg [74] k1 (fun kq v74 w' => ∃ (x17_2 : List Int) (x74_2 : Int), v74 = .int .i64 x74_2 ∧ zA (stanzalaw10_CellsFiner.l1 kq t251 t255 t258 t261 x17_2 (y264.length : Int) x74_2 = some r) ∧ zA (kq ≤ k1) ∧ zA (Kd.R k50 50 w' w.heap.size (fun k_ => k_ ≠ gb250 ∧ k_ ≠ gb251) (.slice Ao32 t255.length co32) t255) ∧ zA (Kd.R (Kd.int .u8) 53 w' w.heap.size (fun k_ => some k_ ≠ (v262 : Value).ownBlock ∧ some k_ ≠ ((.slice Ao35 y264.length co35) : Value).ownBlock ∧ k_ ≠ gb250 ∧ k_ ≠ gb251) v259 t258) ∧ zA (Kd.R (Kd.int .u8) 53 w' w.heap.size (fun k_ => some k_ ≠ (v259 : Value).ownBlock ∧ some k_ ≠ ((.slice Ao35 y264.length co35) : Value).ownBlock ∧ k_ ≠ gb250 ∧ k_ ≠ gb251) v262 t261) ∧ zA (Kd.R (Kd.int .u8) 53 w' w.heap.size (fun k_ => some k_ ≠ (v259 : Value).ownBlock ∧ some k_ ≠ (v262 : Value).ownBlock ∧ k_ ≠ gb250 ∧ k_ ≠ gb251) (.slice Ao35 y264.length co35) x17_2) ∧ zA (w'.heap[gb250]? = some ob250) ∧ zA (w'.heap[gb251]? = some ob251) ∧ zA (Below w.heap.size w w'))
  case atStart => exact ⟨(y264), (0), aZ, H', ⟨Nat.le_refl _⟩, ⟨by (with_reducible repeat (first | apply Kd.zD | apply Kd.zE | apply Kd.zF)); exact Kd.zP HO257.out (fun _ hk => ⟨hk.1.2, hk.2⟩)⟩, ⟨by (with_reducible repeat (first | apply Kd.zD | apply Kd.zE | apply Kd.zF)); exact Kd.zP HO260.out (fun _ hk => ⟨hk.1.2, ⟨hk.2, ⟨hk.1.1.1.2, hk.1.1.2⟩⟩⟩)⟩, ⟨by (with_reducible repeat (first | apply Kd.zD | apply Kd.zE | apply Kd.zF)); exact Kd.zP HO263.out (fun _ hk => ⟨hk.1.1.1.2, ⟨hk.2, ⟨hk.1.1.2, hk.1.2⟩⟩⟩)⟩, ⟨by (with_reducible repeat (first | apply Kd.zD | apply Kd.zE | apply Kd.zF)); exact Kd.zP HO266.out (fun _ hk => ⟨hk.1.1.1.2, ⟨hk.1.1.2, ⟨hk.1.2, hk.2⟩⟩⟩)⟩, ⟨aB BK250⟩, ⟨aB BK251⟩, ⟨aL HB⟩⟩
  clear H'; try clear c1
  try clear hx1
  try clear c2
  try clear p2
  try clear q2
  try clear hx2
  try clear c3
  try clear p3
  try clear c5
  try clear c6
  try clear p6
  try clear c7
  try clear c7b0
  try clear c7b1
  try clear c10
  try clear c10b0
  try clear c11
  try clear c11b0
  try clear c12
  try clear c12b0
  try clear c13
  try clear c13b0
  try clear c14
  try clear c16
  try clear c16b0
  try clear c23
  try clear c23b0
  try clear c23b1
  try clear c24
  try clear c24b0
  try clear c24b1
  try clear p24
  try clear q24
  try clear hx24
  try clear p32
  try clear hx245_0
  try clear p2
  try clear p245
  try clear q245
  obtain ⟨x17_2, x74_2, rfl, HA, HK2, HO_14, HO_15, HO_16, HO_17, BK250, BK251, HB⟩ := hrel; have hl17_2 := (Kd.zK HO_17.out).1; rw [hl17_2] at HO_17; (try simp only [hl17_2])
  (try simp only [hl17_2] at BK250)
  (try simp only [hl17_2] at BK251)
  (try simp only [hl17_2] at HO_14)
  (try simp only [hl17_2] at HO_15)
  (try simp only [hl17_2] at HO_16)
  cases gk with
  | zero => exact absurd HA.out (by simp [stanzalaw10_CellsFiner.l1])
  | succ k2 =>
   have H := HA.out; clear HA; simp only [stanzalaw10_CellsFiner.l1] at H; by_cases c36 : x74_2 < (y264.length : Int)
   ·rw [if_pos c36] at H
    have c36b0 : decide (x74_2 < (y264.length : Int)) = true := decide_eq_true c36
    (try simp only [hl17_2] at c36b0)
    clear c36; by_cases c37 : x74_2 < (t258.length : Int)
    rotate_left
    ·rw [if_neg c37] at H
     have c37b0 : decide (x74_2 < (t258.length : Int)) = false := decide_eq_false c37
     (try simp only [hl17_2] at c37b0)
     clear c37; by_cases c58 : x74_2 < (t261.length : Int)
     rotate_left
     ·rw [if_neg c58] at H
      have c58b0 : decide (x74_2 < (t261.length : Int)) = false := decide_eq_false c58
      (try simp only [hl17_2] at c58b0)
      clear c58; have H' := zA.mk H
      clear H; obtain ⟨Ao69, co69, eo69⟩ := Kd.zN HO_15.out; subst eo69; obtain ⟨Ao70, co70, eo70⟩ := Kd.zN HO_16.out; subst eo70; go_wp2
      repeat (go_quiet (fail); try go_wp2)
      (try simp only [← hl17_2])
      go_roundg k2
      case measure => have := HK1.out; have := HK2.out; omega
      case rel => exact ⟨(x17_2), (wrap64 (x74_2 + 1)), aZ, H', ⟨by have := HK1.out; have := HK2.out; omega⟩, ⟨by (try simp only [hl17_2]); (with_reducible repeat (first | apply Kd.zD | apply Kd.zE | apply Kd.zF)); exact HO_14.out⟩, ⟨by (try simp only [hl17_2]); (with_reducible repeat (first | apply Kd.zD | apply Kd.zE | apply Kd.zF)); exact HO_15.out⟩, ⟨by (try simp only [hl17_2]); (with_reducible repeat (first | apply Kd.zD | apply Kd.zE | apply Kd.zF)); exact HO_16.out⟩, ⟨by (try simp only [hl17_2]); (with_reducible repeat (first | apply Kd.zD | apply Kd.zE | apply Kd.zF)); exact HO_17.out⟩, ⟨by (try simp only [hl17_2]); (with_reducible repeat (first | refine zC ?_ _ | refine blk_drew ?_ | refine zB ?_ _)); exact BK250.out⟩, ⟨by (try simp only [hl17_2]); (with_reducible repeat (first | refine zC ?_ _ | refine blk_drew ?_ | refine zB ?_ _)); exact BK251.out⟩, ⟨aL HB⟩⟩
     rw [if_pos c58] at H; have c58b0 : decide (x74_2 < (t261.length : Int)) = true := decide_eq_true c58
     (try simp only [hl17_2] at c58b0)
     clear c58; by_cases c59 : 0 ≤ x74_2
     rotate_left
     ·rw [if_neg c59] at H
      exact absurd H (by simp)
     rw [if_pos c59] at H; have c59b0 : decide (0 ≤ x74_2) = true := decide_eq_true c59
     clear c59; by_cases c60 : (rd t261 x74_2) = 0
     ·rw [if_pos c60] at H
      have c60b0 : ((rd t261 x74_2) == 0) = true := beq_iff_eq.mpr c60
      have c60b1 : ((rd t261 x74_2) != 0) = false := bne_eq_false_iff_eq.mpr c60
      clear c60; have H' := zA.mk H
      clear H; obtain ⟨Ao61, co61, eo61⟩ := Kd.zN HO_15.out; subst eo61; obtain ⟨Ao62, co62, eo62⟩ := Kd.zN HO_16.out; subst eo62; have p272 : 0 ≤ (x74_2 : Int) := aD
      have q272 : x74_2 < (t261.length : Int) := aD
      obtain ⟨ad272, e272, hx272_0⟩ := Kd.at_int (Kd.zK HO_16.out).2.2 x74_2 p272 q272; cases e272
      replace p272 := eq_true p272; replace q272 := eq_true q272; go_wp2
      repeat (go_quiet (fail); try go_wp2)
      (try simp only [← hl17_2])
      go_roundg k2
      case measure => have := HK1.out; have := HK2.out; omega
      case rel => exact ⟨(x17_2), (wrap64 (x74_2 + 1)), aZ, H', ⟨by have := HK1.out; have := HK2.out; omega⟩, ⟨by (try simp only [hl17_2]); (with_reducible repeat (first | apply Kd.zD | apply Kd.zE | apply Kd.zF)); exact HO_14.out⟩, ⟨by (try simp only [hl17_2]); (with_reducible repeat (first | apply Kd.zD | apply Kd.zE | apply Kd.zF)); exact HO_15.out⟩, ⟨by (try simp only [hl17_2]); (with_reducible repeat (first | apply Kd.zD | apply Kd.zE | apply Kd.zF)); exact HO_16.out⟩, ⟨by (try simp only [hl17_2]); (with_reducible repeat (first | apply Kd.zD | apply Kd.zE | apply Kd.zF)); exact HO_17.out⟩, ⟨by (try simp only [hl17_2]); (with_reducible repeat (first | refine zC ?_ _ | refine blk_drew ?_ | refine zB ?_ _)); exact BK250.out⟩, ⟨by (try simp only [hl17_2]); (with_reducible repeat (first | refine zC ?_ _ | refine blk_drew ?_ | refine zB ?_ _)); exact BK251.out⟩, ⟨aL HB⟩⟩
     rw [if_neg c60] at H; have c60b0 : ((rd t261 x74_2) == 0) = false := beq_eq_false_iff_ne.mpr c60
     have c60b1 : ((rd t261 x74_2) != 0) = true := bne_iff_ne.mpr c60
     by_cases c63 : x74_2 < (x17_2.length : Int)
     rotate_left
     ·rw [if_neg c63] at H
      exact absurd H (by simp)
     rw [if_pos c63] at H; have c63b0 : decide (x74_2 < (x17_2.length : Int)) = true := decide_eq_true c63
     (try simp only [hl17_2] at c63b0)
     clear c63; obtain ⟨y274, hy274⟩ : ∃ y_ : List Int, y_ = (x17_2.set (x74_2 : Int).toNat (rd t261 x74_2)) := ⟨_, rfl⟩; replace H : (stanzalaw10_CellsFiner.l1 k2 t251 t255 t258 t261 y274 (y264.length : Int) (wrap64 (x74_2 + 1))) = some r := by first | (rw [hy274]; with_reducible exact H) | (have H2_ := (Option.bind_some _ _).symm.trans H; rw [hy274]; with_reducible exact H2_) | (have H2_ := (Option.bind_some _ _).symm.trans H; with_reducible exact H2_) | with_reducible exact H | (rw [hy274]; exact H) | exact H
     have Ny274 := zA.mk hy274; clear hy274; have H' := zA.mk H
     clear H; obtain ⟨Ao65, co65, eo65⟩ := Kd.zN HO_15.out; subst eo65; obtain ⟨Ao66, co66, eo66⟩ := Kd.zN HO_16.out; subst eo66; have p272 : 0 ≤ (x74_2 : Int) := aD
     have q272 : x74_2 < (t261.length : Int) := aD
     obtain ⟨ad272, e272, hx272_0⟩ := Kd.at_int (Kd.zK HO_16.out).2.2 x74_2 p272 q272; cases e272
     replace p272 := eq_true p272; replace q272 := eq_true q272; have p273 : 0 ≤ (x74_2 : Int) := aD
     have q273 : x74_2 < (t261.length : Int) := aD
     obtain ⟨ad273, e273, hx273_0⟩ := Kd.at_int (Kd.zK HO_16.out).2.2 x74_2 p273 q273; obtain rfl : ad272 = ad273 := (by injection e273)
     replace p273 := eq_true p273; replace q273 := eq_true q273; have p64 : 0 ≤ (x74_2 : Int) := aD
     have q64 : (x74_2 : Int) < ((x17_2.length : Int) : Int) := aD
     obtain ⟨go64, co64, eo64, gb64, gl64, cl64, HG64⟩ := Kd.R_form HO_17.out (by omega)
     (first | cases eo64 | (injection eo64 with ea_ en_ ec_; (first | subst ea_ | (injection ea_ with ea_; subst ea_)); subst ec_; clear en_))
     have GB64 := zA.mk gb64; have GG64 := zA.mk HG64; clear gb64 gl64 HG64; obtain ⟨hx64_0, hf64_0⟩ := Kd.R_celln 0 HO_17.out (x74_2 : Int) p64 q64; replace p64 := eq_true p64; replace q64 := eq_true q64; have HP67 := Kd.R_putg HO_17.out (x74_2 : Int) (rd t261 x74_2); go_wp2_with (first | ((with_reducible refine gate_store (t := 53) (p := 105) rfl ?_); (try (rw [drewN_self wr]; generalize hq_ : World.drewN wr _ = wr; have n0_ := zA.mk (Kd.R_at hq_ HO_14.out); have n1_ := zA.mk (Kd.R_at hq_ HO_15.out); have n2_ := zA.mk (Kd.R_at hq_ HO_16.out); have n3_ := zA.mk (Kd.R_at hq_ HO_17.out); have n4_ := zA.mk (blk_at hq_ BK250.out); have n5_ := zA.mk (blk_at hq_ BK251.out); have n6_ := zA.mk (below_at hq_ HB.out); clear hq_ HO_14 HO_15 HO_16 HO_17 BK250 BK251 HB; have HO_14 := n0_; have HO_15 := n1_; have HO_16 := n2_; have HO_17 := n3_; have BK250 := n4_; have BK251 := n5_; have HB := n6_; clear n0_ n1_ n2_ n3_ n4_ n5_ n6_; (try (have HP67 := Kd.R_putg HO_17.out (x74_2 : Int) (rd t261 x74_2))))); refine store_event (t := 53) (p := 105) (v := ?vo_w68) (w1 := (wr.setCell ⟨go64, (x74_2 : Int).toNat, none⟩ (.int .u8 (rd t261 x74_2)))) ?hg ?ho ?hn ?hr ?_; (case ho => rfl); (case hg => rfl); (case hn => rfl); (case hr => first | (go_simp; done) | (go_simp; rfl)); intro w68 hw; have hg : wr.grownBy w68 (some go64) := (by rw [hw]; exact HP67.2); have hp_ : Kd.R (Kd.int .u8) 53 w68 w.heap.size (fun k_ => some k_ ≠ (.slice Ao65 t258.length co65 : Value).ownBlock ∧ some k_ ≠ (.slice (some ad272) t261.length co66 : Value).ownBlock ∧ k_ ≠ gb250 ∧ k_ ≠ gb251) (.slice (some ⟨go64, 0, none⟩) x17_2.length co35) y274 := (by rw [hw, Ny274.out]; exact HP67.1); clear HP67; have n0_ := zA.mk (Kd.R_over' (v := (.slice (some ⟨go64, 0, none⟩) x17_2.length co35)) (aR HO_14) (Kd.R_typed HO_17.out) (by decide) hg); have n1_ := zA.mk (Kd.R_after (v := (.slice (some ⟨go64, 0, none⟩) x17_2.length co35)) (v1 := (.slice (some ⟨go64, 0, none⟩) x17_2.length co35)) (ok := (fun k_ => some k_ ≠ (.slice (some ad272) t261.length co66 : Value).ownBlock ∧ k_ ≠ gb250 ∧ k_ ≠ gb251)) (by (with_reducible repeat (first | apply Kd.zD | apply Kd.zE | apply Kd.zF)); exact Kd.zP HO_15.out (fun _ hk => ⟨⟨hk.1, ⟨hk.2.2.1, hk.2.2.2⟩⟩, hk.2.1⟩)) hg (.inl rfl)); have n2_ := zA.mk (Kd.R_after (v := (.slice (some ⟨go64, 0, none⟩) x17_2.length co35)) (v1 := (.slice (some ⟨go64, 0, none⟩) x17_2.length co35)) (ok := (fun k_ => some k_ ≠ (.slice Ao65 t258.length co65 : Value).ownBlock ∧ k_ ≠ gb250 ∧ k_ ≠ gb251)) (by (with_reducible repeat (first | apply Kd.zD | apply Kd.zE | apply Kd.zF)); exact Kd.zP HO_16.out (fun _ hk => ⟨⟨hk.1, ⟨hk.2.2.1, hk.2.2.2⟩⟩, hk.2.1⟩)) hg (.inl rfl)); have n3_ := zA.mk (hp_); have n4_ := zA.mk (blk_grown (g := gb250) (o := ob250) (aB BK250) hg (Kd.R_away HO_17.out (fun _ hk => hk.2.2.1))); have n5_ := zA.mk (blk_grown (g := gb251) (o := ob251) (aB BK251) hg (Kd.R_away HO_17.out (fun _ hk => hk.2.2.2))); have n6_ := zA.mk ((by rw [hw]; exact below_set (HB.out) GB64.out : Below w.heap.size w w68)); clear HO_14; clear HO_15; clear HO_16; clear HO_17; clear BK250; clear BK251; clear HB; have HO_14 := n0_; have HO_15 := n1_; have HO_16 := n2_; have HO_17 := n3_; have BK250 := n4_; have BK251 := n5_; have HB := n6_; clear n0_ n1_ n2_ n3_ n4_ n5_ n6_; clear hg hw hp_))
     repeat (go_quiet (first | ((with_reducible refine gate_store (t := 53) (p := 105) rfl ?_); (try (rw [drewN_self wr]; generalize hq_ : World.drewN wr _ = wr; have n0_ := zA.mk (Kd.R_at hq_ HO_14.out); have n1_ := zA.mk (Kd.R_at hq_ HO_15.out); have n2_ := zA.mk (Kd.R_at hq_ HO_16.out); have n3_ := zA.mk (Kd.R_at hq_ HO_17.out); have n4_ := zA.mk (blk_at hq_ BK250.out); have n5_ := zA.mk (blk_at hq_ BK251.out); have n6_ := zA.mk (below_at hq_ HB.out); clear hq_ HO_14 HO_15 HO_16 HO_17 BK250 BK251 HB; have HO_14 := n0_; have HO_15 := n1_; have HO_16 := n2_; have HO_17 := n3_; have BK250 := n4_; have BK251 := n5_; have HB := n6_; clear n0_ n1_ n2_ n3_ n4_ n5_ n6_; (try (have HP67 := Kd.R_putg HO_17.out (x74_2 : Int) (rd t261 x74_2))))); refine store_event (t := 53) (p := 105) (v := ?vo_w68) (w1 := (wr.setCell ⟨go64, (x74_2 : Int).toNat, none⟩ (.int .u8 (rd t261 x74_2)))) ?hg ?ho ?hn ?hr ?_; (case ho => rfl); (case hg => rfl); (case hn => rfl); (case hr => first | (go_simp; done) | (go_simp; rfl)); intro w68 hw; have hg : wr.grownBy w68 (some go64) := (by rw [hw]; exact HP67.2); have hp_ : Kd.R (Kd.int .u8) 53 w68 w.heap.size (fun k_ => some k_ ≠ (.slice Ao65 t258.length co65 : Value).ownBlock ∧ some k_ ≠ (.slice (some ad272) t261.length co66 : Value).ownBlock ∧ k_ ≠ gb250 ∧ k_ ≠ gb251) (.slice (some ⟨go64, 0, none⟩) x17_2.length co35) y274 := (by rw [hw, Ny274.out]; exact HP67.1); clear HP67; have n0_ := zA.mk (Kd.R_over' (v := (.slice (some ⟨go64, 0, none⟩) x17_2.length co35)) (aR HO_14) (Kd.R_typed HO_17.out) (by decide) hg); have n1_ := zA.mk (Kd.R_after (v := (.slice (some ⟨go64, 0, none⟩) x17_2.length co35)) (v1 := (.slice (some ⟨go64, 0, none⟩) x17_2.length co35)) (ok := (fun k_ => some k_ ≠ (.slice (some ad272) t261.length co66 : Value).ownBlock ∧ k_ ≠ gb250 ∧ k_ ≠ gb251)) (by (with_reducible repeat (first | apply Kd.zD | apply Kd.zE | apply Kd.zF)); exact Kd.zP HO_15.out (fun _ hk => ⟨⟨hk.1, ⟨hk.2.2.1, hk.2.2.2⟩⟩, hk.2.1⟩)) hg (.inl rfl)); have n2_ := zA.mk (Kd.R_after (v := (.slice (some ⟨go64, 0, none⟩) x17_2.length co35)) (v1 := (.slice (some ⟨go64, 0, none⟩) x17_2.length co35)) (ok := (fun k_ => some k_ ≠ (.slice Ao65 t258.length co65 : Value).ownBlock ∧ k_ ≠ gb250 ∧ k_ ≠ gb251)) (by (with_reducible repeat (first | apply Kd.zD | apply Kd.zE | apply Kd.zF)); exact Kd.zP HO_16.out (fun _ hk => ⟨⟨hk.1, ⟨hk.2.2.1, hk.2.2.2⟩⟩, hk.2.1⟩)) hg (.inl rfl)); have n3_ := zA.mk (hp_); have n4_ := zA.mk (blk_grown (g := gb250) (o := ob250) (aB BK250) hg (Kd.R_away HO_17.out (fun _ hk => hk.2.2.1))); have n5_ := zA.mk (blk_grown (g := gb251) (o := ob251) (aB BK251) hg (Kd.R_away HO_17.out (fun _ hk => hk.2.2.2))); have n6_ := zA.mk ((by rw [hw]; exact below_set (HB.out) GB64.out : Below w.heap.size w w68)); clear HO_14; clear HO_15; clear HO_16; clear HO_17; clear BK250; clear BK251; clear HB; have HO_14 := n0_; have HO_15 := n1_; have HO_16 := n2_; have HO_17 := n3_; have BK250 := n4_; have BK251 := n5_; have HB := n6_; clear n0_ n1_ n2_ n3_ n4_ n5_ n6_; clear hg hw hp_)); try go_wp2_with (first | ((with_reducible refine gate_store (t := 53) (p := 105) rfl ?_); (try (rw [drewN_self wr]; generalize hq_ : World.drewN wr _ = wr; have n0_ := zA.mk (Kd.R_at hq_ HO_14.out); have n1_ := zA.mk (Kd.R_at hq_ HO_15.out); have n2_ := zA.mk (Kd.R_at hq_ HO_16.out); have n3_ := zA.mk (Kd.R_at hq_ HO_17.out); have n4_ := zA.mk (blk_at hq_ BK250.out); have n5_ := zA.mk (blk_at hq_ BK251.out); have n6_ := zA.mk (below_at hq_ HB.out); clear hq_ HO_14 HO_15 HO_16 HO_17 BK250 BK251 HB; have HO_14 := n0_; have HO_15 := n1_; have HO_16 := n2_; have HO_17 := n3_; have BK250 := n4_; have BK251 := n5_; have HB := n6_; clear n0_ n1_ n2_ n3_ n4_ n5_ n6_; (try (have HP67 := Kd.R_putg HO_17.out (x74_2 : Int) (rd t261 x74_2))))); refine store_event (t := 53) (p := 105) (v := ?vo_w68) (w1 := (wr.setCell ⟨go64, (x74_2 : Int).toNat, none⟩ (.int .u8 (rd t261 x74_2)))) ?hg ?ho ?hn ?hr ?_; (case ho => rfl); (case hg => rfl); (case hn => rfl); (case hr => first | (go_simp; done) | (go_simp; rfl)); intro w68 hw; have hg : wr.grownBy w68 (some go64) := (by rw [hw]; exact HP67.2); have hp_ : Kd.R (Kd.int .u8) 53 w68 w.heap.size (fun k_ => some k_ ≠ (.slice Ao65 t258.length co65 : Value).ownBlock ∧ some k_ ≠ (.slice (some ad272) t261.length co66 : Value).ownBlock ∧ k_ ≠ gb250 ∧ k_ ≠ gb251) (.slice (some ⟨go64, 0, none⟩) x17_2.length co35) y274 := (by rw [hw, Ny274.out]; exact HP67.1); clear HP67; have n0_ := zA.mk (Kd.R_over' (v := (.slice (some ⟨go64, 0, none⟩) x17_2.length co35)) (aR HO_14) (Kd.R_typed HO_17.out) (by decide) hg); have n1_ := zA.mk (Kd.R_after (v := (.slice (some ⟨go64, 0, none⟩) x17_2.length co35)) (v1 := (.slice (some ⟨go64, 0, none⟩) x17_2.length co35)) (ok := (fun k_ => some k_ ≠ (.slice (some ad272) t261.length co66 : Value).ownBlock ∧ k_ ≠ gb250 ∧ k_ ≠ gb251)) (by (with_reducible repeat (first | apply Kd.zD | apply Kd.zE | apply Kd.zF)); exact Kd.zP HO_15.out (fun _ hk => ⟨⟨hk.1, ⟨hk.2.2.1, hk.2.2.2⟩⟩, hk.2.1⟩)) hg (.inl rfl)); have n2_ := zA.mk (Kd.R_after (v := (.slice (some ⟨go64, 0, none⟩) x17_2.length co35)) (v1 := (.slice (some ⟨go64, 0, none⟩) x17_2.length co35)) (ok := (fun k_ => some k_ ≠ (.slice Ao65 t258.length co65 : Value).ownBlock ∧ k_ ≠ gb250 ∧ k_ ≠ gb251)) (by (with_reducible repeat (first | apply Kd.zD | apply Kd.zE | apply Kd.zF)); exact Kd.zP HO_16.out (fun _ hk => ⟨⟨hk.1, ⟨hk.2.2.1, hk.2.2.2⟩⟩, hk.2.1⟩)) hg (.inl rfl)); have n3_ := zA.mk (hp_); have n4_ := zA.mk (blk_grown (g := gb250) (o := ob250) (aB BK250) hg (Kd.R_away HO_17.out (fun _ hk => hk.2.2.1))); have n5_ := zA.mk (blk_grown (g := gb251) (o := ob251) (aB BK251) hg (Kd.R_away HO_17.out (fun _ hk => hk.2.2.2))); have n6_ := zA.mk ((by rw [hw]; exact below_set (HB.out) GB64.out : Below w.heap.size w w68)); clear HO_14; clear HO_15; clear HO_16; clear HO_17; clear BK250; clear BK251; clear HB; have HO_14 := n0_; have HO_15 := n1_; have HO_16 := n2_; have HO_17 := n3_; have BK250 := n4_; have BK251 := n5_; have HB := n6_; clear n0_ n1_ n2_ n3_ n4_ n5_ n6_; clear hg hw hp_)))
     (try simp only [← hl17_2])
     go_roundg k2
     case measure => have := HK1.out; have := HK2.out; omega
     case rel => exact ⟨(y274), (wrap64 (x74_2 + 1)), aZ, H', ⟨by have := HK1.out; have := HK2.out; omega⟩, ⟨by (try simp only [hl17_2]); (with_reducible repeat (first | apply Kd.zD | apply Kd.zE | apply Kd.zF)); exact HO_14.out⟩, ⟨by (try simp only [hl17_2]); (with_reducible repeat (first | apply Kd.zD | apply Kd.zE | apply Kd.zF)); exact Kd.zP HO_15.out (fun _ hk => ⟨hk.1.1, ⟨hk.2, ⟨hk.1.2.1, hk.1.2.2⟩⟩⟩)⟩, ⟨by (try simp only [hl17_2]); (with_reducible repeat (first | apply Kd.zD | apply Kd.zE | apply Kd.zF)); exact Kd.zP HO_16.out (fun _ hk => ⟨hk.1.1, ⟨hk.2, ⟨hk.1.2.1, hk.1.2.2⟩⟩⟩)⟩, ⟨by (try simp only [hl17_2]); (with_reducible repeat (first | apply Kd.zD | apply Kd.zE | apply Kd.zF)); exact HO_17.out⟩, ⟨by (try simp only [hl17_2]); (with_reducible repeat (first | refine zC ?_ _ | refine blk_drew ?_ | refine zB ?_ _)); exact BK250.out⟩, ⟨by (try simp only [hl17_2]); (with_reducible repeat (first | refine zC ?_ _ | refine blk_drew ?_ | refine zB ?_ _)); exact BK251.out⟩, ⟨aL HB⟩⟩
    rw [if_pos c37] at H; have c37b0 : decide (x74_2 < (t258.length : Int)) = true := decide_eq_true c37
    (try simp only [hl17_2] at c37b0)
    clear c37; by_cases c38 : 0 ≤ x74_2
    rotate_left
    ·rw [if_neg c38] at H
     exact absurd H (by simp)
    rw [if_pos c38] at H; have c38b0 : decide (0 ≤ x74_2) = true := decide_eq_true c38
    clear c38; by_cases c39 : x74_2 < (x17_2.length : Int)
    rotate_left
    ·rw [if_neg c39] at H
     exact absurd H (by simp)
    rw [if_pos c39] at H; have c39b0 : decide (x74_2 < (x17_2.length : Int)) = true := decide_eq_true c39
    (try simp only [hl17_2] at c39b0)
    clear c39; obtain ⟨y268, hy268⟩ : ∃ y_ : List Int, y_ = (x17_2.set (x74_2 : Int).toNat (rd t258 x74_2)) := ⟨_, rfl⟩; replace H : (if x74_2 < (t261.length : Int) then (if (rd t261 x74_2) = 0 then (stanzalaw10_CellsFiner.l1 k2 t251 t255 t258 t261 y268 (y264.length : Int) (wrap64 (x74_2 + 1))) else (stanzalaw10_CellsFiner.l1 k2 t251 t255 t258 t261 (y268.set (x74_2 : Int).toNat (rd t261 x74_2)) (y264.length : Int) (wrap64 (x74_2 + 1)))) else (stanzalaw10_CellsFiner.l1 k2 t251 t255 t258 t261 y268 (y264.length : Int) (wrap64 (x74_2 + 1)))) = some r := by first | (rw [hy268]; with_reducible exact H) | (have H2_ := (Option.bind_some _ _).symm.trans H; rw [hy268]; with_reducible exact H2_) | (have H2_ := (Option.bind_some _ _).symm.trans H; with_reducible exact H2_) | with_reducible exact H | (rw [hy268]; exact H) | exact H
    have Ny268 := zA.mk hy268; clear hy268; by_cases c41 : x74_2 < (t261.length : Int)
    rotate_left
    ·rw [if_neg c41] at H
     have c41b0 : decide (x74_2 < (t261.length : Int)) = false := decide_eq_false c41
     (try simp only [hl17_2] at c41b0)
     clear c41; have H' := zA.mk H
     clear H; obtain ⟨Ao54, co54, eo54⟩ := Kd.zN HO_15.out; subst eo54; have p267 : 0 ≤ (x74_2 : Int) := aD
     have q267 : x74_2 < (t258.length : Int) := aD
     obtain ⟨ad267, e267, hx267_0⟩ := Kd.at_int (Kd.zK HO_15.out).2.2 x74_2 p267 q267; cases e267
     replace p267 := eq_true p267; replace q267 := eq_true q267; have p40 : 0 ≤ (x74_2 : Int) := aD
     have q40 : (x74_2 : Int) < ((x17_2.length : Int) : Int) := aD
     obtain ⟨go40, co40, eo40, gb40, gl40, cl40, HG40⟩ := Kd.R_form HO_17.out (by omega)
     (first | cases eo40 | (injection eo40 with ea_ en_ ec_; (first | subst ea_ | (injection ea_ with ea_; subst ea_)); subst ec_; clear en_))
     have GB40 := zA.mk gb40; have GG40 := zA.mk HG40; clear gb40 gl40 HG40; obtain ⟨hx40_0, hf40_0⟩ := Kd.R_celln 0 HO_17.out (x74_2 : Int) p40 q40; replace p40 := eq_true p40; replace q40 := eq_true q40; have HP55 := Kd.R_putg HO_17.out (x74_2 : Int) (rd t258 x74_2); go_wp2_with (first | ((with_reducible refine gate_store (t := 53) (p := 87) rfl ?_); (try (rw [drewN_self wr]; generalize hq_ : World.drewN wr _ = wr; have n0_ := zA.mk (Kd.R_at hq_ HO_14.out); have n1_ := zA.mk (Kd.R_at hq_ HO_15.out); have n2_ := zA.mk (Kd.R_at hq_ HO_16.out); have n3_ := zA.mk (Kd.R_at hq_ HO_17.out); have n4_ := zA.mk (blk_at hq_ BK250.out); have n5_ := zA.mk (blk_at hq_ BK251.out); have n6_ := zA.mk (below_at hq_ HB.out); clear hq_ HO_14 HO_15 HO_16 HO_17 BK250 BK251 HB; have HO_14 := n0_; have HO_15 := n1_; have HO_16 := n2_; have HO_17 := n3_; have BK250 := n4_; have BK251 := n5_; have HB := n6_; clear n0_ n1_ n2_ n3_ n4_ n5_ n6_; (try (have HP55 := Kd.R_putg HO_17.out (x74_2 : Int) (rd t258 x74_2))))); refine store_event (t := 53) (p := 87) (v := ?vo_w56) (w1 := (wr.setCell ⟨go40, (x74_2 : Int).toNat, none⟩ (.int .u8 (rd t258 x74_2)))) ?hg ?ho ?hn ?hr ?_; (case ho => rfl); (case hg => rfl); (case hn => rfl); (case hr => first | (go_simp; done) | (go_simp; rfl)); intro w56 hw; have hg : wr.grownBy w56 (some go40) := (by rw [hw]; exact HP55.2); have hp_ : Kd.R (Kd.int .u8) 53 w56 w.heap.size (fun k_ => some k_ ≠ (.slice (some ad267) t258.length co54 : Value).ownBlock ∧ some k_ ≠ (v262 : Value).ownBlock ∧ k_ ≠ gb250 ∧ k_ ≠ gb251) (.slice (some ⟨go40, 0, none⟩) x17_2.length co35) y268 := (by rw [hw, Ny268.out]; exact HP55.1); clear HP55; have n0_ := zA.mk (Kd.R_over' (v := (.slice (some ⟨go40, 0, none⟩) x17_2.length co35)) (aR HO_14) (Kd.R_typed HO_17.out) (by decide) hg); have n1_ := zA.mk (Kd.R_after (v := (.slice (some ⟨go40, 0, none⟩) x17_2.length co35)) (v1 := (.slice (some ⟨go40, 0, none⟩) x17_2.length co35)) (ok := (fun k_ => some k_ ≠ (v262 : Value).ownBlock ∧ k_ ≠ gb250 ∧ k_ ≠ gb251)) (by (with_reducible repeat (first | apply Kd.zD | apply Kd.zE | apply Kd.zF)); exact Kd.zP HO_15.out (fun _ hk => ⟨⟨hk.1, ⟨hk.2.2.1, hk.2.2.2⟩⟩, hk.2.1⟩)) hg (.inl rfl)); have n2_ := zA.mk (Kd.R_after (v := (.slice (some ⟨go40, 0, none⟩) x17_2.length co35)) (v1 := (.slice (some ⟨go40, 0, none⟩) x17_2.length co35)) (ok := (fun k_ => some k_ ≠ (.slice (some ad267) t258.length co54 : Value).ownBlock ∧ k_ ≠ gb250 ∧ k_ ≠ gb251)) (by (with_reducible repeat (first | apply Kd.zD | apply Kd.zE | apply Kd.zF)); exact Kd.zP HO_16.out (fun _ hk => ⟨⟨hk.1, ⟨hk.2.2.1, hk.2.2.2⟩⟩, hk.2.1⟩)) hg (.inl rfl)); have n3_ := zA.mk (hp_); have n4_ := zA.mk (blk_grown (g := gb250) (o := ob250) (aB BK250) hg (Kd.R_away HO_17.out (fun _ hk => hk.2.2.1))); have n5_ := zA.mk (blk_grown (g := gb251) (o := ob251) (aB BK251) hg (Kd.R_away HO_17.out (fun _ hk => hk.2.2.2))); have n6_ := zA.mk ((by rw [hw]; exact below_set (HB.out) GB40.out : Below w.heap.size w w56)); clear HO_14; clear HO_15; clear HO_16; clear HO_17; clear BK250; clear BK251; clear HB; have HO_14 := n0_; have HO_15 := n1_; have HO_16 := n2_; have HO_17 := n3_; have BK250 := n4_; have BK251 := n5_; have HB := n6_; clear n0_ n1_ n2_ n3_ n4_ n5_ n6_; clear hg hw hp_; obtain ⟨Ao57, co57, eo57⟩ := Kd.zN HO_16.out; subst eo57))
     repeat (go_quiet (first | ((with_reducible refine gate_store (t := 53) (p := 87) rfl ?_); (try (rw [drewN_self wr]; generalize hq_ : World.drewN wr _ = wr; have n0_ := zA.mk (Kd.R_at hq_ HO_14.out); have n1_ := zA.mk (Kd.R_at hq_ HO_15.out); have n2_ := zA.mk (Kd.R_at hq_ HO_16.out); have n3_ := zA.mk (Kd.R_at hq_ HO_17.out); have n4_ := zA.mk (blk_at hq_ BK250.out); have n5_ := zA.mk (blk_at hq_ BK251.out); have n6_ := zA.mk (below_at hq_ HB.out); clear hq_ HO_14 HO_15 HO_16 HO_17 BK250 BK251 HB; have HO_14 := n0_; have HO_15 := n1_; have HO_16 := n2_; have HO_17 := n3_; have BK250 := n4_; have BK251 := n5_; have HB := n6_; clear n0_ n1_ n2_ n3_ n4_ n5_ n6_; (try (have HP55 := Kd.R_putg HO_17.out (x74_2 : Int) (rd t258 x74_2))))); refine store_event (t := 53) (p := 87) (v := ?vo_w56) (w1 := (wr.setCell ⟨go40, (x74_2 : Int).toNat, none⟩ (.int .u8 (rd t258 x74_2)))) ?hg ?ho ?hn ?hr ?_; (case ho => rfl); (case hg => rfl); (case hn => rfl); (case hr => first | (go_simp; done) | (go_simp; rfl)); intro w56 hw; have hg : wr.grownBy w56 (some go40) := (by rw [hw]; exact HP55.2); have hp_ : Kd.R (Kd.int .u8) 53 w56 w.heap.size (fun k_ => some k_ ≠ (.slice (some ad267) t258.length co54 : Value).ownBlock ∧ some k_ ≠ (v262 : Value).ownBlock ∧ k_ ≠ gb250 ∧ k_ ≠ gb251) (.slice (some ⟨go40, 0, none⟩) x17_2.length co35) y268 := (by rw [hw, Ny268.out]; exact HP55.1); clear HP55; have n0_ := zA.mk (Kd.R_over' (v := (.slice (some ⟨go40, 0, none⟩) x17_2.length co35)) (aR HO_14) (Kd.R_typed HO_17.out) (by decide) hg); have n1_ := zA.mk (Kd.R_after (v := (.slice (some ⟨go40, 0, none⟩) x17_2.length co35)) (v1 := (.slice (some ⟨go40, 0, none⟩) x17_2.length co35)) (ok := (fun k_ => some k_ ≠ (v262 : Value).ownBlock ∧ k_ ≠ gb250 ∧ k_ ≠ gb251)) (by (with_reducible repeat (first | apply Kd.zD | apply Kd.zE | apply Kd.zF)); exact Kd.zP HO_15.out (fun _ hk => ⟨⟨hk.1, ⟨hk.2.2.1, hk.2.2.2⟩⟩, hk.2.1⟩)) hg (.inl rfl)); have n2_ := zA.mk (Kd.R_after (v := (.slice (some ⟨go40, 0, none⟩) x17_2.length co35)) (v1 := (.slice (some ⟨go40, 0, none⟩) x17_2.length co35)) (ok := (fun k_ => some k_ ≠ (.slice (some ad267) t258.length co54 : Value).ownBlock ∧ k_ ≠ gb250 ∧ k_ ≠ gb251)) (by (with_reducible repeat (first | apply Kd.zD | apply Kd.zE | apply Kd.zF)); exact Kd.zP HO_16.out (fun _ hk => ⟨⟨hk.1, ⟨hk.2.2.1, hk.2.2.2⟩⟩, hk.2.1⟩)) hg (.inl rfl)); have n3_ := zA.mk (hp_); have n4_ := zA.mk (blk_grown (g := gb250) (o := ob250) (aB BK250) hg (Kd.R_away HO_17.out (fun _ hk => hk.2.2.1))); have n5_ := zA.mk (blk_grown (g := gb251) (o := ob251) (aB BK251) hg (Kd.R_away HO_17.out (fun _ hk => hk.2.2.2))); have n6_ := zA.mk ((by rw [hw]; exact below_set (HB.out) GB40.out : Below w.heap.size w w56)); clear HO_14; clear HO_15; clear HO_16; clear HO_17; clear BK250; clear BK251; clear HB; have HO_14 := n0_; have HO_15 := n1_; have HO_16 := n2_; have HO_17 := n3_; have BK250 := n4_; have BK251 := n5_; have HB := n6_; clear n0_ n1_ n2_ n3_ n4_ n5_ n6_; clear hg hw hp_; obtain ⟨Ao57, co57, eo57⟩ := Kd.zN HO_16.out; subst eo57)); try go_wp2_with (first | ((with_reducible refine gate_store (t := 53) (p := 87) rfl ?_); (try (rw [drewN_self wr]; generalize hq_ : World.drewN wr _ = wr; have n0_ := zA.mk (Kd.R_at hq_ HO_14.out); have n1_ := zA.mk (Kd.R_at hq_ HO_15.out); have n2_ := zA.mk (Kd.R_at hq_ HO_16.out); have n3_ := zA.mk (Kd.R_at hq_ HO_17.out); have n4_ := zA.mk (blk_at hq_ BK250.out); have n5_ := zA.mk (blk_at hq_ BK251.out); have n6_ := zA.mk (below_at hq_ HB.out); clear hq_ HO_14 HO_15 HO_16 HO_17 BK250 BK251 HB; have HO_14 := n0_; have HO_15 := n1_; have HO_16 := n2_; have HO_17 := n3_; have BK250 := n4_; have BK251 := n5_; have HB := n6_; clear n0_ n1_ n2_ n3_ n4_ n5_ n6_; (try (have HP55 := Kd.R_putg HO_17.out (x74_2 : Int) (rd t258 x74_2))))); refine store_event (t := 53) (p := 87) (v := ?vo_w56) (w1 := (wr.setCell ⟨go40, (x74_2 : Int).toNat, none⟩ (.int .u8 (rd t258 x74_2)))) ?hg ?ho ?hn ?hr ?_; (case ho => rfl); (case hg => rfl); (case hn => rfl); (case hr => first | (go_simp; done) | (go_simp; rfl)); intro w56 hw; have hg : wr.grownBy w56 (some go40) := (by rw [hw]; exact HP55.2); have hp_ : Kd.R (Kd.int .u8) 53 w56 w.heap.size (fun k_ => some k_ ≠ (.slice (some ad267) t258.length co54 : Value).ownBlock ∧ some k_ ≠ (v262 : Value).ownBlock ∧ k_ ≠ gb250 ∧ k_ ≠ gb251) (.slice (some ⟨go40, 0, none⟩) x17_2.length co35) y268 := (by rw [hw, Ny268.out]; exact HP55.1); clear HP55; have n0_ := zA.mk (Kd.R_over' (v := (.slice (some ⟨go40, 0, none⟩) x17_2.length co35)) (aR HO_14) (Kd.R_typed HO_17.out) (by decide) hg); have n1_ := zA.mk (Kd.R_after (v := (.slice (some ⟨go40, 0, none⟩) x17_2.length co35)) (v1 := (.slice (some ⟨go40, 0, none⟩) x17_2.length co35)) (ok := (fun k_ => some k_ ≠ (v262 : Value).ownBlock ∧ k_ ≠ gb250 ∧ k_ ≠ gb251)) (by (with_reducible repeat (first | apply Kd.zD | apply Kd.zE | apply Kd.zF)); exact Kd.zP HO_15.out (fun _ hk => ⟨⟨hk.1, ⟨hk.2.2.1, hk.2.2.2⟩⟩, hk.2.1⟩)) hg (.inl rfl)); have n2_ := zA.mk (Kd.R_after (v := (.slice (some ⟨go40, 0, none⟩) x17_2.length co35)) (v1 := (.slice (some ⟨go40, 0, none⟩) x17_2.length co35)) (ok := (fun k_ => some k_ ≠ (.slice (some ad267) t258.length co54 : Value).ownBlock ∧ k_ ≠ gb250 ∧ k_ ≠ gb251)) (by (with_reducible repeat (first | apply Kd.zD | apply Kd.zE | apply Kd.zF)); exact Kd.zP HO_16.out (fun _ hk => ⟨⟨hk.1, ⟨hk.2.2.1, hk.2.2.2⟩⟩, hk.2.1⟩)) hg (.inl rfl)); have n3_ := zA.mk (hp_); have n4_ := zA.mk (blk_grown (g := gb250) (o := ob250) (aB BK250) hg (Kd.R_away HO_17.out (fun _ hk => hk.2.2.1))); have n5_ := zA.mk (blk_grown (g := gb251) (o := ob251) (aB BK251) hg (Kd.R_away HO_17.out (fun _ hk => hk.2.2.2))); have n6_ := zA.mk ((by rw [hw]; exact below_set (HB.out) GB40.out : Below w.heap.size w w56)); clear HO_14; clear HO_15; clear HO_16; clear HO_17; clear BK250; clear BK251; clear HB; have HO_14 := n0_; have HO_15 := n1_; have HO_16 := n2_; have HO_17 := n3_; have BK250 := n4_; have BK251 := n5_; have HB := n6_; clear n0_ n1_ n2_ n3_ n4_ n5_ n6_; clear hg hw hp_; obtain ⟨Ao57, co57, eo57⟩ := Kd.zN HO_16.out; subst eo57)))
     (try simp only [← hl17_2])
     go_roundg k2
     case measure => have := HK1.out; have := HK2.out; omega
     case rel => exact ⟨(y268), (wrap64 (x74_2 + 1)), aZ, H', ⟨by have := HK1.out; have := HK2.out; omega⟩, ⟨by (try simp only [hl17_2]); (with_reducible repeat (first | apply Kd.zD | apply Kd.zE | apply Kd.zF)); exact HO_14.out⟩, ⟨by (try simp only [hl17_2]); (with_reducible repeat (first | apply Kd.zD | apply Kd.zE | apply Kd.zF)); exact Kd.zP HO_15.out (fun _ hk => ⟨hk.1.1, ⟨hk.2, ⟨hk.1.2.1, hk.1.2.2⟩⟩⟩)⟩, ⟨by (try simp only [hl17_2]); (with_reducible repeat (first | apply Kd.zD | apply Kd.zE | apply Kd.zF)); exact Kd.zP HO_16.out (fun _ hk => ⟨hk.1.1, ⟨hk.2, ⟨hk.1.2.1, hk.1.2.2⟩⟩⟩)⟩, ⟨by (try simp only [hl17_2]); (with_reducible repeat (first | apply Kd.zD | apply Kd.zE | apply Kd.zF)); exact HO_17.out⟩, ⟨by (try simp only [hl17_2]); (with_reducible repeat (first | refine zC ?_ _ | refine blk_drew ?_ | refine zB ?_ _)); exact BK250.out⟩, ⟨by (try simp only [hl17_2]); (with_reducible repeat (first | refine zC ?_ _ | refine blk_drew ?_ | refine zB ?_ _)); exact BK251.out⟩, ⟨aL HB⟩⟩
    rw [if_pos c41] at H; have c41b0 : decide (x74_2 < (t261.length : Int)) = true := decide_eq_true c41
    (try simp only [hl17_2] at c41b0)
    clear c41; by_cases c42 : (rd t261 x74_2) = 0
    ·rw [if_pos c42] at H
     have c42b0 : ((rd t261 x74_2) == 0) = true := beq_iff_eq.mpr c42
     have c42b1 : ((rd t261 x74_2) != 0) = false := bne_eq_false_iff_eq.mpr c42
     clear c42; have H' := zA.mk H
     clear H; obtain ⟨Ao43, co43, eo43⟩ := Kd.zN HO_15.out; subst eo43; have p267 : 0 ≤ (x74_2 : Int) := aD
     have q267 : x74_2 < (t258.length : Int) := aD
     obtain ⟨ad267, e267, hx267_0⟩ := Kd.at_int (Kd.zK HO_15.out).2.2 x74_2 p267 q267; cases e267
     replace p267 := eq_true p267; replace q267 := eq_true q267; have p40 : 0 ≤ (x74_2 : Int) := aD
     have q40 : (x74_2 : Int) < ((x17_2.length : Int) : Int) := aD
     obtain ⟨go40, co40, eo40, gb40, gl40, cl40, HG40⟩ := Kd.R_form HO_17.out (by omega)
     (first | cases eo40 | (injection eo40 with ea_ en_ ec_; (first | subst ea_ | (injection ea_ with ea_; subst ea_)); subst ec_; clear en_))
     have GB40 := zA.mk gb40; have GG40 := zA.mk HG40; clear gb40 gl40 HG40; obtain ⟨hx40_0, hf40_0⟩ := Kd.R_celln 0 HO_17.out (x74_2 : Int) p40 q40; replace p40 := eq_true p40; replace q40 := eq_true q40; have HP44 := Kd.R_putg HO_17.out (x74_2 : Int) (rd t258 x74_2); go_wp2_with (first | ((with_reducible refine gate_store (t := 53) (p := 87) rfl ?_); (try (rw [drewN_self wr]; generalize hq_ : World.drewN wr _ = wr; have n0_ := zA.mk (Kd.R_at hq_ HO_14.out); have n1_ := zA.mk (Kd.R_at hq_ HO_15.out); have n2_ := zA.mk (Kd.R_at hq_ HO_16.out); have n3_ := zA.mk (Kd.R_at hq_ HO_17.out); have n4_ := zA.mk (blk_at hq_ BK250.out); have n5_ := zA.mk (blk_at hq_ BK251.out); have n6_ := zA.mk (below_at hq_ HB.out); clear hq_ HO_14 HO_15 HO_16 HO_17 BK250 BK251 HB; have HO_14 := n0_; have HO_15 := n1_; have HO_16 := n2_; have HO_17 := n3_; have BK250 := n4_; have BK251 := n5_; have HB := n6_; clear n0_ n1_ n2_ n3_ n4_ n5_ n6_; (try (have HP44 := Kd.R_putg HO_17.out (x74_2 : Int) (rd t258 x74_2))))); refine store_event (t := 53) (p := 87) (v := ?vo_w45) (w1 := (wr.setCell ⟨go40, (x74_2 : Int).toNat, none⟩ (.int .u8 (rd t258 x74_2)))) ?hg ?ho ?hn ?hr ?_; (case ho => rfl); (case hg => rfl); (case hn => rfl); (case hr => first | (go_simp; done) | (go_simp; rfl)); intro w45 hw; have hg : wr.grownBy w45 (some go40) := (by rw [hw]; exact HP44.2); have hp_ : Kd.R (Kd.int .u8) 53 w45 w.heap.size (fun k_ => some k_ ≠ (.slice (some ad267) t258.length co43 : Value).ownBlock ∧ some k_ ≠ (v262 : Value).ownBlock ∧ k_ ≠ gb250 ∧ k_ ≠ gb251) (.slice (some ⟨go40, 0, none⟩) x17_2.length co35) y268 := (by rw [hw, Ny268.out]; exact HP44.1); clear HP44; have n0_ := zA.mk (Kd.R_over' (v := (.slice (some ⟨go40, 0, none⟩) x17_2.length co35)) (aR HO_14) (Kd.R_typed HO_17.out) (by decide) hg); have n1_ := zA.mk (Kd.R_after (v := (.slice (some ⟨go40, 0, none⟩) x17_2.length co35)) (v1 := (.slice (some ⟨go40, 0, none⟩) x17_2.length co35)) (ok := (fun k_ => some k_ ≠ (v262 : Value).ownBlock ∧ k_ ≠ gb250 ∧ k_ ≠ gb251)) (by (with_reducible repeat (first | apply Kd.zD | apply Kd.zE | apply Kd.zF)); exact Kd.zP HO_15.out (fun _ hk => ⟨⟨hk.1, ⟨hk.2.2.1, hk.2.2.2⟩⟩, hk.2.1⟩)) hg (.inl rfl)); have n2_ := zA.mk (Kd.R_after (v := (.slice (some ⟨go40, 0, none⟩) x17_2.length co35)) (v1 := (.slice (some ⟨go40, 0, none⟩) x17_2.length co35)) (ok := (fun k_ => some k_ ≠ (.slice (some ad267) t258.length co43 : Value).ownBlock ∧ k_ ≠ gb250 ∧ k_ ≠ gb251)) (by (with_reducible repeat (first | apply Kd.zD | apply Kd.zE | apply Kd.zF)); exact Kd.zP HO_16.out (fun _ hk => ⟨⟨hk.1, ⟨hk.2.2.1, hk.2.2.2⟩⟩, hk.2.1⟩)) hg (.inl rfl)); have n3_ := zA.mk (hp_); have n4_ := zA.mk (blk_grown (g := gb250) (o := ob250) (aB BK250) hg (Kd.R_away HO_17.out (fun _ hk => hk.2.2.1))); have n5_ := zA.mk (blk_grown (g := gb251) (o := ob251) (aB BK251) hg (Kd.R_away HO_17.out (fun _ hk => hk.2.2.2))); have n6_ := zA.mk ((by rw [hw]; exact below_set (HB.out) GB40.out : Below w.heap.size w w45)); clear HO_14; clear HO_15; clear HO_16; clear HO_17; clear BK250; clear BK251; clear HB; have HO_14 := n0_; have HO_15 := n1_; have HO_16 := n2_; have HO_17 := n3_; have BK250 := n4_; have BK251 := n5_; have HB := n6_; clear n0_ n1_ n2_ n3_ n4_ n5_ n6_; clear hg hw hp_; obtain ⟨Ao46, co46, eo46⟩ := Kd.zN HO_16.out; subst eo46; have p269 : 0 ≤ (x74_2 : Int) := aD; have q269 : x74_2 < (t261.length : Int) := aD; obtain ⟨ad269, e269, hx269_0⟩ := Kd.at_int (Kd.zK HO_16.out).2.2 x74_2 p269 q269; cases e269; replace p269 := eq_true p269; replace q269 := eq_true q269))
     repeat (go_quiet (first | ((with_reducible refine gate_store (t := 53) (p := 87) rfl ?_); (try (rw [drewN_self wr]; generalize hq_ : World.drewN wr _ = wr; have n0_ := zA.mk (Kd.R_at hq_ HO_14.out); have n1_ := zA.mk (Kd.R_at hq_ HO_15.out); have n2_ := zA.mk (Kd.R_at hq_ HO_16.out); have n3_ := zA.mk (Kd.R_at hq_ HO_17.out); have n4_ := zA.mk (blk_at hq_ BK250.out); have n5_ := zA.mk (blk_at hq_ BK251.out); have n6_ := zA.mk (below_at hq_ HB.out); clear hq_ HO_14 HO_15 HO_16 HO_17 BK250 BK251 HB; have HO_14 := n0_; have HO_15 := n1_; have HO_16 := n2_; have HO_17 := n3_; have BK250 := n4_; have BK251 := n5_; have HB := n6_; clear n0_ n1_ n2_ n3_ n4_ n5_ n6_; (try (have HP44 := Kd.R_putg HO_17.out (x74_2 : Int) (rd t258 x74_2))))); refine store_event (t := 53) (p := 87) (v := ?vo_w45) (w1 := (wr.setCell ⟨go40, (x74_2 : Int).toNat, none⟩ (.int .u8 (rd t258 x74_2)))) ?hg ?ho ?hn ?hr ?_; (case ho => rfl); (case hg => rfl); (case hn => rfl); (case hr => first | (go_simp; done) | (go_simp; rfl)); intro w45 hw; have hg : wr.grownBy w45 (some go40) := (by rw [hw]; exact HP44.2); have hp_ : Kd.R (Kd.int .u8) 53 w45 w.heap.size (fun k_ => some k_ ≠ (.slice (some ad267) t258.length co43 : Value).ownBlock ∧ some k_ ≠ (v262 : Value).ownBlock ∧ k_ ≠ gb250 ∧ k_ ≠ gb251) (.slice (some ⟨go40, 0, none⟩) x17_2.length co35) y268 := (by rw [hw, Ny268.out]; exact HP44.1); clear HP44; have n0_ := zA.mk (Kd.R_over' (v := (.slice (some ⟨go40, 0, none⟩) x17_2.length co35)) (aR HO_14) (Kd.R_typed HO_17.out) (by decide) hg); have n1_ := zA.mk (Kd.R_after (v := (.slice (some ⟨go40, 0, none⟩) x17_2.length co35)) (v1 := (.slice (some ⟨go40, 0, none⟩) x17_2.length co35)) (ok := (fun k_ => some k_ ≠ (v262 : Value).ownBlock ∧ k_ ≠ gb250 ∧ k_ ≠ gb251)) (by (with_reducible repeat (first | apply Kd.zD | apply Kd.zE | apply Kd.zF)); exact Kd.zP HO_15.out (fun _ hk => ⟨⟨hk.1, ⟨hk.2.2.1, hk.2.2.2⟩⟩, hk.2.1⟩)) hg (.inl rfl)); have n2_ := zA.mk (Kd.R_after (v := (.slice (some ⟨go40, 0, none⟩) x17_2.length co35)) (v1 := (.slice (some ⟨go40, 0, none⟩) x17_2.length co35)) (ok := (fun k_ => some k_ ≠ (.slice (some ad267) t258.length co43 : Value).ownBlock ∧ k_ ≠ gb250 ∧ k_ ≠ gb251)) (by (with_reducible repeat (first | apply Kd.zD | apply Kd.zE | apply Kd.zF)); exact Kd.zP HO_16.out (fun _ hk => ⟨⟨hk.1, ⟨hk.2.2.1, hk.2.2.2⟩⟩, hk.2.1⟩)) hg (.inl rfl)); have n3_ := zA.mk (hp_); have n4_ := zA.mk (blk_grown (g := gb250) (o := ob250) (aB BK250) hg (Kd.R_away HO_17.out (fun _ hk => hk.2.2.1))); have n5_ := zA.mk (blk_grown (g := gb251) (o := ob251) (aB BK251) hg (Kd.R_away HO_17.out (fun _ hk => hk.2.2.2))); have n6_ := zA.mk ((by rw [hw]; exact below_set (HB.out) GB40.out : Below w.heap.size w w45)); clear HO_14; clear HO_15; clear HO_16; clear HO_17; clear BK250; clear BK251; clear HB; have HO_14 := n0_; have HO_15 := n1_; have HO_16 := n2_; have HO_17 := n3_; have BK250 := n4_; have BK251 := n5_; have HB := n6_; clear n0_ n1_ n2_ n3_ n4_ n5_ n6_; clear hg hw hp_; obtain ⟨Ao46, co46, eo46⟩ := Kd.zN HO_16.out; subst eo46; have p269 : 0 ≤ (x74_2 : Int) := aD; have q269 : x74_2 < (t261.length : Int) := aD; obtain ⟨ad269, e269, hx269_0⟩ := Kd.at_int (Kd.zK HO_16.out).2.2 x74_2 p269 q269; cases e269; replace p269 := eq_true p269; replace q269 := eq_true q269)); try go_wp2_with (first | ((with_reducible refine gate_store (t := 53) (p := 87) rfl ?_); (try (rw [drewN_self wr]; generalize hq_ : World.drewN wr _ = wr; have n0_ := zA.mk (Kd.R_at hq_ HO_14.out); have n1_ := zA.mk (Kd.R_at hq_ HO_15.out); have n2_ := zA.mk (Kd.R_at hq_ HO_16.out); have n3_ := zA.mk (Kd.R_at hq_ HO_17.out); have n4_ := zA.mk (blk_at hq_ BK250.out); have n5_ := zA.mk (blk_at hq_ BK251.out); have n6_ := zA.mk (below_at hq_ HB.out); clear hq_ HO_14 HO_15 HO_16 HO_17 BK250 BK251 HB; have HO_14 := n0_; have HO_15 := n1_; have HO_16 := n2_; have HO_17 := n3_; have BK250 := n4_; have BK251 := n5_; have HB := n6_; clear n0_ n1_ n2_ n3_ n4_ n5_ n6_; (try (have HP44 := Kd.R_putg HO_17.out (x74_2 : Int) (rd t258 x74_2))))); refine store_event (t := 53) (p := 87) (v := ?vo_w45) (w1 := (wr.setCell ⟨go40, (x74_2 : Int).toNat, none⟩ (.int .u8 (rd t258 x74_2)))) ?hg ?ho ?hn ?hr ?_; (case ho => rfl); (case hg => rfl); (case hn => rfl); (case hr => first | (go_simp; done) | (go_simp; rfl)); intro w45 hw; have hg : wr.grownBy w45 (some go40) := (by rw [hw]; exact HP44.2); have hp_ : Kd.R (Kd.int .u8) 53 w45 w.heap.size (fun k_ => some k_ ≠ (.slice (some ad267) t258.length co43 : Value).ownBlock ∧ some k_ ≠ (v262 : Value).ownBlock ∧ k_ ≠ gb250 ∧ k_ ≠ gb251) (.slice (some ⟨go40, 0, none⟩) x17_2.length co35) y268 := (by rw [hw, Ny268.out]; exact HP44.1); clear HP44; have n0_ := zA.mk (Kd.R_over' (v := (.slice (some ⟨go40, 0, none⟩) x17_2.length co35)) (aR HO_14) (Kd.R_typed HO_17.out) (by decide) hg); have n1_ := zA.mk (Kd.R_after (v := (.slice (some ⟨go40, 0, none⟩) x17_2.length co35)) (v1 := (.slice (some ⟨go40, 0, none⟩) x17_2.length co35)) (ok := (fun k_ => some k_ ≠ (v262 : Value).ownBlock ∧ k_ ≠ gb250 ∧ k_ ≠ gb251)) (by (with_reducible repeat (first | apply Kd.zD | apply Kd.zE | apply Kd.zF)); exact Kd.zP HO_15.out (fun _ hk => ⟨⟨hk.1, ⟨hk.2.2.1, hk.2.2.2⟩⟩, hk.2.1⟩)) hg (.inl rfl)); have n2_ := zA.mk (Kd.R_after (v := (.slice (some ⟨go40, 0, none⟩) x17_2.length co35)) (v1 := (.slice (some ⟨go40, 0, none⟩) x17_2.length co35)) (ok := (fun k_ => some k_ ≠ (.slice (some ad267) t258.length co43 : Value).ownBlock ∧ k_ ≠ gb250 ∧ k_ ≠ gb251)) (by (with_reducible repeat (first | apply Kd.zD | apply Kd.zE | apply Kd.zF)); exact Kd.zP HO_16.out (fun _ hk => ⟨⟨hk.1, ⟨hk.2.2.1, hk.2.2.2⟩⟩, hk.2.1⟩)) hg (.inl rfl)); have n3_ := zA.mk (hp_); have n4_ := zA.mk (blk_grown (g := gb250) (o := ob250) (aB BK250) hg (Kd.R_away HO_17.out (fun _ hk => hk.2.2.1))); have n5_ := zA.mk (blk_grown (g := gb251) (o := ob251) (aB BK251) hg (Kd.R_away HO_17.out (fun _ hk => hk.2.2.2))); have n6_ := zA.mk ((by rw [hw]; exact below_set (HB.out) GB40.out : Below w.heap.size w w45)); clear HO_14; clear HO_15; clear HO_16; clear HO_17; clear BK250; clear BK251; clear HB; have HO_14 := n0_; have HO_15 := n1_; have HO_16 := n2_; have HO_17 := n3_; have BK250 := n4_; have BK251 := n5_; have HB := n6_; clear n0_ n1_ n2_ n3_ n4_ n5_ n6_; clear hg hw hp_; obtain ⟨Ao46, co46, eo46⟩ := Kd.zN HO_16.out; subst eo46; have p269 : 0 ≤ (x74_2 : Int) := aD; have q269 : x74_2 < (t261.length : Int) := aD; obtain ⟨ad269, e269, hx269_0⟩ := Kd.at_int (Kd.zK HO_16.out).2.2 x74_2 p269 q269; cases e269; replace p269 := eq_true p269; replace q269 := eq_true q269)))
     (try simp only [← hl17_2])
     go_roundg k2
     case measure => have := HK1.out; have := HK2.out; omega
     case rel => exact ⟨(y268), (wrap64 (x74_2 + 1)), aZ, H', ⟨by have := HK1.out; have := HK2.out; omega⟩, ⟨by (try simp only [hl17_2]); (with_reducible repeat (first | apply Kd.zD | apply Kd.zE | apply Kd.zF)); exact HO_14.out⟩, ⟨by (try simp only [hl17_2]); (with_reducible repeat (first | apply Kd.zD | apply Kd.zE | apply Kd.zF)); exact Kd.zP HO_15.out (fun _ hk => ⟨hk.1.1, ⟨hk.2, ⟨hk.1.2.1, hk.1.2.2⟩⟩⟩)⟩, ⟨by (try simp only [hl17_2]); (with_reducible repeat (first | apply Kd.zD | apply Kd.zE | apply Kd.zF)); exact Kd.zP HO_16.out (fun _ hk => ⟨hk.1.1, ⟨hk.2, ⟨hk.1.2.1, hk.1.2.2⟩⟩⟩)⟩, ⟨by (try simp only [hl17_2]); (with_reducible repeat (first | apply Kd.zD | apply Kd.zE | apply Kd.zF)); exact HO_17.out⟩, ⟨by (try simp only [hl17_2]); (with_reducible repeat (first | refine zC ?_ _ | refine blk_drew ?_ | refine zB ?_ _)); exact BK250.out⟩, ⟨by (try simp only [hl17_2]); (with_reducible repeat (first | refine zC ?_ _ | refine blk_drew ?_ | refine zB ?_ _)); exact BK251.out⟩, ⟨aL HB⟩⟩
    rw [if_neg c42] at H; have c42b0 : ((rd t261 x74_2) == 0) = false := beq_eq_false_iff_ne.mpr c42
    have c42b1 : ((rd t261 x74_2) != 0) = true := bne_iff_ne.mpr c42
    obtain ⟨y271, hy271⟩ : ∃ y_ : List Int, y_ = (y268.set (x74_2 : Int).toNat (rd t261 x74_2)) := ⟨_, rfl⟩; replace H : (stanzalaw10_CellsFiner.l1 k2 t251 t255 t258 t261 y271 (y264.length : Int) (wrap64 (x74_2 + 1))) = some r := by first | (rw [hy271]; with_reducible exact H) | (have H2_ := (Option.bind_some _ _).symm.trans H; rw [hy271]; with_reducible exact H2_) | (have H2_ := (Option.bind_some _ _).symm.trans H; with_reducible exact H2_) | with_reducible exact H | (rw [hy271]; exact H) | exact H
    have Ny271 := zA.mk hy271; clear hy271; have H' := zA.mk H
    clear H; obtain ⟨Ao48, co48, eo48⟩ := Kd.zN HO_15.out; subst eo48; have p267 : 0 ≤ (x74_2 : Int) := aD
    have q267 : x74_2 < (t258.length : Int) := aD
    obtain ⟨ad267, e267, hx267_0⟩ := Kd.at_int (Kd.zK HO_15.out).2.2 x74_2 p267 q267; cases e267
    replace p267 := eq_true p267; replace q267 := eq_true q267; have p40 : 0 ≤ (x74_2 : Int) := aD
    have q40 : (x74_2 : Int) < ((x17_2.length : Int) : Int) := aD
    obtain ⟨go40, co40, eo40, gb40, gl40, cl40, HG40⟩ := Kd.R_form HO_17.out (by omega)
    (first | cases eo40 | (injection eo40 with ea_ en_ ec_; (first | subst ea_ | (injection ea_ with ea_; subst ea_)); subst ec_; clear en_))
    have GB40 := zA.mk gb40; have GG40 := zA.mk HG40; clear gb40 gl40 HG40; obtain ⟨hx40_0, hf40_0⟩ := Kd.R_celln 0 HO_17.out (x74_2 : Int) p40 q40; replace p40 := eq_true p40; replace q40 := eq_true q40; have HP49 := Kd.R_putg HO_17.out (x74_2 : Int) (rd t258 x74_2); go_wp2_with (first | ((with_reducible refine gate_store (t := 53) (p := 87) rfl ?_); (try (rw [drewN_self wr]; generalize hq_ : World.drewN wr _ = wr; have n0_ := zA.mk (Kd.R_at hq_ HO_14.out); have n1_ := zA.mk (Kd.R_at hq_ HO_15.out); have n2_ := zA.mk (Kd.R_at hq_ HO_16.out); have n3_ := zA.mk (Kd.R_at hq_ HO_17.out); have n4_ := zA.mk (blk_at hq_ BK250.out); have n5_ := zA.mk (blk_at hq_ BK251.out); have n6_ := zA.mk (below_at hq_ HB.out); clear hq_ HO_14 HO_15 HO_16 HO_17 BK250 BK251 HB; have HO_14 := n0_; have HO_15 := n1_; have HO_16 := n2_; have HO_17 := n3_; have BK250 := n4_; have BK251 := n5_; have HB := n6_; clear n0_ n1_ n2_ n3_ n4_ n5_ n6_; (try (have HP49 := Kd.R_putg HO_17.out (x74_2 : Int) (rd t258 x74_2))))); refine store_event (t := 53) (p := 87) (v := ?vo_w50) (w1 := (wr.setCell ⟨go40, (x74_2 : Int).toNat, none⟩ (.int .u8 (rd t258 x74_2)))) ?hg ?ho ?hn ?hr ?_; (case ho => rfl); (case hg => rfl); (case hn => rfl); (case hr => first | (go_simp; done) | (go_simp; rfl)); intro w50 hw; have hg : wr.grownBy w50 (some go40) := (by rw [hw]; exact HP49.2); have hp_ : Kd.R (Kd.int .u8) 53 w50 w.heap.size (fun k_ => some k_ ≠ (.slice (some ad267) t258.length co48 : Value).ownBlock ∧ some k_ ≠ (v262 : Value).ownBlock ∧ k_ ≠ gb250 ∧ k_ ≠ gb251) (.slice (some ⟨go40, 0, none⟩) x17_2.length co35) y268 := (by rw [hw, Ny268.out]; exact HP49.1); clear HP49; have n0_ := zA.mk (Kd.R_over' (v := (.slice (some ⟨go40, 0, none⟩) x17_2.length co35)) (aR HO_14) (Kd.R_typed HO_17.out) (by decide) hg); have n1_ := zA.mk (Kd.R_after (v := (.slice (some ⟨go40, 0, none⟩) x17_2.length co35)) (v1 := (.slice (some ⟨go40, 0, none⟩) x17_2.length co35)) (ok := (fun k_ => some k_ ≠ (v262 : Value).ownBlock ∧ k_ ≠ gb250 ∧ k_ ≠ gb251)) (by (with_reducible repeat (first | apply Kd.zD | apply Kd.zE | apply Kd.zF)); exact Kd.zP HO_15.out (fun _ hk => ⟨⟨hk.1, ⟨hk.2.2.1, hk.2.2.2⟩⟩, hk.2.1⟩)) hg (.inl rfl)); have n2_ := zA.mk (Kd.R_after (v := (.slice (some ⟨go40, 0, none⟩) x17_2.length co35)) (v1 := (.slice (some ⟨go40, 0, none⟩) x17_2.length co35)) (ok := (fun k_ => some k_ ≠ (.slice (some ad267) t258.length co48 : Value).ownBlock ∧ k_ ≠ gb250 ∧ k_ ≠ gb251)) (by (with_reducible repeat (first | apply Kd.zD | apply Kd.zE | apply Kd.zF)); exact Kd.zP HO_16.out (fun _ hk => ⟨⟨hk.1, ⟨hk.2.2.1, hk.2.2.2⟩⟩, hk.2.1⟩)) hg (.inl rfl)); have n3_ := zA.mk (hp_); have n4_ := zA.mk (blk_grown (g := gb250) (o := ob250) (aB BK250) hg (Kd.R_away HO_17.out (fun _ hk => hk.2.2.1))); have n5_ := zA.mk (blk_grown (g := gb251) (o := ob251) (aB BK251) hg (Kd.R_away HO_17.out (fun _ hk => hk.2.2.2))); have n6_ := zA.mk ((by rw [hw]; exact below_set (HB.out) GB40.out : Below w.heap.size w w50)); clear HO_14; clear HO_15; clear HO_16; clear HO_17; clear BK250; clear BK251; clear HB; have HO_14 := n0_; have HO_15 := n1_; have HO_16 := n2_; have HO_17 := n3_; have BK250 := n4_; have BK251 := n5_; have HB := n6_; clear n0_ n1_ n2_ n3_ n4_ n5_ n6_; clear hg hw hp_; obtain ⟨Ao51, co51, eo51⟩ := Kd.zN HO_16.out; subst eo51; have p269 : 0 ≤ (x74_2 : Int) := aD; have q269 : x74_2 < (t261.length : Int) := aD; obtain ⟨ad269, e269, hx269_0⟩ := Kd.at_int (Kd.zK HO_16.out).2.2 x74_2 p269 q269; cases e269; replace p269 := eq_true p269; replace q269 := eq_true q269; have p270 : 0 ≤ (x74_2 : Int) := aD; have q270 : x74_2 < (t261.length : Int) := aD; obtain ⟨ad270, e270, hx270_0⟩ := Kd.at_int (Kd.zK HO_16.out).2.2 x74_2 p270 q270; obtain rfl : ad269 = ad270 := (by injection e270); replace p270 := eq_true p270; replace q270 := eq_true q270; have p47 : 0 ≤ (x74_2 : Int) := aD; have q47 : (x74_2 : Int) < ((x17_2.length : Int) : Int) := aD; obtain ⟨hx47_0, hf47_0⟩ := Kd.R_celln 0 HO_17.out (x74_2 : Int) p47 q47; replace p47 := eq_true p47; replace q47 := eq_true q47; obtain ⟨hy52_, hz52_⟩ := Kd.R_celln 0 HO_17.out (x74_2 : Int) (aD) (aD); have HP52 := Kd.R_putg HO_17.out (x74_2 : Int) (rd t261 x74_2)) | ((with_reducible refine gate_store (t := 53) (p := 105) rfl ?_); (try (rw [drewN_self w50]; generalize hq_ : World.drewN w50 _ = w50; have n0_ := zA.mk (Kd.R_at hq_ HO_14.out); have n1_ := zA.mk (Kd.R_at hq_ HO_15.out); have n2_ := zA.mk (Kd.R_at hq_ HO_16.out); have n3_ := zA.mk (Kd.R_at hq_ HO_17.out); have n4_ := zA.mk (blk_at hq_ BK250.out); have n5_ := zA.mk (blk_at hq_ BK251.out); have n6_ := zA.mk (below_at hq_ HB.out); clear hq_ HO_14 HO_15 HO_16 HO_17 BK250 BK251 HB; have HO_14 := n0_; have HO_15 := n1_; have HO_16 := n2_; have HO_17 := n3_; have BK250 := n4_; have BK251 := n5_; have HB := n6_; clear n0_ n1_ n2_ n3_ n4_ n5_ n6_; (try (obtain ⟨hy52_, hz52_⟩ := Kd.R_celln 0 HO_17.out (x74_2 : Int) (aD) (aD))); (try (have HP52 := Kd.R_putg HO_17.out (x74_2 : Int) (rd t261 x74_2))))); refine store_event (t := 53) (p := 105) (v := ?vo_w53) (w1 := (w50.setCell ⟨go40, (x74_2 : Int).toNat, none⟩ (.int .u8 (rd t261 x74_2)))) ?hg ?ho ?hn ?hr ?_; (case ho => rfl); (case hg => rfl); (case hn => rfl); (case hr => first | (go_simp; done) | (go_simp; rfl)); intro w53 hw; have hg : w50.grownBy w53 (some go40) := (by rw [hw]; exact HP52.2); have hp_ : Kd.R (Kd.int .u8) 53 w53 w.heap.size (fun k_ => some k_ ≠ (.slice (some ad267) t258.length co48 : Value).ownBlock ∧ some k_ ≠ (.slice (some ad269) t261.length co51 : Value).ownBlock ∧ k_ ≠ gb250 ∧ k_ ≠ gb251) (.slice (some ⟨go40, 0, none⟩) x17_2.length co35) y271 := (by rw [hw, Ny271.out]; exact HP52.1); clear HP52; have n0_ := zA.mk (Kd.R_over' (v := (.slice (some ⟨go40, 0, none⟩) x17_2.length co35)) (aR HO_14) (Kd.R_typed HO_17.out) (by decide) hg); have n1_ := zA.mk (Kd.R_after (v := (.slice (some ⟨go40, 0, none⟩) x17_2.length co35)) (v1 := (.slice (some ⟨go40, 0, none⟩) x17_2.length co35)) (ok := (fun k_ => some k_ ≠ (.slice (some ad269) t261.length co51 : Value).ownBlock ∧ k_ ≠ gb250 ∧ k_ ≠ gb251)) (aR HO_15) hg (.inl rfl)); have n2_ := zA.mk (Kd.R_after (v := (.slice (some ⟨go40, 0, none⟩) x17_2.length co35)) (v1 := (.slice (some ⟨go40, 0, none⟩) x17_2.length co35)) (ok := (fun k_ => some k_ ≠ (.slice (some ad267) t258.length co48 : Value).ownBlock ∧ k_ ≠ gb250 ∧ k_ ≠ gb251)) (aR HO_16) hg (.inl rfl)); have n3_ := zA.mk (hp_); have n4_ := zA.mk (blk_grown (g := gb250) (o := ob250) (aB BK250) hg (Kd.R_away HO_17.out (fun _ hk => hk.2.2.1))); have n5_ := zA.mk (blk_grown (g := gb251) (o := ob251) (aB BK251) hg (Kd.R_away HO_17.out (fun _ hk => hk.2.2.2))); have n6_ := zA.mk ((by rw [hw]; exact below_set (HB.out) GB40.out : Below w.heap.size w w53)); clear HO_14; clear HO_15; clear HO_16; clear HO_17; clear BK250; clear BK251; clear HB; have HO_14 := n0_; have HO_15 := n1_; have HO_16 := n2_; have HO_17 := n3_; have BK250 := n4_; have BK251 := n5_; have HB := n6_; clear n0_ n1_ n2_ n3_ n4_ n5_ n6_; clear hg hw hp_))
    repeat (go_quiet (first | ((with_reducible refine gate_store (t := 53) (p := 87) rfl ?_); (try (rw [drewN_self wr]; generalize hq_ : World.drewN wr _ = wr; have n0_ := zA.mk (Kd.R_at hq_ HO_14.out); have n1_ := zA.mk (Kd.R_at hq_ HO_15.out); have n2_ := zA.mk (Kd.R_at hq_ HO_16.out); have n3_ := zA.mk (Kd.R_at hq_ HO_17.out); have n4_ := zA.mk (blk_at hq_ BK250.out); have n5_ := zA.mk (blk_at hq_ BK251.out); have n6_ := zA.mk (below_at hq_ HB.out); clear hq_ HO_14 HO_15 HO_16 HO_17 BK250 BK251 HB; have HO_14 := n0_; have HO_15 := n1_; have HO_16 := n2_; have HO_17 := n3_; have BK250 := n4_; have BK251 := n5_; have HB := n6_; clear n0_ n1_ n2_ n3_ n4_ n5_ n6_; (try (have HP49 := Kd.R_putg HO_17.out (x74_2 : Int) (rd t258 x74_2))))); refine store_event (t := 53) (p := 87) (v := ?vo_w50) (w1 := (wr.setCell ⟨go40, (x74_2 : Int).toNat, none⟩ (.int .u8 (rd t258 x74_2)))) ?hg ?ho ?hn ?hr ?_; (case ho => rfl); (case hg => rfl); (case hn => rfl); (case hr => first | (go_simp; done) | (go_simp; rfl)); intro w50 hw; have hg : wr.grownBy w50 (some go40) := (by rw [hw]; exact HP49.2); have hp_ : Kd.R (Kd.int .u8) 53 w50 w.heap.size (fun k_ => some k_ ≠ (.slice (some ad267) t258.length co48 : Value).ownBlock ∧ some k_ ≠ (v262 : Value).ownBlock ∧ k_ ≠ gb250 ∧ k_ ≠ gb251) (.slice (some ⟨go40, 0, none⟩) x17_2.length co35) y268 := (by rw [hw, Ny268.out]; exact HP49.1); clear HP49; have n0_ := zA.mk (Kd.R_over' (v := (.slice (some ⟨go40, 0, none⟩) x17_2.length co35)) (aR HO_14) (Kd.R_typed HO_17.out) (by decide) hg); have n1_ := zA.mk (Kd.R_after (v := (.slice (some ⟨go40, 0, none⟩) x17_2.length co35)) (v1 := (.slice (some ⟨go40, 0, none⟩) x17_2.length co35)) (ok := (fun k_ => some k_ ≠ (v262 : Value).ownBlock ∧ k_ ≠ gb250 ∧ k_ ≠ gb251)) (by (with_reducible repeat (first | apply Kd.zD | apply Kd.zE | apply Kd.zF)); exact Kd.zP HO_15.out (fun _ hk => ⟨⟨hk.1, ⟨hk.2.2.1, hk.2.2.2⟩⟩, hk.2.1⟩)) hg (.inl rfl)); have n2_ := zA.mk (Kd.R_after (v := (.slice (some ⟨go40, 0, none⟩) x17_2.length co35)) (v1 := (.slice (some ⟨go40, 0, none⟩) x17_2.length co35)) (ok := (fun k_ => some k_ ≠ (.slice (some ad267) t258.length co48 : Value).ownBlock ∧ k_ ≠ gb250 ∧ k_ ≠ gb251)) (by (with_reducible repeat (first | apply Kd.zD | apply Kd.zE | apply Kd.zF)); exact Kd.zP HO_16.out (fun _ hk => ⟨⟨hk.1, ⟨hk.2.2.1, hk.2.2.2⟩⟩, hk.2.1⟩)) hg (.inl rfl)); have n3_ := zA.mk (hp_); have n4_ := zA.mk (blk_grown (g := gb250) (o := ob250) (aB BK250) hg (Kd.R_away HO_17.out (fun _ hk => hk.2.2.1))); have n5_ := zA.mk (blk_grown (g := gb251) (o := ob251) (aB BK251) hg (Kd.R_away HO_17.out (fun _ hk => hk.2.2.2))); have n6_ := zA.mk ((by rw [hw]; exact below_set (HB.out) GB40.out : Below w.heap.size w w50)); clear HO_14; clear HO_15; clear HO_16; clear HO_17; clear BK250; clear BK251; clear HB; have HO_14 := n0_; have HO_15 := n1_; have HO_16 := n2_; have HO_17 := n3_; have BK250 := n4_; have BK251 := n5_; have HB := n6_; clear n0_ n1_ n2_ n3_ n4_ n5_ n6_; clear hg hw hp_; obtain ⟨Ao51, co51, eo51⟩ := Kd.zN HO_16.out; subst eo51; have p269 : 0 ≤ (x74_2 : Int) := aD; have q269 : x74_2 < (t261.length : Int) := aD; obtain ⟨ad269, e269, hx269_0⟩ := Kd.at_int (Kd.zK HO_16.out).2.2 x74_2 p269 q269; cases e269; replace p269 := eq_true p269; replace q269 := eq_true q269; have p270 : 0 ≤ (x74_2 : Int) := aD; have q270 : x74_2 < (t261.length : Int) := aD; obtain ⟨ad270, e270, hx270_0⟩ := Kd.at_int (Kd.zK HO_16.out).2.2 x74_2 p270 q270; obtain rfl : ad269 = ad270 := (by injection e270); replace p270 := eq_true p270; replace q270 := eq_true q270; have p47 : 0 ≤ (x74_2 : Int) := aD; have q47 : (x74_2 : Int) < ((x17_2.length : Int) : Int) := aD; obtain ⟨hx47_0, hf47_0⟩ := Kd.R_celln 0 HO_17.out (x74_2 : Int) p47 q47; replace p47 := eq_true p47; replace q47 := eq_true q47; obtain ⟨hy52_, hz52_⟩ := Kd.R_celln 0 HO_17.out (x74_2 : Int) (aD) (aD); have HP52 := Kd.R_putg HO_17.out (x74_2 : Int) (rd t261 x74_2)) | ((with_reducible refine gate_store (t := 53) (p := 105) rfl ?_); (try (rw [drewN_self w50]; generalize hq_ : World.drewN w50 _ = w50; have n0_ := zA.mk (Kd.R_at hq_ HO_14.out); have n1_ := zA.mk (Kd.R_at hq_ HO_15.out); have n2_ := zA.mk (Kd.R_at hq_ HO_16.out); have n3_ := zA.mk (Kd.R_at hq_ HO_17.out); have n4_ := zA.mk (blk_at hq_ BK250.out); have n5_ := zA.mk (blk_at hq_ BK251.out); have n6_ := zA.mk (below_at hq_ HB.out); clear hq_ HO_14 HO_15 HO_16 HO_17 BK250 BK251 HB; have HO_14 := n0_; have HO_15 := n1_; have HO_16 := n2_; have HO_17 := n3_; have BK250 := n4_; have BK251 := n5_; have HB := n6_; clear n0_ n1_ n2_ n3_ n4_ n5_ n6_; (try (obtain ⟨hy52_, hz52_⟩ := Kd.R_celln 0 HO_17.out (x74_2 : Int) (aD) (aD))); (try (have HP52 := Kd.R_putg HO_17.out (x74_2 : Int) (rd t261 x74_2))))); refine store_event (t := 53) (p := 105) (v := ?vo_w53) (w1 := (w50.setCell ⟨go40, (x74_2 : Int).toNat, none⟩ (.int .u8 (rd t261 x74_2)))) ?hg ?ho ?hn ?hr ?_; (case ho => rfl); (case hg => rfl); (case hn => rfl); (case hr => first | (go_simp; done) | (go_simp; rfl)); intro w53 hw; have hg : w50.grownBy w53 (some go40) := (by rw [hw]; exact HP52.2); have hp_ : Kd.R (Kd.int .u8) 53 w53 w.heap.size (fun k_ => some k_ ≠ (.slice (some ad267) t258.length co48 : Value).ownBlock ∧ some k_ ≠ (.slice (some ad269) t261.length co51 : Value).ownBlock ∧ k_ ≠ gb250 ∧ k_ ≠ gb251) (.slice (some ⟨go40, 0, none⟩) x17_2.length co35) y271 := (by rw [hw, Ny271.out]; exact HP52.1); clear HP52; have n0_ := zA.mk (Kd.R_over' (v := (.slice (some ⟨go40, 0, none⟩) x17_2.length co35)) (aR HO_14) (Kd.R_typed HO_17.out) (by decide) hg); have n1_ := zA.mk (Kd.R_after (v := (.slice (some ⟨go40, 0, none⟩) x17_2.length co35)) (v1 := (.slice (some ⟨go40, 0, none⟩) x17_2.length co35)) (ok := (fun k_ => some k_ ≠ (.slice (some ad269) t261.length co51 : Value).ownBlock ∧ k_ ≠ gb250 ∧ k_ ≠ gb251)) (aR HO_15) hg (.inl rfl)); have n2_ := zA.mk (Kd.R_after (v := (.slice (some ⟨go40, 0, none⟩) x17_2.length co35)) (v1 := (.slice (some ⟨go40, 0, none⟩) x17_2.length co35)) (ok := (fun k_ => some k_ ≠ (.slice (some ad267) t258.length co48 : Value).ownBlock ∧ k_ ≠ gb250 ∧ k_ ≠ gb251)) (aR HO_16) hg (.inl rfl)); have n3_ := zA.mk (hp_); have n4_ := zA.mk (blk_grown (g := gb250) (o := ob250) (aB BK250) hg (Kd.R_away HO_17.out (fun _ hk => hk.2.2.1))); have n5_ := zA.mk (blk_grown (g := gb251) (o := ob251) (aB BK251) hg (Kd.R_away HO_17.out (fun _ hk => hk.2.2.2))); have n6_ := zA.mk ((by rw [hw]; exact below_set (HB.out) GB40.out : Below w.heap.size w w53)); clear HO_14; clear HO_15; clear HO_16; clear HO_17; clear BK250; clear BK251; clear HB; have HO_14 := n0_; have HO_15 := n1_; have HO_16 := n2_; have HO_17 := n3_; have BK250 := n4_; have BK251 := n5_; have HB := n6_; clear n0_ n1_ n2_ n3_ n4_ n5_ n6_; clear hg hw hp_)); try go_wp2_with (first | ((with_reducible refine gate_store (t := 53) (p := 87) rfl ?_); (try (rw [drewN_self wr]; generalize hq_ : World.drewN wr _ = wr; have n0_ := zA.mk (Kd.R_at hq_ HO_14.out); have n1_ := zA.mk (Kd.R_at hq_ HO_15.out); have n2_ := zA.mk (Kd.R_at hq_ HO_16.out); have n3_ := zA.mk (Kd.R_at hq_ HO_17.out); have n4_ := zA.mk (blk_at hq_ BK250.out); have n5_ := zA.mk (blk_at hq_ BK251.out); have n6_ := zA.mk (below_at hq_ HB.out); clear hq_ HO_14 HO_15 HO_16 HO_17 BK250 BK251 HB; have HO_14 := n0_; have HO_15 := n1_; have HO_16 := n2_; have HO_17 := n3_; have BK250 := n4_; have BK251 := n5_; have HB := n6_; clear n0_ n1_ n2_ n3_ n4_ n5_ n6_; (try (have HP49 := Kd.R_putg HO_17.out (x74_2 : Int) (rd t258 x74_2))))); refine store_event (t := 53) (p := 87) (v := ?vo_w50) (w1 := (wr.setCell ⟨go40, (x74_2 : Int).toNat, none⟩ (.int .u8 (rd t258 x74_2)))) ?hg ?ho ?hn ?hr ?_; (case ho => rfl); (case hg => rfl); (case hn => rfl); (case hr => first | (go_simp; done) | (go_simp; rfl)); intro w50 hw; have hg : wr.grownBy w50 (some go40) := (by rw [hw]; exact HP49.2); have hp_ : Kd.R (Kd.int .u8) 53 w50 w.heap.size (fun k_ => some k_ ≠ (.slice (some ad267) t258.length co48 : Value).ownBlock ∧ some k_ ≠ (v262 : Value).ownBlock ∧ k_ ≠ gb250 ∧ k_ ≠ gb251) (.slice (some ⟨go40, 0, none⟩) x17_2.length co35) y268 := (by rw [hw, Ny268.out]; exact HP49.1); clear HP49; have n0_ := zA.mk (Kd.R_over' (v := (.slice (some ⟨go40, 0, none⟩) x17_2.length co35)) (aR HO_14) (Kd.R_typed HO_17.out) (by decide) hg); have n1_ := zA.mk (Kd.R_after (v := (.slice (some ⟨go40, 0, none⟩) x17_2.length co35)) (v1 := (.slice (some ⟨go40, 0, none⟩) x17_2.length co35)) (ok := (fun k_ => some k_ ≠ (v262 : Value).ownBlock ∧ k_ ≠ gb250 ∧ k_ ≠ gb251)) (by (with_reducible repeat (first | apply Kd.zD | apply Kd.zE | apply Kd.zF)); exact Kd.zP HO_15.out (fun _ hk => ⟨⟨hk.1, ⟨hk.2.2.1, hk.2.2.2⟩⟩, hk.2.1⟩)) hg (.inl rfl)); have n2_ := zA.mk (Kd.R_after (v := (.slice (some ⟨go40, 0, none⟩) x17_2.length co35)) (v1 := (.slice (some ⟨go40, 0, none⟩) x17_2.length co35)) (ok := (fun k_ => some k_ ≠ (.slice (some ad267) t258.length co48 : Value).ownBlock ∧ k_ ≠ gb250 ∧ k_ ≠ gb251)) (by (with_reducible repeat (first | apply Kd.zD | apply Kd.zE | apply Kd.zF)); exact Kd.zP HO_16.out (fun _ hk => ⟨⟨hk.1, ⟨hk.2.2.1, hk.2.2.2⟩⟩, hk.2.1⟩)) hg (.inl rfl)); have n3_ := zA.mk (hp_); have n4_ := zA.mk (blk_grown (g := gb250) (o := ob250) (aB BK250) hg (Kd.R_away HO_17.out (fun _ hk => hk.2.2.1))); have n5_ := zA.mk (blk_grown (g := gb251) (o := ob251) (aB BK251) hg (Kd.R_away HO_17.out (fun _ hk => hk.2.2.2))); have n6_ := zA.mk ((by rw [hw]; exact below_set (HB.out) GB40.out : Below w.heap.size w w50)); clear HO_14; clear HO_15; clear HO_16; clear HO_17; clear BK250; clear BK251; clear HB; have HO_14 := n0_; have HO_15 := n1_; have HO_16 := n2_; have HO_17 := n3_; have BK250 := n4_; have BK251 := n5_; have HB := n6_; clear n0_ n1_ n2_ n3_ n4_ n5_ n6_; clear hg hw hp_; obtain ⟨Ao51, co51, eo51⟩ := Kd.zN HO_16.out; subst eo51; have p269 : 0 ≤ (x74_2 : Int) := aD; have q269 : x74_2 < (t261.length : Int) := aD; obtain ⟨ad269, e269, hx269_0⟩ := Kd.at_int (Kd.zK HO_16.out).2.2 x74_2 p269 q269; cases e269; replace p269 := eq_true p269; replace q269 := eq_true q269; have p270 : 0 ≤ (x74_2 : Int) := aD; have q270 : x74_2 < (t261.length : Int) := aD; obtain ⟨ad270, e270, hx270_0⟩ := Kd.at_int (Kd.zK HO_16.out).2.2 x74_2 p270 q270; obtain rfl : ad269 = ad270 := (by injection e270); replace p270 := eq_true p270; replace q270 := eq_true q270; have p47 : 0 ≤ (x74_2 : Int) := aD; have q47 : (x74_2 : Int) < ((x17_2.length : Int) : Int) := aD; obtain ⟨hx47_0, hf47_0⟩ := Kd.R_celln 0 HO_17.out (x74_2 : Int) p47 q47; replace p47 := eq_true p47; replace q47 := eq_true q47; obtain ⟨hy52_, hz52_⟩ := Kd.R_celln 0 HO_17.out (x74_2 : Int) (aD) (aD); have HP52 := Kd.R_putg HO_17.out (x74_2 : Int) (rd t261 x74_2)) | ((with_reducible refine gate_store (t := 53) (p := 105) rfl ?_); (try (rw [drewN_self w50]; generalize hq_ : World.drewN w50 _ = w50; have n0_ := zA.mk (Kd.R_at hq_ HO_14.out); have n1_ := zA.mk (Kd.R_at hq_ HO_15.out); have n2_ := zA.mk (Kd.R_at hq_ HO_16.out); have n3_ := zA.mk (Kd.R_at hq_ HO_17.out); have n4_ := zA.mk (blk_at hq_ BK250.out); have n5_ := zA.mk (blk_at hq_ BK251.out); have n6_ := zA.mk (below_at hq_ HB.out); clear hq_ HO_14 HO_15 HO_16 HO_17 BK250 BK251 HB; have HO_14 := n0_; have HO_15 := n1_; have HO_16 := n2_; have HO_17 := n3_; have BK250 := n4_; have BK251 := n5_; have HB := n6_; clear n0_ n1_ n2_ n3_ n4_ n5_ n6_; (try (obtain ⟨hy52_, hz52_⟩ := Kd.R_celln 0 HO_17.out (x74_2 : Int) (aD) (aD))); (try (have HP52 := Kd.R_putg HO_17.out (x74_2 : Int) (rd t261 x74_2))))); refine store_event (t := 53) (p := 105) (v := ?vo_w53) (w1 := (w50.setCell ⟨go40, (x74_2 : Int).toNat, none⟩ (.int .u8 (rd t261 x74_2)))) ?hg ?ho ?hn ?hr ?_; (case ho => rfl); (case hg => rfl); (case hn => rfl); (case hr => first | (go_simp; done) | (go_simp; rfl)); intro w53 hw; have hg : w50.grownBy w53 (some go40) := (by rw [hw]; exact HP52.2); have hp_ : Kd.R (Kd.int .u8) 53 w53 w.heap.size (fun k_ => some k_ ≠ (.slice (some ad267) t258.length co48 : Value).ownBlock ∧ some k_ ≠ (.slice (some ad269) t261.length co51 : Value).ownBlock ∧ k_ ≠ gb250 ∧ k_ ≠ gb251) (.slice (some ⟨go40, 0, none⟩) x17_2.length co35) y271 := (by rw [hw, Ny271.out]; exact HP52.1); clear HP52; have n0_ := zA.mk (Kd.R_over' (v := (.slice (some ⟨go40, 0, none⟩) x17_2.length co35)) (aR HO_14) (Kd.R_typed HO_17.out) (by decide) hg); have n1_ := zA.mk (Kd.R_after (v := (.slice (some ⟨go40, 0, none⟩) x17_2.length co35)) (v1 := (.slice (some ⟨go40, 0, none⟩) x17_2.length co35)) (ok := (fun k_ => some k_ ≠ (.slice (some ad269) t261.length co51 : Value).ownBlock ∧ k_ ≠ gb250 ∧ k_ ≠ gb251)) (aR HO_15) hg (.inl rfl)); have n2_ := zA.mk (Kd.R_after (v := (.slice (some ⟨go40, 0, none⟩) x17_2.length co35)) (v1 := (.slice (some ⟨go40, 0, none⟩) x17_2.length co35)) (ok := (fun k_ => some k_ ≠ (.slice (some ad267) t258.length co48 : Value).ownBlock ∧ k_ ≠ gb250 ∧ k_ ≠ gb251)) (aR HO_16) hg (.inl rfl)); have n3_ := zA.mk (hp_); have n4_ := zA.mk (blk_grown (g := gb250) (o := ob250) (aB BK250) hg (Kd.R_away HO_17.out (fun _ hk => hk.2.2.1))); have n5_ := zA.mk (blk_grown (g := gb251) (o := ob251) (aB BK251) hg (Kd.R_away HO_17.out (fun _ hk => hk.2.2.2))); have n6_ := zA.mk ((by rw [hw]; exact below_set (HB.out) GB40.out : Below w.heap.size w w53)); clear HO_14; clear HO_15; clear HO_16; clear HO_17; clear BK250; clear BK251; clear HB; have HO_14 := n0_; have HO_15 := n1_; have HO_16 := n2_; have HO_17 := n3_; have BK250 := n4_; have BK251 := n5_; have HB := n6_; clear n0_ n1_ n2_ n3_ n4_ n5_ n6_; clear hg hw hp_)))
    (try simp only [← hl17_2])
    go_roundg k2
    case measure => have := HK1.out; have := HK2.out; omega
    case rel => exact ⟨(y271), (wrap64 (x74_2 + 1)), aZ, H', ⟨by have := HK1.out; have := HK2.out; omega⟩, ⟨by (try simp only [hl17_2]); (with_reducible repeat (first | apply Kd.zD | apply Kd.zE | apply Kd.zF)); exact HO_14.out⟩, ⟨by (try simp only [hl17_2]); (with_reducible repeat (first | apply Kd.zD | apply Kd.zE | apply Kd.zF)); exact Kd.zP HO_15.out (fun _ hk => ⟨hk.1.1, ⟨hk.2, ⟨hk.1.2.1, hk.1.2.2⟩⟩⟩)⟩, ⟨by (try simp only [hl17_2]); (with_reducible repeat (first | apply Kd.zD | apply Kd.zE | apply Kd.zF)); exact Kd.zP HO_16.out (fun _ hk => ⟨hk.1.1, ⟨hk.2, ⟨hk.1.2.1, hk.1.2.2⟩⟩⟩)⟩, ⟨by (try simp only [hl17_2]); (with_reducible repeat (first | apply Kd.zD | apply Kd.zE | apply Kd.zF)); exact HO_17.out⟩, ⟨by (try simp only [hl17_2]); (with_reducible repeat (first | refine zC ?_ _ | refine blk_drew ?_ | refine zB ?_ _)); exact BK250.out⟩, ⟨by (try simp only [hl17_2]); (with_reducible repeat (first | refine zC ?_ _ | refine blk_drew ?_ | refine zB ?_ _)); exact BK251.out⟩, ⟨aL HB⟩⟩
   rw [if_neg c36] at H; have c36b0 : decide (x74_2 < (y264.length : Int)) = false := decide_eq_false c36
   (try simp only [hl17_2] at c36b0)
   clear c36; replace H := Option.bind_eq_some_iff.mp H; obtain ⟨⟨t275, t276⟩, A710, H⟩ := H; replace H : ((cells_Make.f k2 t255 x17_2 t251).bind fun bt281 => (stanzalaw10_CellsFiner.l2 k2 t276 bt281.1 bt281.2 0 t275 (t275.length : Int) 0)) = some r := H
   have A71 := zA.mk A710; clear A710; replace H := Option.bind_eq_some_iff.mp H; obtain ⟨⟨t281, t282⟩, A720, H⟩ := H; replace H : (stanzalaw10_CellsFiner.l2 k2 t276 t281 t282 0 t275 (t275.length : Int) 0) = some r := H; have A72 := zA.mk A720; clear A720; have H' := zA.mk H
   clear H; obtain ⟨Ao73, co73, eo73⟩ := Kd.zN HO_15.out; subst eo73; go_wp2_with (first | (go_at_call 17; (with_reducible refine (cells_Make.calls k2 _ _ t255 _ _ t258 (.pointer (some ⟨gb250, 0, none⟩)) t251 t275 t276 _ ?side1 ?side2 ?side3 ?side4 ?side5 A71.out).mono ?_); (case side1 => exact aF HO_14); (case side2 => exact (Kd.zK HO_14.out).2.1); (case side3 => exact aF HO_15); (case side4 => exact (Kd.zK HO_15.out).2.1); (case side5 => exact TabO.at HTt251.out (aB BK250) (aB BK251)); rintro e w74 ⟨v277, v279, rfl, ho0, ho1, hb⟩; have n0_ := zA.mk (Kd.zL (aR HO_14) hb); have n1_ := zA.mk (Kd.zL (aR HO_15) hb); have n2_ := zA.mk (Kd.zL (aR HO_16) hb); have n3_ := zA.mk (Kd.zL (aR HO_17) hb); have n4_ := zA.mk (Kd.zO (Kd.R_newB (Kd.R_newB ho0 (g := gb250) (o := ob250) (aB BK250)) (g := gb251) (o := ob251) (aB BK251)) (below_size (aL HB))); have n5_ := zA.mk (Kd.zO (Kd.R_newB (Kd.R_newB ho1 (g := gb250) (o := ob250) (aB BK250)) (g := gb251) (o := ob251) (aB BK251)) (below_size (aL HB))); have n6_ := zA.mk (blk_below (g := gb250) (o := ob250) (aB BK250) hb); have n7_ := zA.mk (blk_below (g := gb251) (o := ob251) (aB BK251) hb); have n8_ := zA.mk (below_step (aL HB) hb); clear HO_14; clear HO_15; clear HO_16; clear HO_17; clear BK250; clear BK251; clear HB; have HO_14 := n0_; have HO_15 := n1_; have HO_16 := n2_; have HO_17 := n3_; have HO278 := n4_; have HO280 := n5_; have BK250 := n6_; have BK251 := n7_; have HB := n8_; clear n0_ n1_ n2_ n3_ n4_ n5_ n6_ n7_ n8_; (try clear hb); (try clear hb2); (try clear hk); (try clear hi); (try clear ho0); (try clear ho1)) | (go_at_call 17; (with_reducible refine (cells_Make.calls k2 _ _ t255 _ _ x17_2 (.pointer (some ⟨gb250, 0, none⟩)) t251 t281 t282 _ ?side1 ?side2 ?side3 ?side4 ?side5 A72.out).mono ?_); (case side1 => exact aF HO_14); (case side2 => exact (Kd.zK HO_14.out).2.1); (case side3 => exact aF HO_17); (case side4 => exact (Kd.zK HO_17.out).2.1); (case side5 => exact TabO.at HTt251.out (aB BK250) (aB BK251)); rintro e w75 ⟨v283, v285, rfl, ho0, ho1, hb⟩; have n0_ := zA.mk (Kd.zL (aR HO_14) hb); have n1_ := zA.mk (Kd.zL (aR HO_15) hb); have n2_ := zA.mk (Kd.zL (aR HO_16) hb); have n3_ := zA.mk (Kd.zL (aR HO_17) hb); have n4_ := zA.mk (Kd.R_elder' (aR HO278) (Kd.R_base ho0) hb); have n5_ := zA.mk (Kd.R_elder' (aR HO280) (Kd.R_base ho1) hb); have n6_ := zA.mk (Kd.zO (Kd.R_newB (Kd.R_newB (Kd.R_new' ho0 (Kd.R_lt (aR HO278))) (g := gb250) (o := ob250) (aB BK250)) (g := gb251) (o := ob251) (aB BK251)) (below_size (aL HB))); have n7_ := zA.mk (Kd.zO (Kd.R_newB (Kd.R_newB (Kd.R_new' ho1 (Kd.R_lt (aR HO280))) (g := gb250) (o := ob250) (aB BK250)) (g := gb251) (o := ob251) (aB BK251)) (below_size (aL HB))); have n8_ := zA.mk (blk_below (g := gb250) (o := ob250) (aB BK250) hb); have n9_ := zA.mk (blk_below (g := gb251) (o := ob251) (aB BK251) hb); have n10_ := zA.mk (below_step (aL HB) hb); clear HO_14; clear HO_15; clear HO_16; clear HO_17; clear HO278; clear HO280; clear BK250; clear BK251; clear HB; have HO_14 := n0_; have HO_15 := n1_; have HO_16 := n2_; have HO_17 := n3_; have HO278 := n4_; have HO280 := n5_; have HO284 := n6_; have HO286 := n7_; have BK250 := n8_; have BK251 := n9_; have HB := n10_; clear n0_ n1_ n2_ n3_ n4_ n5_ n6_ n7_ n8_ n9_ n10_; (try clear hb); (try clear hb2); (try clear hk); (try clear hi); (try clear ho0); (try clear ho1); obtain ⟨Ao76, co76, eo76⟩ := Kd.zN HO278.out; subst eo76))
   repeat (go_quiet (first | (go_at_call 17; (with_reducible refine (cells_Make.calls k2 _ _ t255 _ _ t258 (.pointer (some ⟨gb250, 0, none⟩)) t251 t275 t276 _ ?side1 ?side2 ?side3 ?side4 ?side5 A71.out).mono ?_); (case side1 => exact aF HO_14); (case side2 => exact (Kd.zK HO_14.out).2.1); (case side3 => exact aF HO_15); (case side4 => exact (Kd.zK HO_15.out).2.1); (case side5 => exact TabO.at HTt251.out (aB BK250) (aB BK251)); rintro e w74 ⟨v277, v279, rfl, ho0, ho1, hb⟩; have n0_ := zA.mk (Kd.zL (aR HO_14) hb); have n1_ := zA.mk (Kd.zL (aR HO_15) hb); have n2_ := zA.mk (Kd.zL (aR HO_16) hb); have n3_ := zA.mk (Kd.zL (aR HO_17) hb); have n4_ := zA.mk (Kd.zO (Kd.R_newB (Kd.R_newB ho0 (g := gb250) (o := ob250) (aB BK250)) (g := gb251) (o := ob251) (aB BK251)) (below_size (aL HB))); have n5_ := zA.mk (Kd.zO (Kd.R_newB (Kd.R_newB ho1 (g := gb250) (o := ob250) (aB BK250)) (g := gb251) (o := ob251) (aB BK251)) (below_size (aL HB))); have n6_ := zA.mk (blk_below (g := gb250) (o := ob250) (aB BK250) hb); have n7_ := zA.mk (blk_below (g := gb251) (o := ob251) (aB BK251) hb); have n8_ := zA.mk (below_step (aL HB) hb); clear HO_14; clear HO_15; clear HO_16; clear HO_17; clear BK250; clear BK251; clear HB; have HO_14 := n0_; have HO_15 := n1_; have HO_16 := n2_; have HO_17 := n3_; have HO278 := n4_; have HO280 := n5_; have BK250 := n6_; have BK251 := n7_; have HB := n8_; clear n0_ n1_ n2_ n3_ n4_ n5_ n6_ n7_ n8_; (try clear hb); (try clear hb2); (try clear hk); (try clear hi); (try clear ho0); (try clear ho1)) | (go_at_call 17; (with_reducible refine (cells_Make.calls k2 _ _ t255 _ _ x17_2 (.pointer (some ⟨gb250, 0, none⟩)) t251 t281 t282 _ ?side1 ?side2 ?side3 ?side4 ?side5 A72.out).mono ?_); (case side1 => exact aF HO_14); (case side2 => exact (Kd.zK HO_14.out).2.1); (case side3 => exact aF HO_17); (case side4 => exact (Kd.zK HO_17.out).2.1); (case side5 => exact TabO.at HTt251.out (aB BK250) (aB BK251)); rintro e w75 ⟨v283, v285, rfl, ho0, ho1, hb⟩; have n0_ := zA.mk (Kd.zL (aR HO_14) hb); have n1_ := zA.mk (Kd.zL (aR HO_15) hb); have n2_ := zA.mk (Kd.zL (aR HO_16) hb); have n3_ := zA.mk (Kd.zL (aR HO_17) hb); have n4_ := zA.mk (Kd.R_elder' (aR HO278) (Kd.R_base ho0) hb); have n5_ := zA.mk (Kd.R_elder' (aR HO280) (Kd.R_base ho1) hb); have n6_ := zA.mk (Kd.zO (Kd.R_newB (Kd.R_newB (Kd.R_new' ho0 (Kd.R_lt (aR HO278))) (g := gb250) (o := ob250) (aB BK250)) (g := gb251) (o := ob251) (aB BK251)) (below_size (aL HB))); have n7_ := zA.mk (Kd.zO (Kd.R_newB (Kd.R_newB (Kd.R_new' ho1 (Kd.R_lt (aR HO280))) (g := gb250) (o := ob250) (aB BK250)) (g := gb251) (o := ob251) (aB BK251)) (below_size (aL HB))); have n8_ := zA.mk (blk_below (g := gb250) (o := ob250) (aB BK250) hb); have n9_ := zA.mk (blk_below (g := gb251) (o := ob251) (aB BK251) hb); have n10_ := zA.mk (below_step (aL HB) hb); clear HO_14; clear HO_15; clear HO_16; clear HO_17; clear HO278; clear HO280; clear BK250; clear BK251; clear HB; have HO_14 := n0_; have HO_15 := n1_; have HO_16 := n2_; have HO_17 := n3_; have HO278 := n4_; have HO280 := n5_; have HO284 := n6_; have HO286 := n7_; have BK250 := n8_; have BK251 := n9_; have HB := n10_; clear n0_ n1_ n2_ n3_ n4_ n5_ n6_ n7_ n8_ n9_ n10_; (try clear hb); (try clear hb2); (try clear hk); (try clear hi); (try clear ho0); (try clear ho1); obtain ⟨Ao76, co76, eo76⟩ := Kd.zN HO278.out; subst eo76)); try go_wp2_with (first | (go_at_call 17; (with_reducible refine (cells_Make.calls k2 _ _ t255 _ _ t258 (.pointer (some ⟨gb250, 0, none⟩)) t251 t275 t276 _ ?side1 ?side2 ?side3 ?side4 ?side5 A71.out).mono ?_); (case side1 => exact aF HO_14); (case side2 => exact (Kd.zK HO_14.out).2.1); (case side3 => exact aF HO_15); (case side4 => exact (Kd.zK HO_15.out).2.1); (case side5 => exact TabO.at HTt251.out (aB BK250) (aB BK251)); rintro e w74 ⟨v277, v279, rfl, ho0, ho1, hb⟩; have n0_ := zA.mk (Kd.zL (aR HO_14) hb); have n1_ := zA.mk (Kd.zL (aR HO_15) hb); have n2_ := zA.mk (Kd.zL (aR HO_16) hb); have n3_ := zA.mk (Kd.zL (aR HO_17) hb); have n4_ := zA.mk (Kd.zO (Kd.R_newB (Kd.R_newB ho0 (g := gb250) (o := ob250) (aB BK250)) (g := gb251) (o := ob251) (aB BK251)) (below_size (aL HB))); have n5_ := zA.mk (Kd.zO (Kd.R_newB (Kd.R_newB ho1 (g := gb250) (o := ob250) (aB BK250)) (g := gb251) (o := ob251) (aB BK251)) (below_size (aL HB))); have n6_ := zA.mk (blk_below (g := gb250) (o := ob250) (aB BK250) hb); have n7_ := zA.mk (blk_below (g := gb251) (o := ob251) (aB BK251) hb); have n8_ := zA.mk (below_step (aL HB) hb); clear HO_14; clear HO_15; clear HO_16; clear HO_17; clear BK250; clear BK251; clear HB; have HO_14 := n0_; have HO_15 := n1_; have HO_16 := n2_; have HO_17 := n3_; have HO278 := n4_; have HO280 := n5_; have BK250 := n6_; have BK251 := n7_; have HB := n8_; clear n0_ n1_ n2_ n3_ n4_ n5_ n6_ n7_ n8_; (try clear hb); (try clear hb2); (try clear hk); (try clear hi); (try clear ho0); (try clear ho1)) | (go_at_call 17; (with_reducible refine (cells_Make.calls k2 _ _ t255 _ _ x17_2 (.pointer (some ⟨gb250, 0, none⟩)) t251 t281 t282 _ ?side1 ?side2 ?side3 ?side4 ?side5 A72.out).mono ?_); (case side1 => exact aF HO_14); (case side2 => exact (Kd.zK HO_14.out).2.1); (case side3 => exact aF HO_17); (case side4 => exact (Kd.zK HO_17.out).2.1); (case side5 => exact TabO.at HTt251.out (aB BK250) (aB BK251)); rintro e w75 ⟨v283, v285, rfl, ho0, ho1, hb⟩; have n0_ := zA.mk (Kd.zL (aR HO_14) hb); have n1_ := zA.mk (Kd.zL (aR HO_15) hb); have n2_ := zA.mk (Kd.zL (aR HO_16) hb); have n3_ := zA.mk (Kd.zL (aR HO_17) hb); have n4_ := zA.mk (Kd.R_elder' (aR HO278) (Kd.R_base ho0) hb); have n5_ := zA.mk (Kd.R_elder' (aR HO280) (Kd.R_base ho1) hb); have n6_ := zA.mk (Kd.zO (Kd.R_newB (Kd.R_newB (Kd.R_new' ho0 (Kd.R_lt (aR HO278))) (g := gb250) (o := ob250) (aB BK250)) (g := gb251) (o := ob251) (aB BK251)) (below_size (aL HB))); have n7_ := zA.mk (Kd.zO (Kd.R_newB (Kd.R_newB (Kd.R_new' ho1 (Kd.R_lt (aR HO280))) (g := gb250) (o := ob250) (aB BK250)) (g := gb251) (o := ob251) (aB BK251)) (below_size (aL HB))); have n8_ := zA.mk (blk_below (g := gb250) (o := ob250) (aB BK250) hb); have n9_ := zA.mk (blk_below (g := gb251) (o := ob251) (aB BK251) hb); have n10_ := zA.mk (below_step (aL HB) hb); clear HO_14; clear HO_15; clear HO_16; clear HO_17; clear HO278; clear HO280; clear BK250; clear BK251; clear HB; have HO_14 := n0_; have HO_15 := n1_; have HO_16 := n2_; have HO_17 := n3_; have HO278 := n4_; have HO280 := n5_; have HO284 := n6_; have HO286 := n7_; have BK250 := n8_; have BK251 := n9_; have HB := n10_; clear n0_ n1_ n2_ n3_ n4_ n5_ n6_ n7_ n8_ n9_ n10_; (try clear hb); (try clear hb2); (try clear hk); (try clear hi); (try clear ho0); (try clear ho1); obtain ⟨Ao76, co76, eo76⟩ := Kd.zN HO278.out; subst eo76)))
   (try simp only [hji22])
   go_loopg [23, 123] k2 (fun kq v23 v123 w' => ∃ (x23_3 : Int) (x123_3 : Int), v23 = .int .i64 x23_3 ∧ v123 = .int .i64 x123_3 ∧ zA (stanzalaw10_CellsFiner.l2 kq t276 t281 t282 x23_3 t275 (t275.length : Int) x123_3 = some r) ∧ zA (kq ≤ k2) ∧ zA (Kd.R (Kd.int .i64) 3 w' w.heap.size (fun k_ => some k_ ≠ (v285 : Value).ownBlock ∧ k_ ≠ gb250 ∧ k_ ≠ gb251) v279 t276) ∧ zA (Kd.R k48 48 w' w.heap.size (fun k_ => some k_ ≠ ((.slice Ao76 t275.length co76) : Value).ownBlock ∧ k_ ≠ gb250 ∧ k_ ≠ gb251) v283 t281) ∧ zA (Kd.R (Kd.int .i64) 3 w' w.heap.size (fun k_ => some k_ ≠ (v279 : Value).ownBlock ∧ k_ ≠ gb250 ∧ k_ ≠ gb251) v285 t282) ∧ zA (Kd.R k48 48 w' w.heap.size (fun k_ => some k_ ≠ (v283 : Value).ownBlock ∧ k_ ≠ gb250 ∧ k_ ≠ gb251) (.slice Ao76 t275.length co76) t275) ∧ zA (w'.heap[gb250]? = some ob250) ∧ zA (w'.heap[gb251]? = some ob251) ∧ zA (Below w.heap.size w w'))
   case atStart => exact ⟨(0), (0), aZ, aZ, H', ⟨Nat.le_refl _⟩, ⟨by (try simp only [hl17_2]); (with_reducible repeat (first | apply Kd.zD | apply Kd.zE | apply Kd.zF)); exact Kd.zP HO280.out (fun _ hk => ⟨hk.2, ⟨hk.1.1.2, hk.1.2⟩⟩)⟩, ⟨by (try simp only [hl17_2]); (with_reducible repeat (first | apply Kd.zD | apply Kd.zE | apply Kd.zF)); exact Kd.zP HO284.out (fun _ hk => ⟨hk.1.1.2, ⟨hk.1.2, hk.2⟩⟩)⟩, ⟨by (try simp only [hl17_2]); (with_reducible repeat (first | apply Kd.zD | apply Kd.zE | apply Kd.zF)); exact Kd.zP HO286.out (fun _ hk => ⟨hk.1.1.2, ⟨hk.1.2, hk.2⟩⟩)⟩, ⟨by (try simp only [hl17_2]); (with_reducible repeat (first | apply Kd.zD | apply Kd.zE | apply Kd.zF)); exact Kd.zP HO278.out (fun _ hk => ⟨hk.2, ⟨hk.1.1.2, hk.1.2⟩⟩)⟩, ⟨by (try simp only [hl17_2]); (with_reducible repeat (first | refine zC ?_ _ | refine blk_drew ?_ | refine zB ?_ _)); exact BK250.out⟩, ⟨by (try simp only [hl17_2]); (with_reducible repeat (first | refine zC ?_ _ | refine blk_drew ?_ | refine zB ?_ _)); exact BK251.out⟩, ⟨aL HB⟩⟩
   clear H'; try clear c1
   try clear hx1
   try clear c2
   try clear p2
   try clear q2
   try clear hx2
   try clear c3
   try clear p3
   try clear c4
   try clear p4
   try clear q4
   try clear hx4
   try clear hf4
   try clear c5
   try clear c6
   try clear p6
   try clear q6
   try clear hx6
   try clear hf6
   try clear c7
   try clear c7b0
   try clear c7b1
   try clear c10
   try clear c10b0
   try clear c11
   try clear c11b0
   try clear c12
   try clear c12b0
   try clear c13
   try clear c13b0
   try clear c14
   try clear c16
   try clear c16b0
   try clear c23
   try clear c23b0
   try clear c23b1
   try clear c24
   try clear c24b0
   try clear c24b1
   try clear p24
   try clear q24
   try clear hx24
   try clear p26
   try clear q26
   try clear hx26
   try clear p27
   try clear q27
   try clear hx27
   try clear p32
   try clear c36
   try clear c36b0
   try clear c37
   try clear c37b0
   try clear c38
   try clear c38b0
   try clear c39
   try clear c39b0
   try clear p40
   try clear q40
   try clear hx40
   try clear hf40
   try clear c41
   try clear c41b0
   try clear c42
   try clear c42b0
   try clear c42b1
   try clear p47
   try clear q47
   try clear hx47
   try clear hf47
   try clear c58
   try clear c58b0
   try clear c59
   try clear c59b0
   try clear c60
   try clear c60b0
   try clear c60b1
   try clear c63
   try clear c63b0
   try clear p64
   try clear q64
   try clear hx64
   try clear hf64
   try clear hx245_0
   try clear hx267_0
   try clear hx269_0
   try clear hx270_0
   try clear hx272_0
   try clear hx273_0
   try clear hx40_0
   try clear hx47_0
   try clear hx64_0
   try clear p2
   try clear p24
   try clear p245
   try clear p267
   try clear p269
   try clear p270
   try clear p272
   try clear p273
   try clear p3
   try clear p32
   try clear p40
   try clear p47
   try clear p6
   try clear p64
   try clear q2
   try clear q24
   try clear q245
   try clear q267
   try clear q269
   try clear q270
   try clear q272
   try clear q273
   try clear q40
   try clear q47
   try clear q64
   obtain ⟨x23_3, x123_3, rfl, rfl, HA, HK3, HO_20, HO_21, HO_22, HO_121, BK250, BK251, HB⟩ := hrel; cases gk with
   | zero => exact absurd HA.out (by simp [stanzalaw10_CellsFiner.l2])
   | succ k3 =>
    have H := HA.out; clear HA; simp only [stanzalaw10_CellsFiner.l2] at H; by_cases c77 : x123_3 < (t275.length : Int)
    rotate_left
    ·rw [if_neg c77] at H
     have c77b0 : decide (x123_3 < (t275.length : Int)) = false := decide_eq_false c77
     (try simp only [hl17_2] at c77b0)
     clear c77; obtain rfl := Option.some.inj H
     obtain ⟨Ao110, co110, eo110⟩ := Kd.zN HO_21.out; subst eo110; go_wp2
     repeat (go_quiet (fail); try go_wp2)
     go_ret
     exact ⟨by first | rfl | (simp [errW_none, errW_some] <;> rfl) | (simp only [← hji22]; first | rfl | (simp [errW_none, errW_some] <;> rfl)) | (simp [*, errW_none, errW_some] <;> rfl), aL HB⟩
    rw [if_pos c77] at H; have c77b0 : decide (x123_3 < (t275.length : Int)) = true := decide_eq_true c77
    (try simp only [hl17_2] at c77b0)
    clear c77; by_cases c78 : 0 ≤ x123_3
    rotate_left
    ·rw [if_neg c78] at H
     exact absurd H (by simp)
    rw [if_pos c78] at H; have c78b0 : decide (0 ≤ x123_3) = true := decide_eq_true c78
    clear c78; by_cases c79 : x123_3 < (t275.length : Int)
    rotate_left
    ·rw [if_neg c79] at H
     exact absurd H (by simp)
    rw [if_pos c79] at H; have c79b0 : decide (x123_3 < (t275.length : Int)) = true := decide_eq_true c79
    (try simp only [hl17_2] at c79b0)
    clear c79; have H' := zA.mk H
    clear H; have p287 : 0 ≤ (x123_3 : Int) := aD
    have q287 : x123_3 < (t275.length : Int) := aD
    obtain ⟨ad287, e287, hx287_0, hx287_1, hx287_2, hx287_3⟩ := at_T48 (Kd.zK HO_121.out).2.2 x123_3 p287 q287; cases e287
    replace p287 := eq_true p287; replace q287 := eq_true q287; go_wp2_with (first | ((with_reducible refine gate_dst (N := 25) rfl ?_); refine box_event ?hg (N := 25) ?hd (cs := #[.int .i64 0, .int .i64 0, .int .i64 0, .int .u8 0]) (t := 48) ?hr ?_; (case hd => rfl); (case hg => rfl); (case hr => first | (go_simp; done) | (go_simp; rfl)); intro gb288 hg w80 hbox hb; have n0_ := zA.mk (Kd.zL (aR HO_20) hb); have n1_ := zA.mk (Kd.zL (Kd.R_elderB (aR HO_21) gb288 (Nat.le_of_eq hg.symm)) hb); have n2_ := zA.mk (Kd.zL (aR HO_22) hb); have n3_ := zA.mk (Kd.zL (Kd.R_elderB (aR HO_121) gb288 (Nat.le_of_eq hg.symm)) hb); have n4_ := zA.mk (blk_below (g := gb250) (o := ob250) (aB BK250) hb); have n5_ := zA.mk (blk_below (g := gb251) (o := ob251) (aB BK251) hb); have n6_ := zA.mk (below_step (aL HB) hb); have n7_ := zA.mk (hbox); have n8_ := zA.mk ((by rw [hg]; exact (below_size (aL HB)) : w.heap.size ≤ gb288)); have n9_ := zA.mk ((by rw [hg]; exact (below_size (aL HB)) : w.heap.size ≤ gb288)); have n10_ := zA.mk ((by rw [hg]; exact Nat.ne_of_lt (blk_lt (g := gb250) (o := ob250) (aB BK250)) : gb250 ≠ gb288)); have n11_ := zA.mk ((by rw [hg]; exact Nat.ne_of_gt (blk_lt (g := gb250) (o := ob250) (aB BK250)) : gb288 ≠ gb250)); have n12_ := zA.mk ((by rw [hg]; exact Nat.ne_of_lt (blk_lt (g := gb251) (o := ob251) (aB BK251)) : gb251 ≠ gb288)); have n13_ := zA.mk ((by rw [hg]; exact Nat.ne_of_gt (blk_lt (g := gb251) (o := ob251) (aB BK251)) : gb288 ≠ gb251)); clear HO_20; clear HO_21; clear HO_22; clear HO_121; clear BK250; clear BK251; clear HB; have HO_20 := n0_; have HO_21 := n1_; have HO_22 := n2_; have HO_121 := n3_; have BK250 := n4_; have BK251 := n5_; have HB := n6_; have BK288 := n7_; have GW288 := n8_; have GE288 := n9_; have NB250_288 := n10_; have NB288_250 := n11_; have NB251_288 := n12_; have NB288_251 := n13_; clear n0_ n1_ n2_ n3_ n4_ n5_ n6_ n7_ n8_ n9_ n10_ n11_ n12_ n13_; clear hb hbox hg; have hnb81 := NB288_250.out; have hnc81 := NB250_288.out; have hnb82 := NB288_251.out; have hnc82 := NB251_288.out; obtain ⟨hcz83_0, hcz83_1, hcz83_2, hcz83_3, hfz83_0, hfz83_1, hfz83_2, hfz83_3⟩ := aC4 BK288) | ((with_reducible refine gate_store (t := 48) (p := 25) rfl ?_); (try (rw [drewN_self w80]; generalize hq_ : World.drewN w80 _ = w80; have n0_ := zA.mk (Kd.R_at hq_ HO_20.out); have n1_ := zA.mk (Kd.R_at hq_ HO_21.out); have n2_ := zA.mk (Kd.R_at hq_ HO_22.out); have n3_ := zA.mk (Kd.R_at hq_ HO_121.out); have n4_ := zA.mk (blk_at hq_ BK250.out); have n5_ := zA.mk (blk_at hq_ BK251.out); have n6_ := zA.mk (blk_at hq_ BK288.out); have n7_ := zA.mk (below_at hq_ HB.out); clear hq_ HO_20 HO_21 HO_22 HO_121 BK250 BK251 BK288 HB; have HO_20 := n0_; have HO_21 := n1_; have HO_22 := n2_; have HO_121 := n3_; have BK250 := n4_; have BK251 := n5_; have BK288 := n6_; have HB := n7_; clear n0_ n1_ n2_ n3_ n4_ n5_ n6_ n7_)); refine store_event (t := 48) (p := 25) (v := ?vo_w84) (w1 := ((((w80.setCell ⟨gb288, 0, none⟩ (.int .i64 ((rd_T48 t275 x123_3).f0))).setCell ⟨gb288, 1, none⟩ (.int .i64 ((rd_T48 t275 x123_3).f1))).setCell ⟨gb288, 2, none⟩ (.int .i64 ((rd_T48 t275 x123_3).f2))).setCell ⟨gb288, 3, none⟩ (.int .u8 ((rd_T48 t275 x123_3).f3)))) ?hg ?ho ?hn ?hr ?_; (case ho => rfl); (case hg => rfl); (case hn => rfl); (case hr => first | (go_simp; done) | (go_simp; rfl)); intro w84 hw; have n0_ : zA (Kd.R (Kd.int .i64) 3 w84 w.heap.size (fun k_ => some k_ ≠ (v285 : Value).ownBlock ∧ k_ ≠ gb250 ∧ k_ ≠ gb251) v279 t276) := ⟨(by rw [hw]; exact (by (with_reducible repeat (first | apply Kd.zD | apply Kd.zE | apply Kd.zF)); exact Kd.zP (Kd.zM (p := ⟨gb288, 3, none⟩) (Kd.zM (p := ⟨gb288, 2, none⟩) (Kd.zM (p := ⟨gb288, 1, none⟩) (Kd.zM (p := ⟨gb288, 0, none⟩) (Kd.zQ HO_20.out BK288.out (by decide)) (fun _ hk => hk.2) (.int .i64 ((rd_T48 t275 x123_3).f0))) (fun _ hk => hk.2) (.int .i64 ((rd_T48 t275 x123_3).f1))) (fun _ hk => hk.2) (.int .i64 ((rd_T48 t275 x123_3).f2))) (fun _ hk => hk.2) (.int .u8 ((rd_T48 t275 x123_3).f3))) (fun _ hk => ⟨hk.1.1, ⟨hk.1.2.1, hk.1.2.2⟩⟩)))⟩; have n1_ : zA (Kd.R k48 48 w84 w.heap.size (fun k_ => some k_ ≠ (.slice (some ad287) t275.length co76 : Value).ownBlock ∧ k_ ≠ gb250 ∧ k_ ≠ gb251 ∧ k_ ≠ gb288) v283 t281) := ⟨(by rw [hw]; exact (by (with_reducible repeat (first | apply Kd.zD | apply Kd.zE | apply Kd.zF)); exact Kd.zP (Kd.zM (p := ⟨gb288, 3, none⟩) (Kd.zM (p := ⟨gb288, 2, none⟩) (Kd.zM (p := ⟨gb288, 1, none⟩) (Kd.zM (p := ⟨gb288, 0, none⟩) (Kd.zP HO_21.out (fun k_ hk => (⟨hk, hk.2⟩ : _ ∧ k_ ≠ gb288))) (fun _ hk => hk.2) (.int .i64 ((rd_T48 t275 x123_3).f0))) (fun _ hk => hk.2) (.int .i64 ((rd_T48 t275 x123_3).f1))) (fun _ hk => hk.2) (.int .i64 ((rd_T48 t275 x123_3).f2))) (fun _ hk => hk.2) (.int .u8 ((rd_T48 t275 x123_3).f3))) (fun _ hk => ⟨hk.1.1.1, ⟨hk.1.1.2.1, ⟨hk.1.1.2.2, hk.1.2⟩⟩⟩)))⟩; have n2_ : zA (Kd.R (Kd.int .i64) 3 w84 w.heap.size (fun k_ => some k_ ≠ (v279 : Value).ownBlock ∧ k_ ≠ gb250 ∧ k_ ≠ gb251) v285 t282) := ⟨(by rw [hw]; exact (by (with_reducible repeat (first | apply Kd.zD | apply Kd.zE | apply Kd.zF)); exact Kd.zP (Kd.zM (p := ⟨gb288, 3, none⟩) (Kd.zM (p := ⟨gb288, 2, none⟩) (Kd.zM (p := ⟨gb288, 1, none⟩) (Kd.zM (p := ⟨gb288, 0, none⟩) (Kd.zQ HO_22.out BK288.out (by decide)) (fun _ hk => hk.2) (.int .i64 ((rd_T48 t275 x123_3).f0))) (fun _ hk => hk.2) (.int .i64 ((rd_T48 t275 x123_3).f1))) (fun _ hk => hk.2) (.int .i64 ((rd_T48 t275 x123_3).f2))) (fun _ hk => hk.2) (.int .u8 ((rd_T48 t275 x123_3).f3))) (fun _ hk => ⟨hk.1.1, ⟨hk.1.2.1, hk.1.2.2⟩⟩)))⟩; have n3_ : zA (Kd.R k48 48 w84 w.heap.size (fun k_ => some k_ ≠ (v283 : Value).ownBlock ∧ k_ ≠ gb250 ∧ k_ ≠ gb251 ∧ k_ ≠ gb288) (.slice (some ad287) t275.length co76) t275) := ⟨(by rw [hw]; exact (by (with_reducible repeat (first | apply Kd.zD | apply Kd.zE | apply Kd.zF)); exact Kd.zP (Kd.zM (p := ⟨gb288, 3, none⟩) (Kd.zM (p := ⟨gb288, 2, none⟩) (Kd.zM (p := ⟨gb288, 1, none⟩) (Kd.zM (p := ⟨gb288, 0, none⟩) (Kd.zP HO_121.out (fun k_ hk => (⟨hk, hk.2⟩ : _ ∧ k_ ≠ gb288))) (fun _ hk => hk.2) (.int .i64 ((rd_T48 t275 x123_3).f0))) (fun _ hk => hk.2) (.int .i64 ((rd_T48 t275 x123_3).f1))) (fun _ hk => hk.2) (.int .i64 ((rd_T48 t275 x123_3).f2))) (fun _ hk => hk.2) (.int .u8 ((rd_T48 t275 x123_3).f3))) (fun _ hk => ⟨hk.1.1.1, ⟨hk.1.1.2.1, ⟨hk.1.1.2.2, hk.1.2⟩⟩⟩)))⟩; have n4_ : zA (w84.heap[gb250]? = some (ob250)) := ⟨(by rw [hw]; exact (by (with_reducible repeat (first | refine zC ?_ _ | refine blk_drew ?_ | refine zB ?_ _)); refine blk_farO ?_ NB250_288.out _; (with_reducible repeat (first | refine zC ?_ _ | refine blk_drew ?_ | refine zB ?_ _)); refine blk_farO ?_ NB250_288.out _; (with_reducible repeat (first | refine zC ?_ _ | refine blk_drew ?_ | refine zB ?_ _)); refine blk_farO ?_ NB250_288.out _; (with_reducible repeat (first | refine zC ?_ _ | refine blk_drew ?_ | refine zB ?_ _)); refine blk_farO ?_ NB250_288.out _; (with_reducible repeat (first | refine zC ?_ _ | refine blk_drew ?_ | refine zB ?_ _)); exact BK250.out))⟩; have n5_ : zA (w84.heap[gb251]? = some (ob251)) := ⟨(by rw [hw]; exact (by (with_reducible repeat (first | refine zC ?_ _ | refine blk_drew ?_ | refine zB ?_ _)); refine blk_farO ?_ NB251_288.out _; (with_reducible repeat (first | refine zC ?_ _ | refine blk_drew ?_ | refine zB ?_ _)); refine blk_farO ?_ NB251_288.out _; (with_reducible repeat (first | refine zC ?_ _ | refine blk_drew ?_ | refine zB ?_ _)); refine blk_farO ?_ NB251_288.out _; (with_reducible repeat (first | refine zC ?_ _ | refine blk_drew ?_ | refine zB ?_ _)); refine blk_farO ?_ NB251_288.out _; (with_reducible repeat (first | refine zC ?_ _ | refine blk_drew ?_ | refine zB ?_ _)); exact BK251.out))⟩; have n6_ : zA (w84.heap[gb288]? = some (.cells #[.int .i64 ((rd_T48 t275 x123_3).f0), .int .i64 ((rd_T48 t275 x123_3).f1), .int .i64 ((rd_T48 t275 x123_3).f2), .int .u8 ((rd_T48 t275 x123_3).f3)] 48 (0, 0))) := ⟨(by rw [hw]; exact (by (with_reducible repeat (first | refine zC ?_ _ | refine blk_drew ?_ | refine zB ?_ _)); refine blk_put (cs := #[.int .i64 ((rd_T48 t275 x123_3).f0), .int .i64 ((rd_T48 t275 x123_3).f1), .int .i64 ((rd_T48 t275 x123_3).f2), .int .u8 0]) ?_ 3 _ rfl; (with_reducible repeat (first | refine zC ?_ _ | refine blk_drew ?_ | refine zB ?_ _)); refine blk_put (cs := #[.int .i64 ((rd_T48 t275 x123_3).f0), .int .i64 ((rd_T48 t275 x123_3).f1), .int .i64 0, .int .u8 0]) ?_ 2 _ rfl; (with_reducible repeat (first | refine zC ?_ _ | refine blk_drew ?_ | refine zB ?_ _)); refine blk_put (cs := #[.int .i64 ((rd_T48 t275 x123_3).f0), .int .i64 0, .int .i64 0, .int .u8 0]) ?_ 1 _ rfl; (with_reducible repeat (first | refine zC ?_ _ | refine blk_drew ?_ | refine zB ?_ _)); refine blk_put (cs := #[.int .i64 0, .int .i64 0, .int .i64 0, .int .u8 0]) ?_ 0 _ rfl; (with_reducible repeat (first | refine zC ?_ _ | refine blk_drew ?_ | refine zB ?_ _)); exact BK288.out))⟩; have n7_ : zA (Below w.heap.size w w84) := ⟨(by rw [hw]; exact (aL HB))⟩; clear hw; clear HO_20; clear HO_21; clear HO_22; clear HO_121; clear BK250; clear BK251; clear BK288; clear HB; have HO_20 := n0_; have HO_21 := n1_; have HO_22 := n2_; have HO_121 := n3_; have BK250 := n4_; have BK251 := n5_; have BK288 := n6_; have HB := n7_; clear n0_ n1_ n2_ n3_ n4_ n5_ n6_ n7_))
    repeat (go_quiet (first | ((with_reducible refine gate_dst (N := 25) rfl ?_); refine box_event ?hg (N := 25) ?hd (cs := #[.int .i64 0, .int .i64 0, .int .i64 0, .int .u8 0]) (t := 48) ?hr ?_; (case hd => rfl); (case hg => rfl); (case hr => first | (go_simp; done) | (go_simp; rfl)); intro gb288 hg w80 hbox hb; have n0_ := zA.mk (Kd.zL (aR HO_20) hb); have n1_ := zA.mk (Kd.zL (Kd.R_elderB (aR HO_21) gb288 (Nat.le_of_eq hg.symm)) hb); have n2_ := zA.mk (Kd.zL (aR HO_22) hb); have n3_ := zA.mk (Kd.zL (Kd.R_elderB (aR HO_121) gb288 (Nat.le_of_eq hg.symm)) hb); have n4_ := zA.mk (blk_below (g := gb250) (o := ob250) (aB BK250) hb); have n5_ := zA.mk (blk_below (g := gb251) (o := ob251) (aB BK251) hb); have n6_ := zA.mk (below_step (aL HB) hb); have n7_ := zA.mk (hbox); have n8_ := zA.mk ((by rw [hg]; exact (below_size (aL HB)) : w.heap.size ≤ gb288)); have n9_ := zA.mk ((by rw [hg]; exact (below_size (aL HB)) : w.heap.size ≤ gb288)); have n10_ := zA.mk ((by rw [hg]; exact Nat.ne_of_lt (blk_lt (g := gb250) (o := ob250) (aB BK250)) : gb250 ≠ gb288)); have n11_ := zA.mk ((by rw [hg]; exact Nat.ne_of_gt (blk_lt (g := gb250) (o := ob250) (aB BK250)) : gb288 ≠ gb250)); have n12_ := zA.mk ((by rw [hg]; exact Nat.ne_of_lt (blk_lt (g := gb251) (o := ob251) (aB BK251)) : gb251 ≠ gb288)); have n13_ := zA.mk ((by rw [hg]; exact Nat.ne_of_gt (blk_lt (g := gb251) (o := ob251) (aB BK251)) : gb288 ≠ gb251)); clear HO_20; clear HO_21; clear HO_22; clear HO_121; clear BK250; clear BK251; clear HB; have HO_20 := n0_; have HO_21 := n1_; have HO_22 := n2_; have HO_121 := n3_; have BK250 := n4_; have BK251 := n5_; have HB := n6_; have BK288 := n7_; have GW288 := n8_; have GE288 := n9_; have NB250_288 := n10_; have NB288_250 := n11_; have NB251_288 := n12_; have NB288_251 := n13_; clear n0_ n1_ n2_ n3_ n4_ n5_ n6_ n7_ n8_ n9_ n10_ n11_ n12_ n13_; clear hb hbox hg; have hnb81 := NB288_250.out; have hnc81 := NB250_288.out; have hnb82 := NB288_251.out; have hnc82 := NB251_288.out; obtain ⟨hcz83_0, hcz83_1, hcz83_2, hcz83_3, hfz83_0, hfz83_1, hfz83_2, hfz83_3⟩ := aC4 BK288) | ((with_reducible refine gate_store (t := 48) (p := 25) rfl ?_); (try (rw [drewN_self w80]; generalize hq_ : World.drewN w80 _ = w80; have n0_ := zA.mk (Kd.R_at hq_ HO_20.out); have n1_ := zA.mk (Kd.R_at hq_ HO_21.out); have n2_ := zA.mk (Kd.R_at hq_ HO_22.out); have n3_ := zA.mk (Kd.R_at hq_ HO_121.out); have n4_ := zA.mk (blk_at hq_ BK250.out); have n5_ := zA.mk (blk_at hq_ BK251.out); have n6_ := zA.mk (blk_at hq_ BK288.out); have n7_ := zA.mk (below_at hq_ HB.out); clear hq_ HO_20 HO_21 HO_22 HO_121 BK250 BK251 BK288 HB; have HO_20 := n0_; have HO_21 := n1_; have HO_22 := n2_; have HO_121 := n3_; have BK250 := n4_; have BK251 := n5_; have BK288 := n6_; have HB := n7_; clear n0_ n1_ n2_ n3_ n4_ n5_ n6_ n7_)); refine store_event (t := 48) (p := 25) (v := ?vo_w84) (w1 := ((((w80.setCell ⟨gb288, 0, none⟩ (.int .i64 ((rd_T48 t275 x123_3).f0))).setCell ⟨gb288, 1, none⟩ (.int .i64 ((rd_T48 t275 x123_3).f1))).setCell ⟨gb288, 2, none⟩ (.int .i64 ((rd_T48 t275 x123_3).f2))).setCell ⟨gb288, 3, none⟩ (.int .u8 ((rd_T48 t275 x123_3).f3)))) ?hg ?ho ?hn ?hr ?_; (case ho => rfl); (case hg => rfl); (case hn => rfl); (case hr => first | (go_simp; done) | (go_simp; rfl)); intro w84 hw; have n0_ : zA (Kd.R (Kd.int .i64) 3 w84 w.heap.size (fun k_ => some k_ ≠ (v285 : Value).ownBlock ∧ k_ ≠ gb250 ∧ k_ ≠ gb251) v279 t276) := ⟨(by rw [hw]; exact (by (with_reducible repeat (first | apply Kd.zD | apply Kd.zE | apply Kd.zF)); exact Kd.zP (Kd.zM (p := ⟨gb288, 3, none⟩) (Kd.zM (p := ⟨gb288, 2, none⟩) (Kd.zM (p := ⟨gb288, 1, none⟩) (Kd.zM (p := ⟨gb288, 0, none⟩) (Kd.zQ HO_20.out BK288.out (by decide)) (fun _ hk => hk.2) (.int .i64 ((rd_T48 t275 x123_3).f0))) (fun _ hk => hk.2) (.int .i64 ((rd_T48 t275 x123_3).f1))) (fun _ hk => hk.2) (.int .i64 ((rd_T48 t275 x123_3).f2))) (fun _ hk => hk.2) (.int .u8 ((rd_T48 t275 x123_3).f3))) (fun _ hk => ⟨hk.1.1, ⟨hk.1.2.1, hk.1.2.2⟩⟩)))⟩; have n1_ : zA (Kd.R k48 48 w84 w.heap.size (fun k_ => some k_ ≠ (.slice (some ad287) t275.length co76 : Value).ownBlock ∧ k_ ≠ gb250 ∧ k_ ≠ gb251 ∧ k_ ≠ gb288) v283 t281) := ⟨(by rw [hw]; exact (by (with_reducible repeat (first | apply Kd.zD | apply Kd.zE | apply Kd.zF)); exact Kd.zP (Kd.zM (p := ⟨gb288, 3, none⟩) (Kd.zM (p := ⟨gb288, 2, none⟩) (Kd.zM (p := ⟨gb288, 1, none⟩) (Kd.zM (p := ⟨gb288, 0, none⟩) (Kd.zP HO_21.out (fun k_ hk => (⟨hk, hk.2⟩ : _ ∧ k_ ≠ gb288))) (fun _ hk => hk.2) (.int .i64 ((rd_T48 t275 x123_3).f0))) (fun _ hk => hk.2) (.int .i64 ((rd_T48 t275 x123_3).f1))) (fun _ hk => hk.2) (.int .i64 ((rd_T48 t275 x123_3).f2))) (fun _ hk => hk.2) (.int .u8 ((rd_T48 t275 x123_3).f3))) (fun _ hk => ⟨hk.1.1.1, ⟨hk.1.1.2.1, ⟨hk.1.1.2.2, hk.1.2⟩⟩⟩)))⟩; have n2_ : zA (Kd.R (Kd.int .i64) 3 w84 w.heap.size (fun k_ => some k_ ≠ (v279 : Value).ownBlock ∧ k_ ≠ gb250 ∧ k_ ≠ gb251) v285 t282) := ⟨(by rw [hw]; exact (by (with_reducible repeat (first | apply Kd.zD | apply Kd.zE | apply Kd.zF)); exact Kd.zP (Kd.zM (p := ⟨gb288, 3, none⟩) (Kd.zM (p := ⟨gb288, 2, none⟩) (Kd.zM (p := ⟨gb288, 1, none⟩) (Kd.zM (p := ⟨gb288, 0, none⟩) (Kd.zQ HO_22.out BK288.out (by decide)) (fun _ hk => hk.2) (.int .i64 ((rd_T48 t275 x123_3).f0))) (fun _ hk => hk.2) (.int .i64 ((rd_T48 t275 x123_3).f1))) (fun _ hk => hk.2) (.int .i64 ((rd_T48 t275 x123_3).f2))) (fun _ hk => hk.2) (.int .u8 ((rd_T48 t275 x123_3).f3))) (fun _ hk => ⟨hk.1.1, ⟨hk.1.2.1, hk.1.2.2⟩⟩)))⟩; have n3_ : zA (Kd.R k48 48 w84 w.heap.size (fun k_ => some k_ ≠ (v283 : Value).ownBlock ∧ k_ ≠ gb250 ∧ k_ ≠ gb251 ∧ k_ ≠ gb288) (.slice (some ad287) t275.length co76) t275) := ⟨(by rw [hw]; exact (by (with_reducible repeat (first | apply Kd.zD | apply Kd.zE | apply Kd.zF)); exact Kd.zP (Kd.zM (p := ⟨gb288, 3, none⟩) (Kd.zM (p := ⟨gb288, 2, none⟩) (Kd.zM (p := ⟨gb288, 1, none⟩) (Kd.zM (p := ⟨gb288, 0, none⟩) (Kd.zP HO_121.out (fun k_ hk => (⟨hk, hk.2⟩ : _ ∧ k_ ≠ gb288))) (fun _ hk => hk.2) (.int .i64 ((rd_T48 t275 x123_3).f0))) (fun _ hk => hk.2) (.int .i64 ((rd_T48 t275 x123_3).f1))) (fun _ hk => hk.2) (.int .i64 ((rd_T48 t275 x123_3).f2))) (fun _ hk => hk.2) (.int .u8 ((rd_T48 t275 x123_3).f3))) (fun _ hk => ⟨hk.1.1.1, ⟨hk.1.1.2.1, ⟨hk.1.1.2.2, hk.1.2⟩⟩⟩)))⟩; have n4_ : zA (w84.heap[gb250]? = some (ob250)) := ⟨(by rw [hw]; exact (by (with_reducible repeat (first | refine zC ?_ _ | refine blk_drew ?_ | refine zB ?_ _)); refine blk_farO ?_ NB250_288.out _; (with_reducible repeat (first | refine zC ?_ _ | refine blk_drew ?_ | refine zB ?_ _)); refine blk_farO ?_ NB250_288.out _; (with_reducible repeat (first | refine zC ?_ _ | refine blk_drew ?_ | refine zB ?_ _)); refine blk_farO ?_ NB250_288.out _; (with_reducible repeat (first | refine zC ?_ _ | refine blk_drew ?_ | refine zB ?_ _)); refine blk_farO ?_ NB250_288.out _; (with_reducible repeat (first | refine zC ?_ _ | refine blk_drew ?_ | refine zB ?_ _)); exact BK250.out))⟩; have n5_ : zA (w84.heap[gb251]? = some (ob251)) := ⟨(by rw [hw]; exact (by (with_reducible repeat (first | refine zC ?_ _ | refine blk_drew ?_ | refine zB ?_ _)); refine blk_farO ?_ NB251_288.out _; (with_reducible repeat (first | refine zC ?_ _ | refine blk_drew ?_ | refine zB ?_ _)); refine blk_farO ?_ NB251_288.out _; (with_reducible repeat (first | refine zC ?_ _ | refine blk_drew ?_ | refine zB ?_ _)); refine blk_farO ?_ NB251_288.out _; (with_reducible repeat (first | refine zC ?_ _ | refine blk_drew ?_ | refine zB ?_ _)); refine blk_farO ?_ NB251_288.out _; (with_reducible repeat (first | refine zC ?_ _ | refine blk_drew ?_ | refine zB ?_ _)); exact BK251.out))⟩; have n6_ : zA (w84.heap[gb288]? = some (.cells #[.int .i64 ((rd_T48 t275 x123_3).f0), .int .i64 ((rd_T48 t275 x123_3).f1), .int .i64 ((rd_T48 t275 x123_3).f2), .int .u8 ((rd_T48 t275 x123_3).f3)] 48 (0, 0))) := ⟨(by rw [hw]; exact (by (with_reducible repeat (first | refine zC ?_ _ | refine blk_drew ?_ | refine zB ?_ _)); refine blk_put (cs := #[.int .i64 ((rd_T48 t275 x123_3).f0), .int .i64 ((rd_T48 t275 x123_3).f1), .int .i64 ((rd_T48 t275 x123_3).f2), .int .u8 0]) ?_ 3 _ rfl; (with_reducible repeat (first | refine zC ?_ _ | refine blk_drew ?_ | refine zB ?_ _)); refine blk_put (cs := #[.int .i64 ((rd_T48 t275 x123_3).f0), .int .i64 ((rd_T48 t275 x123_3).f1), .int .i64 0, .int .u8 0]) ?_ 2 _ rfl; (with_reducible repeat (first | refine zC ?_ _ | refine blk_drew ?_ | refine zB ?_ _)); refine blk_put (cs := #[.int .i64 ((rd_T48 t275 x123_3).f0), .int .i64 0, .int .i64 0, .int .u8 0]) ?_ 1 _ rfl; (with_reducible repeat (first | refine zC ?_ _ | refine blk_drew ?_ | refine zB ?_ _)); refine blk_put (cs := #[.int .i64 0, .int .i64 0, .int .i64 0, .int .u8 0]) ?_ 0 _ rfl; (with_reducible repeat (first | refine zC ?_ _ | refine blk_drew ?_ | refine zB ?_ _)); exact BK288.out))⟩; have n7_ : zA (Below w.heap.size w w84) := ⟨(by rw [hw]; exact (aL HB))⟩; clear hw; clear HO_20; clear HO_21; clear HO_22; clear HO_121; clear BK250; clear BK251; clear BK288; clear HB; have HO_20 := n0_; have HO_21 := n1_; have HO_22 := n2_; have HO_121 := n3_; have BK250 := n4_; have BK251 := n5_; have BK288 := n6_; have HB := n7_; clear n0_ n1_ n2_ n3_ n4_ n5_ n6_ n7_)); try go_wp2_with (first | ((with_reducible refine gate_dst (N := 25) rfl ?_); refine box_event ?hg (N := 25) ?hd (cs := #[.int .i64 0, .int .i64 0, .int .i64 0, .int .u8 0]) (t := 48) ?hr ?_; (case hd => rfl); (case hg => rfl); (case hr => first | (go_simp; done) | (go_simp; rfl)); intro gb288 hg w80 hbox hb; have n0_ := zA.mk (Kd.zL (aR HO_20) hb); have n1_ := zA.mk (Kd.zL (Kd.R_elderB (aR HO_21) gb288 (Nat.le_of_eq hg.symm)) hb); have n2_ := zA.mk (Kd.zL (aR HO_22) hb); have n3_ := zA.mk (Kd.zL (Kd.R_elderB (aR HO_121) gb288 (Nat.le_of_eq hg.symm)) hb); have n4_ := zA.mk (blk_below (g := gb250) (o := ob250) (aB BK250) hb); have n5_ := zA.mk (blk_below (g := gb251) (o := ob251) (aB BK251) hb); have n6_ := zA.mk (below_step (aL HB) hb); have n7_ := zA.mk (hbox); have n8_ := zA.mk ((by rw [hg]; exact (below_size (aL HB)) : w.heap.size ≤ gb288)); have n9_ := zA.mk ((by rw [hg]; exact (below_size (aL HB)) : w.heap.size ≤ gb288)); have n10_ := zA.mk ((by rw [hg]; exact Nat.ne_of_lt (blk_lt (g := gb250) (o := ob250) (aB BK250)) : gb250 ≠ gb288)); have n11_ := zA.mk ((by rw [hg]; exact Nat.ne_of_gt (blk_lt (g := gb250) (o := ob250) (aB BK250)) : gb288 ≠ gb250)); have n12_ := zA.mk ((by rw [hg]; exact Nat.ne_of_lt (blk_lt (g := gb251) (o := ob251) (aB BK251)) : gb251 ≠ gb288)); have n13_ := zA.mk ((by rw [hg]; exact Nat.ne_of_gt (blk_lt (g := gb251) (o := ob251) (aB BK251)) : gb288 ≠ gb251)); clear HO_20; clear HO_21; clear HO_22; clear HO_121; clear BK250; clear BK251; clear HB; have HO_20 := n0_; have HO_21 := n1_; have HO_22 := n2_; have HO_121 := n3_; have BK250 := n4_; have BK251 := n5_; have HB := n6_; have BK288 := n7_; have GW288 := n8_; have GE288 := n9_; have NB250_288 := n10_; have NB288_250 := n11_; have NB251_288 := n12_; have NB288_251 := n13_; clear n0_ n1_ n2_ n3_ n4_ n5_ n6_ n7_ n8_ n9_ n10_ n11_ n12_ n13_; clear hb hbox hg; have hnb81 := NB288_250.out; have hnc81 := NB250_288.out; have hnb82 := NB288_251.out; have hnc82 := NB251_288.out; obtain ⟨hcz83_0, hcz83_1, hcz83_2, hcz83_3, hfz83_0, hfz83_1, hfz83_2, hfz83_3⟩ := aC4 BK288) | ((with_reducible refine gate_store (t := 48) (p := 25) rfl ?_); (try (rw [drewN_self w80]; generalize hq_ : World.drewN w80 _ = w80; have n0_ := zA.mk (Kd.R_at hq_ HO_20.out); have n1_ := zA.mk (Kd.R_at hq_ HO_21.out); have n2_ := zA.mk (Kd.R_at hq_ HO_22.out); have n3_ := zA.mk (Kd.R_at hq_ HO_121.out); have n4_ := zA.mk (blk_at hq_ BK250.out); have n5_ := zA.mk (blk_at hq_ BK251.out); have n6_ := zA.mk (blk_at hq_ BK288.out); have n7_ := zA.mk (below_at hq_ HB.out); clear hq_ HO_20 HO_21 HO_22 HO_121 BK250 BK251 BK288 HB; have HO_20 := n0_; have HO_21 := n1_; have HO_22 := n2_; have HO_121 := n3_; have BK250 := n4_; have BK251 := n5_; have BK288 := n6_; have HB := n7_; clear n0_ n1_ n2_ n3_ n4_ n5_ n6_ n7_)); refine store_event (t := 48) (p := 25) (v := ?vo_w84) (w1 := ((((w80.setCell ⟨gb288, 0, none⟩ (.int .i64 ((rd_T48 t275 x123_3).f0))).setCell ⟨gb288, 1, none⟩ (.int .i64 ((rd_T48 t275 x123_3).f1))).setCell ⟨gb288, 2, none⟩ (.int .i64 ((rd_T48 t275 x123_3).f2))).setCell ⟨gb288, 3, none⟩ (.int .u8 ((rd_T48 t275 x123_3).f3)))) ?hg ?ho ?hn ?hr ?_; (case ho => rfl); (case hg => rfl); (case hn => rfl); (case hr => first | (go_simp; done) | (go_simp; rfl)); intro w84 hw; have n0_ : zA (Kd.R (Kd.int .i64) 3 w84 w.heap.size (fun k_ => some k_ ≠ (v285 : Value).ownBlock ∧ k_ ≠ gb250 ∧ k_ ≠ gb251) v279 t276) := ⟨(by rw [hw]; exact (by (with_reducible repeat (first | apply Kd.zD | apply Kd.zE | apply Kd.zF)); exact Kd.zP (Kd.zM (p := ⟨gb288, 3, none⟩) (Kd.zM (p := ⟨gb288, 2, none⟩) (Kd.zM (p := ⟨gb288, 1, none⟩) (Kd.zM (p := ⟨gb288, 0, none⟩) (Kd.zQ HO_20.out BK288.out (by decide)) (fun _ hk => hk.2) (.int .i64 ((rd_T48 t275 x123_3).f0))) (fun _ hk => hk.2) (.int .i64 ((rd_T48 t275 x123_3).f1))) (fun _ hk => hk.2) (.int .i64 ((rd_T48 t275 x123_3).f2))) (fun _ hk => hk.2) (.int .u8 ((rd_T48 t275 x123_3).f3))) (fun _ hk => ⟨hk.1.1, ⟨hk.1.2.1, hk.1.2.2⟩⟩)))⟩; have n1_ : zA (Kd.R k48 48 w84 w.heap.size (fun k_ => some k_ ≠ (.slice (some ad287) t275.length co76 : Value).ownBlock ∧ k_ ≠ gb250 ∧ k_ ≠ gb251 ∧ k_ ≠ gb288) v283 t281) := ⟨(by rw [hw]; exact (by (with_reducible repeat (first | apply Kd.zD | apply Kd.zE | apply Kd.zF)); exact Kd.zP (Kd.zM (p := ⟨gb288, 3, none⟩) (Kd.zM (p := ⟨gb288, 2, none⟩) (Kd.zM (p := ⟨gb288, 1, none⟩) (Kd.zM (p := ⟨gb288, 0, none⟩) (Kd.zP HO_21.out (fun k_ hk => (⟨hk, hk.2⟩ : _ ∧ k_ ≠ gb288))) (fun _ hk => hk.2) (.int .i64 ((rd_T48 t275 x123_3).f0))) (fun _ hk => hk.2) (.int .i64 ((rd_T48 t275 x123_3).f1))) (fun _ hk => hk.2) (.int .i64 ((rd_T48 t275 x123_3).f2))) (fun _ hk => hk.2) (.int .u8 ((rd_T48 t275 x123_3).f3))) (fun _ hk => ⟨hk.1.1.1, ⟨hk.1.1.2.1, ⟨hk.1.1.2.2, hk.1.2⟩⟩⟩)))⟩; have n2_ : zA (Kd.R (Kd.int .i64) 3 w84 w.heap.size (fun k_ => some k_ ≠ (v279 : Value).ownBlock ∧ k_ ≠ gb250 ∧ k_ ≠ gb251) v285 t282) := ⟨(by rw [hw]; exact (by (with_reducible repeat (first | apply Kd.zD | apply Kd.zE | apply Kd.zF)); exact Kd.zP (Kd.zM (p := ⟨gb288, 3, none⟩) (Kd.zM (p := ⟨gb288, 2, none⟩) (Kd.zM (p := ⟨gb288, 1, none⟩) (Kd.zM (p := ⟨gb288, 0, none⟩) (Kd.zQ HO_22.out BK288.out (by decide)) (fun _ hk => hk.2) (.int .i64 ((rd_T48 t275 x123_3).f0))) (fun _ hk => hk.2) (.int .i64 ((rd_T48 t275 x123_3).f1))) (fun _ hk => hk.2) (.int .i64 ((rd_T48 t275 x123_3).f2))) (fun _ hk => hk.2) (.int .u8 ((rd_T48 t275 x123_3).f3))) (fun _ hk => ⟨hk.1.1, ⟨hk.1.2.1, hk.1.2.2⟩⟩)))⟩; have n3_ : zA (Kd.R k48 48 w84 w.heap.size (fun k_ => some k_ ≠ (v283 : Value).ownBlock ∧ k_ ≠ gb250 ∧ k_ ≠ gb251 ∧ k_ ≠ gb288) (.slice (some ad287) t275.length co76) t275) := ⟨(by rw [hw]; exact (by (with_reducible repeat (first | apply Kd.zD | apply Kd.zE | apply Kd.zF)); exact Kd.zP (Kd.zM (p := ⟨gb288, 3, none⟩) (Kd.zM (p := ⟨gb288, 2, none⟩) (Kd.zM (p := ⟨gb288, 1, none⟩) (Kd.zM (p := ⟨gb288, 0, none⟩) (Kd.zP HO_121.out (fun k_ hk => (⟨hk, hk.2⟩ : _ ∧ k_ ≠ gb288))) (fun _ hk => hk.2) (.int .i64 ((rd_T48 t275 x123_3).f0))) (fun _ hk => hk.2) (.int .i64 ((rd_T48 t275 x123_3).f1))) (fun _ hk => hk.2) (.int .i64 ((rd_T48 t275 x123_3).f2))) (fun _ hk => hk.2) (.int .u8 ((rd_T48 t275 x123_3).f3))) (fun _ hk => ⟨hk.1.1.1, ⟨hk.1.1.2.1, ⟨hk.1.1.2.2, hk.1.2⟩⟩⟩)))⟩; have n4_ : zA (w84.heap[gb250]? = some (ob250)) := ⟨(by rw [hw]; exact (by (with_reducible repeat (first | refine zC ?_ _ | refine blk_drew ?_ | refine zB ?_ _)); refine blk_farO ?_ NB250_288.out _; (with_reducible repeat (first | refine zC ?_ _ | refine blk_drew ?_ | refine zB ?_ _)); refine blk_farO ?_ NB250_288.out _; (with_reducible repeat (first | refine zC ?_ _ | refine blk_drew ?_ | refine zB ?_ _)); refine blk_farO ?_ NB250_288.out _; (with_reducible repeat (first | refine zC ?_ _ | refine blk_drew ?_ | refine zB ?_ _)); refine blk_farO ?_ NB250_288.out _; (with_reducible repeat (first | refine zC ?_ _ | refine blk_drew ?_ | refine zB ?_ _)); exact BK250.out))⟩; have n5_ : zA (w84.heap[gb251]? = some (ob251)) := ⟨(by rw [hw]; exact (by (with_reducible repeat (first | refine zC ?_ _ | refine blk_drew ?_ | refine zB ?_ _)); refine blk_farO ?_ NB251_288.out _; (with_reducible repeat (first | refine zC ?_ _ | refine blk_drew ?_ | refine zB ?_ _)); refine blk_farO ?_ NB251_288.out _; (with_reducible repeat (first | refine zC ?_ _ | refine blk_drew ?_ | refine zB ?_ _)); refine blk_farO ?_ NB251_288.out _; (with_reducible repeat (first | refine zC ?_ _ | refine blk_drew ?_ | refine zB ?_ _)); refine blk_farO ?_ NB251_288.out _; (with_reducible repeat (first | refine zC ?_ _ | refine blk_drew ?_ | refine zB ?_ _)); exact BK251.out))⟩; have n6_ : zA (w84.heap[gb288]? = some (.cells #[.int .i64 ((rd_T48 t275 x123_3).f0), .int .i64 ((rd_T48 t275 x123_3).f1), .int .i64 ((rd_T48 t275 x123_3).f2), .int .u8 ((rd_T48 t275 x123_3).f3)] 48 (0, 0))) := ⟨(by rw [hw]; exact (by (with_reducible repeat (first | refine zC ?_ _ | refine blk_drew ?_ | refine zB ?_ _)); refine blk_put (cs := #[.int .i64 ((rd_T48 t275 x123_3).f0), .int .i64 ((rd_T48 t275 x123_3).f1), .int .i64 ((rd_T48 t275 x123_3).f2), .int .u8 0]) ?_ 3 _ rfl; (with_reducible repeat (first | refine zC ?_ _ | refine blk_drew ?_ | refine zB ?_ _)); refine blk_put (cs := #[.int .i64 ((rd_T48 t275 x123_3).f0), .int .i64 ((rd_T48 t275 x123_3).f1), .int .i64 0, .int .u8 0]) ?_ 2 _ rfl; (with_reducible repeat (first | refine zC ?_ _ | refine blk_drew ?_ | refine zB ?_ _)); refine blk_put (cs := #[.int .i64 ((rd_T48 t275 x123_3).f0), .int .i64 0, .int .i64 0, .int .u8 0]) ?_ 1 _ rfl; (with_reducible repeat (first | refine zC ?_ _ | refine blk_drew ?_ | refine zB ?_ _)); refine blk_put (cs := #[.int .i64 0, .int .i64 0, .int .i64 0, .int .u8 0]) ?_ 0 _ rfl; (with_reducible repeat (first | refine zC ?_ _ | refine blk_drew ?_ | refine zB ?_ _)); exact BK288.out))⟩; have n7_ : zA (Below w.heap.size w w84) := ⟨(by rw [hw]; exact (aL HB))⟩; clear hw; clear HO_20; clear HO_21; clear HO_22; clear HO_121; clear BK250; clear BK251; clear BK288; clear HB; have HO_20 := n0_; have HO_21 := n1_; have HO_22 := n2_; have HO_121 := n3_; have BK250 := n4_; have BK251 := n5_; have BK288 := n6_; have HB := n7_; clear n0_ n1_ n2_ n3_ n4_ n5_ n6_ n7_)))
    (try simp only [hji22])
    go_loopg [23, 26, 27] k3 (fun kq v23 v26 v27 w' => ∃ (x23_4 : Int) (x26_4 : Int) (x27_4 : Int), v23 = .int .i64 x23_4 ∧ v26 = .int .i64 x26_4 ∧ v27 = .int .i64 x27_4 ∧ zA (stanzalaw10_CellsFiner.l3 kq t276 t281 t282 x23_4 x123_3 x26_4 x27_4 t275 (t275.length : Int) x123_3 ((rd_T48 t275 x123_3).f0) ((rd_T48 t275 x123_3).f1) ((rd_T48 t275 x123_3).f2) ((rd_T48 t275 x123_3).f3) = some r) ∧ zA (kq ≤ k3) ∧ zA (Kd.R (Kd.int .i64) 3 w' w.heap.size (fun k_ => some k_ ≠ (v285 : Value).ownBlock ∧ k_ ≠ gb250 ∧ k_ ≠ gb251) v279 t276) ∧ zA (Kd.R k48 48 w' w.heap.size (fun k_ => some k_ ≠ ((.slice (some ad287) t275.length co76) : Value).ownBlock ∧ k_ ≠ gb250 ∧ k_ ≠ gb251 ∧ k_ ≠ gb288) v283 t281) ∧ zA (Kd.R (Kd.int .i64) 3 w' w.heap.size (fun k_ => some k_ ≠ (v279 : Value).ownBlock ∧ k_ ≠ gb250 ∧ k_ ≠ gb251) v285 t282) ∧ zA (Kd.R k48 48 w' w.heap.size (fun k_ => some k_ ≠ (v283 : Value).ownBlock ∧ k_ ≠ gb250 ∧ k_ ≠ gb251 ∧ k_ ≠ gb288) (.slice (some ad287) t275.length co76) t275) ∧ zA (w'.heap[gb250]? = some ob250) ∧ zA (w'.heap[gb251]? = some ob251) ∧ zA (w'.heap[gb288]? = some (.cells #[.int .i64 ((rd_T48 t275 x123_3).f0), .int .i64 ((rd_T48 t275 x123_3).f1), .int .i64 ((rd_T48 t275 x123_3).f2), .int .u8 ((rd_T48 t275 x123_3).f3)] 48 (0, 0))) ∧ zA (Below w.heap.size w w'))
    case atStart => exact ⟨(x23_3), (0), (0), aZ, aZ, aZ, H', ⟨Nat.le_refl _⟩, ⟨by (try simp only [hl17_2]); (with_reducible repeat (first | apply Kd.zD | apply Kd.zE | apply Kd.zF)); exact HO_20.out⟩, ⟨by (try simp only [hl17_2]); (with_reducible repeat (first | apply Kd.zD | apply Kd.zE | apply Kd.zF)); exact HO_21.out⟩, ⟨by (try simp only [hl17_2]); (with_reducible repeat (first | apply Kd.zD | apply Kd.zE | apply Kd.zF)); exact HO_22.out⟩, ⟨by (try simp only [hl17_2]); (with_reducible repeat (first | apply Kd.zD | apply Kd.zE | apply Kd.zF)); exact HO_121.out⟩, ⟨by (try simp only [hl17_2]); (with_reducible repeat (first | refine zC ?_ _ | refine blk_drew ?_ | refine zB ?_ _)); exact BK250.out⟩, ⟨by (try simp only [hl17_2]); (with_reducible repeat (first | refine zC ?_ _ | refine blk_drew ?_ | refine zB ?_ _)); exact BK251.out⟩, ⟨by (try simp only [hl17_2]); (with_reducible repeat (first | refine zC ?_ _ | refine blk_drew ?_ | refine zB ?_ _)); exact BK288.out⟩, ⟨aL HB⟩⟩
    clear H'; try clear c1
    try clear hx1
    try clear c2
    try clear p2
    try clear q2
    try clear hx2
    try clear c3
    try clear p3
    try clear c4
    try clear p4
    try clear q4
    try clear hx4
    try clear hf4
    try clear c5
    try clear c6
    try clear p6
    try clear q6
    try clear hx6
    try clear hf6
    try clear c7
    try clear c7b0
    try clear c7b1
    try clear c8
    try clear c10
    try clear c10b0
    try clear c11
    try clear c11b0
    try clear c12
    try clear c12b0
    try clear c13
    try clear c13b0
    try clear c14
    try clear c16
    try clear c16b0
    try clear c23
    try clear c23b0
    try clear c23b1
    try clear c24
    try clear c24b0
    try clear c24b1
    try clear p24
    try clear q24
    try clear hx24
    try clear p26
    try clear q26
    try clear hx26
    try clear p27
    try clear q27
    try clear hx27
    try clear p28
    try clear q28
    try clear hx28
    try clear p32
    try clear c36
    try clear c36b0
    try clear c37
    try clear c37b0
    try clear c38
    try clear c38b0
    try clear c39
    try clear c39b0
    try clear p40
    try clear q40
    try clear hx40
    try clear hf40
    try clear c41
    try clear c41b0
    try clear c42
    try clear c42b0
    try clear c42b1
    try clear p47
    try clear q47
    try clear hx47
    try clear hf47
    try clear c58
    try clear c58b0
    try clear c59
    try clear c59b0
    try clear c60
    try clear c60b0
    try clear c60b1
    try clear c63
    try clear c63b0
    try clear p64
    try clear q64
    try clear hx64
    try clear hf64
    try clear c77
    try clear c77b0
    try clear c78
    try clear c78b0
    try clear c79
    try clear c79b0
    try clear c81
    try clear c82
    try clear hcz83_0
    try clear hcz83_1
    try clear hcz83_2
    try clear hcz83_3
    try clear hfz83_0
    try clear hfz83_1
    try clear hfz83_2
    try clear hfz83_3
    try clear hx245_0
    try clear hx267_0
    try clear hx269_0
    try clear hx270_0
    try clear hx272_0
    try clear hx273_0
    try clear hx287_0
    try clear hx287_1
    try clear hx287_2
    try clear hx287_3
    try clear hx40_0
    try clear hx47_0
    try clear hx64_0
    try clear p2
    try clear p24
    try clear p245
    try clear p26
    try clear p267
    try clear p269
    try clear p27
    try clear p270
    try clear p272
    try clear p273
    try clear p287
    try clear p3
    try clear p32
    try clear p4
    try clear p40
    try clear p47
    try clear p6
    try clear p64
    try clear q2
    try clear q24
    try clear q245
    try clear q26
    try clear q267
    try clear q269
    try clear q27
    try clear q270
    try clear q272
    try clear q273
    try clear q287
    try clear q4
    try clear q40
    try clear q47
    try clear q6
    try clear q64
    obtain ⟨x23_4, x26_4, x27_4, rfl, rfl, rfl, HA, HK4, HO_20, HO_21, HO_22, HO_121, BK250, BK251, BK288, HB⟩ := hrel; cases gk with
    | zero => exact absurd HA.out (by simp [stanzalaw10_CellsFiner.l3])
    | succ k4 =>
     have H := HA.out; clear HA; simp only [stanzalaw10_CellsFiner.l3] at H; by_cases c85 : x23_4 < (t281.length : Int)
     rotate_left
     ·rw [if_neg c85] at H
      have c85b0 : decide (x23_4 < (t281.length : Int)) = false := decide_eq_false c85
      (try simp only [hl17_2] at c85b0)
      clear c85; by_cases c104 : x26_4 = ((rd_T48 t275 x123_3).f1)
      rotate_left
      ·rw [if_neg c104] at H
       have c104b0 : (x26_4 == ((rd_T48 t275 x123_3).f1)) = false := beq_eq_false_iff_ne.mpr c104
       have c104b1 : (x26_4 != ((rd_T48 t275 x123_3).f1)) = true := bne_iff_ne.mpr c104
       exact absurd ((Option.some.inj H).trans hrt_.out) (by decide)
      rw [if_pos c104] at H; have c104b0 : (x26_4 == ((rd_T48 t275 x123_3).f1)) = true := beq_iff_eq.mpr c104
      have c104b1 : (x26_4 != ((rd_T48 t275 x123_3).f1)) = false := bne_eq_false_iff_eq.mpr c104
      clear c104; by_cases c105 : x27_4 = ((rd_T48 t275 x123_3).f2)
      rotate_left
      ·rw [if_neg c105] at H
       have c105b0 : (x27_4 == ((rd_T48 t275 x123_3).f2)) = false := beq_eq_false_iff_ne.mpr c105
       have c105b1 : (x27_4 != ((rd_T48 t275 x123_3).f2)) = true := bne_iff_ne.mpr c105
       exact absurd ((Option.some.inj H).trans hrt_.out) (by decide)
      rw [if_pos c105] at H; have c105b0 : (x27_4 == ((rd_T48 t275 x123_3).f2)) = true := beq_iff_eq.mpr c105
      have c105b1 : (x27_4 != ((rd_T48 t275 x123_3).f2)) = false := bne_eq_false_iff_eq.mpr c105
      clear c105; have H' := zA.mk H
      clear H; obtain ⟨Ao106, co106, eo106⟩ := Kd.zN HO_21.out; subst eo106; have hnb107 := NB288_250.out; have hnc107 := NB250_288.out; have hnb108 := NB288_251.out; have hnc108 := NB251_288.out; obtain ⟨hcz109_0, hcz109_1, hcz109_2, hcz109_3, hfz109_0, hfz109_1, hfz109_2, hfz109_3⟩ := aC4 BK288; go_wp2
      repeat (go_quiet (fail); try go_wp2)
      go_roundg k4
      case measure => have := HK1.out; have := HK2.out; have := HK3.out; have := HK4.out; omega
      case rel => exact ⟨(x23_4), (wrap64 (x123_3 + 1)), aZ, aZ, H', ⟨by have := HK1.out; have := HK2.out; have := HK3.out; have := HK4.out; omega⟩, ⟨by (try simp only [hl17_2]); (with_reducible repeat (first | apply Kd.zD | apply Kd.zE | apply Kd.zF)); exact HO_20.out⟩, ⟨by (try simp only [hl17_2]); (with_reducible repeat (first | apply Kd.zD | apply Kd.zE | apply Kd.zF)); exact Kd.zP HO_21.out (fun _ hk => ⟨hk.1, ⟨hk.2.1, hk.2.2.1⟩⟩)⟩, ⟨by (try simp only [hl17_2]); (with_reducible repeat (first | apply Kd.zD | apply Kd.zE | apply Kd.zF)); exact HO_22.out⟩, ⟨by (try simp only [hl17_2]); (with_reducible repeat (first | apply Kd.zD | apply Kd.zE | apply Kd.zF)); exact Kd.zP HO_121.out (fun _ hk => ⟨hk.1, ⟨hk.2.1, hk.2.2.1⟩⟩)⟩, ⟨by (try simp only [hl17_2]); (with_reducible repeat (first | refine zC ?_ _ | refine blk_drew ?_ | refine zB ?_ _)); exact BK250.out⟩, ⟨by (try simp only [hl17_2]); (with_reducible repeat (first | refine zC ?_ _ | refine blk_drew ?_ | refine zB ?_ _)); exact BK251.out⟩, ⟨aL HB⟩⟩
     rw [if_pos c85] at H; have c85b0 : decide (x23_4 < (t281.length : Int)) = true := decide_eq_true c85
     (try simp only [hl17_2] at c85b0)
     clear c85; by_cases c86 : 0 ≤ x23_4
     rotate_left
     ·rw [if_neg c86] at H
      exact absurd H (by simp)
     rw [if_pos c86] at H; have c86b0 : decide (0 ≤ x23_4) = true := decide_eq_true c86
     clear c86; by_cases c87 : x23_4 < (t282.length : Int)
     rotate_left
     ·rw [if_neg c87] at H
      exact absurd H (by simp)
     rw [if_pos c87] at H; have c87b0 : decide (x23_4 < (t282.length : Int)) = true := decide_eq_true c87
     (try simp only [hl17_2] at c87b0)
     clear c87; obtain ⟨ji88, hji88⟩ : ∃ j_ : Int, (wrap64 (x123_3 + 1)) = j_ := ⟨_, rfl⟩; replace H : (if 0 ≤ (ji88) then (if (ji88) < (t276.length : Int) then (if (rd t282 x23_4) < (rd t276 (ji88)) then (stanzalaw10_CellsFiner.l3 k4 t276 t281 t282 (wrap64 (x23_4 + 1)) x123_3 (wrap64 (x26_4 + ((rd_T48 t281 x23_4).f1))) (mx x27_4 ((rd_T48 t281 x23_4).f2)) t275 (t275.length : Int) x123_3 ((rd_T48 t275 x123_3).f0) ((rd_T48 t275 x123_3).f1) ((rd_T48 t275 x123_3).f2) ((rd_T48 t275 x123_3).f3)) else (if x26_4 = ((rd_T48 t275 x123_3).f1) then (if x27_4 = ((rd_T48 t275 x123_3).f2) then (stanzalaw10_CellsFiner.l2 k4 t276 t281 t282 x23_4 t275 (t275.length : Int) ji88) else (some false)) else (some false))) else (none)) else (none)) = some r := by first | (rw [hji88] at H; exact H) | (simp only [hji88] at H ⊢; exact H)
     have hji88w : (IntKind.i64.wrap (x123_3 + 1)) = ji88 := (i64_w _).trans hji88
     by_cases c89 : 0 ≤ (ji88)
     rotate_left
     ·rw [if_neg c89] at H
      exact absurd H (by simp)
     rw [if_pos c89] at H; have c89b0 : decide (0 ≤ (ji88)) = true := decide_eq_true c89
     clear c89; by_cases c90 : (ji88) < (t276.length : Int)
     rotate_left
     ·rw [if_neg c90] at H
      exact absurd H (by simp)
     rw [if_pos c90] at H; have c90b0 : decide ((ji88) < (t276.length : Int)) = true := decide_eq_true c90
     (try simp only [hl17_2] at c90b0)
     clear c90; by_cases c91 : (rd t282 x23_4) < (rd t276 (ji88))
     ·rw [if_pos c91] at H
      have c91b0 : decide ((rd t282 x23_4) < (rd t276 (ji88))) = true := decide_eq_true c91
      clear c91; obtain ⟨ji92, hji92⟩ : ∃ j_ : Int, (mx x27_4 ((rd_T48 t281 x23_4).f2)) = j_ := ⟨_, rfl⟩; replace H : (stanzalaw10_CellsFiner.l3 k4 t276 t281 t282 (wrap64 (x23_4 + 1)) x123_3 (wrap64 (x26_4 + ((rd_T48 t281 x23_4).f1))) ji92 t275 (t275.length : Int) x123_3 ((rd_T48 t275 x123_3).f0) ((rd_T48 t275 x123_3).f1) ((rd_T48 t275 x123_3).f2) ((rd_T48 t275 x123_3).f3)) = some r := by first | (rw [hji92] at H; exact H) | (simp only [hji92] at H ⊢; exact H)
      have hji92_ : (if x27_4 < ((rd_T48 t281 x23_4).f2) then ((rd_T48 t281 x23_4).f2) else x27_4) = ji92 := hji92
      have H' := zA.mk H
      clear H; obtain ⟨Ao93, co93, eo93⟩ := Kd.zN HO_21.out; subst eo93; obtain ⟨Ao94, co94, eo94⟩ := Kd.zN HO_22.out; subst eo94; have p289 : 0 ≤ (x23_4 : Int) := aD
      have q289 : x23_4 < (t282.length : Int) := aD
      obtain ⟨ad289, e289, hx289_0⟩ := Kd.at_int (Kd.zK HO_22.out).2.2 x23_4 p289 q289; cases e289
      replace p289 := eq_true p289; replace q289 := eq_true q289; obtain ⟨Ao95, co95, eo95⟩ := Kd.zN HO_20.out; subst eo95; have p290 : 0 ≤ ((ji88) : Int) := aD
      have q290 : (ji88) < (t276.length : Int) := aD
      obtain ⟨ad290, e290, hx290_0⟩ := Kd.at_int (Kd.zK HO_20.out).2.2 (ji88) p290 q290; cases e290
      replace p290 := eq_true p290; replace q290 := eq_true q290; have p291 : 0 ≤ (x23_4 : Int) := aD
      have q291 : x23_4 < (t281.length : Int) := aD
      obtain ⟨ad291, e291, hx291_0, hx291_1, hx291_2, hx291_3⟩ := at_T48 (Kd.zK HO_21.out).2.2 x23_4 p291 q291; cases e291
      replace p291 := eq_true p291; replace q291 := eq_true q291; have p292 : 0 ≤ (x23_4 : Int) := aD
      have q292 : x23_4 < (t281.length : Int) := aD
      obtain ⟨ad292, e292, hx292_0, hx292_1, hx292_2, hx292_3⟩ := at_T48 (Kd.zK HO_21.out).2.2 x23_4 p292 q292; obtain rfl : ad291 = ad292 := (by injection e292)
      replace p292 := eq_true p292; replace q292 := eq_true q292; go_wp2
      repeat (go_quiet (fail); try go_wp2)
      go_roundg k4
      case measure => have := HK1.out; have := HK2.out; have := HK3.out; have := HK4.out; omega
      case rel => exact ⟨(wrap64 (x23_4 + 1)), (wrap64 (x26_4 + ((rd_T48 t281 x23_4).f1))), (ji92), aZ, aZ, (by first | rfl | (simp; done) | (simp only [← hji92] <;> (first | rfl | simp)) | (simp [*]; done)), H', ⟨by have := HK1.out; have := HK2.out; have := HK3.out; have := HK4.out; omega⟩, ⟨by (try simp only [hl17_2]); (with_reducible repeat (first | apply Kd.zD | apply Kd.zE | apply Kd.zF)); exact HO_20.out⟩, ⟨by (try simp only [hl17_2]); (with_reducible repeat (first | apply Kd.zD | apply Kd.zE | apply Kd.zF)); exact HO_21.out⟩, ⟨by (try simp only [hl17_2]); (with_reducible repeat (first | apply Kd.zD | apply Kd.zE | apply Kd.zF)); exact HO_22.out⟩, ⟨by (try simp only [hl17_2]); (with_reducible repeat (first | apply Kd.zD | apply Kd.zE | apply Kd.zF)); exact HO_121.out⟩, ⟨by (try simp only [hl17_2]); (with_reducible repeat (first | refine zC ?_ _ | refine blk_drew ?_ | refine zB ?_ _)); exact BK250.out⟩, ⟨by (try simp only [hl17_2]); (with_reducible repeat (first | refine zC ?_ _ | refine blk_drew ?_ | refine zB ?_ _)); exact BK251.out⟩, ⟨by (try simp only [hl17_2]); (with_reducible repeat (first | refine zC ?_ _ | refine blk_drew ?_ | refine zB ?_ _)); exact BK288.out⟩, ⟨aL HB⟩⟩
     rw [if_neg c91] at H; have c91b0 : decide ((rd t282 x23_4) < (rd t276 (ji88))) = false := decide_eq_false c91
     clear c91; by_cases c96 : x26_4 = ((rd_T48 t275 x123_3).f1)
     rotate_left
     ·rw [if_neg c96] at H
      have c96b0 : (x26_4 == ((rd_T48 t275 x123_3).f1)) = false := beq_eq_false_iff_ne.mpr c96
      have c96b1 : (x26_4 != ((rd_T48 t275 x123_3).f1)) = true := bne_iff_ne.mpr c96
      exact absurd ((Option.some.inj H).trans hrt_.out) (by decide)
     rw [if_pos c96] at H; have c96b0 : (x26_4 == ((rd_T48 t275 x123_3).f1)) = true := beq_iff_eq.mpr c96
     have c96b1 : (x26_4 != ((rd_T48 t275 x123_3).f1)) = false := bne_eq_false_iff_eq.mpr c96
     clear c96; by_cases c97 : x27_4 = ((rd_T48 t275 x123_3).f2)
     rotate_left
     ·rw [if_neg c97] at H
      have c97b0 : (x27_4 == ((rd_T48 t275 x123_3).f2)) = false := beq_eq_false_iff_ne.mpr c97
      have c97b1 : (x27_4 != ((rd_T48 t275 x123_3).f2)) = true := bne_iff_ne.mpr c97
      exact absurd ((Option.some.inj H).trans hrt_.out) (by decide)
     rw [if_pos c97] at H; have c97b0 : (x27_4 == ((rd_T48 t275 x123_3).f2)) = true := beq_iff_eq.mpr c97
     have c97b1 : (x27_4 != ((rd_T48 t275 x123_3).f2)) = false := bne_eq_false_iff_eq.mpr c97
     clear c97; have H' := zA.mk H
     clear H; obtain ⟨Ao98, co98, eo98⟩ := Kd.zN HO_21.out; subst eo98; obtain ⟨Ao99, co99, eo99⟩ := Kd.zN HO_22.out; subst eo99; have p289 : 0 ≤ (x23_4 : Int) := aD
     have q289 : x23_4 < (t282.length : Int) := aD
     obtain ⟨ad289, e289, hx289_0⟩ := Kd.at_int (Kd.zK HO_22.out).2.2 x23_4 p289 q289; cases e289
     replace p289 := eq_true p289; replace q289 := eq_true q289; obtain ⟨Ao100, co100, eo100⟩ := Kd.zN HO_20.out; subst eo100; have p290 : 0 ≤ ((ji88) : Int) := aD
     have q290 : (ji88) < (t276.length : Int) := aD
     obtain ⟨ad290, e290, hx290_0⟩ := Kd.at_int (Kd.zK HO_20.out).2.2 (ji88) p290 q290; cases e290
     replace p290 := eq_true p290; replace q290 := eq_true q290; have hnb101 := NB288_250.out; have hnc101 := NB250_288.out; have hnb102 := NB288_251.out; have hnc102 := NB251_288.out; obtain ⟨hcz103_0, hcz103_1, hcz103_2, hcz103_3, hfz103_0, hfz103_1, hfz103_2, hfz103_3⟩ := aC4 BK288; go_wp2
     repeat (go_quiet (fail); try go_wp2)
     go_roundg k4
     case measure => have := HK1.out; have := HK2.out; have := HK3.out; have := HK4.out; omega
     case rel => exact ⟨(x23_4), (ji88), aZ, (by first | rfl | (simp; done) | (simp only [← hji88] <;> (first | rfl | simp)) | (simp [*]; done)), H', ⟨by have := HK1.out; have := HK2.out; have := HK3.out; have := HK4.out; omega⟩, ⟨by (try simp only [hl17_2]); (with_reducible repeat (first | apply Kd.zD | apply Kd.zE | apply Kd.zF)); exact HO_20.out⟩, ⟨by (try simp only [hl17_2]); (with_reducible repeat (first | apply Kd.zD | apply Kd.zE | apply Kd.zF)); exact Kd.zP HO_21.out (fun _ hk => ⟨hk.1, ⟨hk.2.1, hk.2.2.1⟩⟩)⟩, ⟨by (try simp only [hl17_2]); (with_reducible repeat (first | apply Kd.zD | apply Kd.zE | apply Kd.zF)); exact HO_22.out⟩, ⟨by (try simp only [hl17_2]); (with_reducible repeat (first | apply Kd.zD | apply Kd.zE | apply Kd.zF)); exact Kd.zP HO_121.out (fun _ hk => ⟨hk.1, ⟨hk.2.1, hk.2.2.1⟩⟩)⟩, ⟨by (try simp only [hl17_2]); (with_reducible repeat (first | refine zC ?_ _ | refine blk_drew ?_ | refine zB ?_ _)); exact BK250.out⟩, ⟨by (try simp only [hl17_2]); (with_reducible repeat (first | refine zC ?_ _ | refine blk_drew ?_ | refine zB ?_ _)); exact BK251.out⟩, ⟨aL HB⟩⟩
def stanzalaw10_CellsFiner.Pure : Prop := ∀ (l0 : List Int) (l1 : List Int) (l2 : List Int) (l3 : List Int), (l0.length * 1 ≤ 140737488351232 ∧ ∀ y0 ∈ l0, (Lit.int .u8 y0).wf = true) → (l1.length * 1 ≤ 140737488351232 ∧ ∀ y0 ∈ l1, (Lit.int .u8 y0).wf = true) → (l2.length * 1 ≤ 140737488351232 ∧ ∀ y0 ∈ l2, (Lit.int .u8 y0).wf = true) → (l3.length * 1 ≤ 140737488351232 ∧ ∀ y0 ∈ l3, (Lit.int .u8 y0).wf = true) → ∃ k, stanzalaw10_CellsFiner.f k l0 l1 l2 l3 = some true
def stanzaref01_Of.l0 : Nat → List (S45) → Int → Int → Option (Int)
 | 0, _, _, _ => none
 | k + 1, x0, x1, x5 => if x5 < (x0.length : Int) then (if 0 ≤ x5 then (if ((rd_T45 x0 x5).f0) ≤ x1 then (if x1 ≤ ((rd_T45 x0 x5).f1) then (some ((rd_T45 x0 x5).f2)) else (stanzaref01_Of.l0 k x0 x1 (wrap64 (x5 + 1)))) else (stanzaref01_Of.l0 k x0 x1 (wrap64 (x5 + 1)))) else (none)) else (some 0)
def stanzaref01_Of.f (k : Nat) (l0 : List (S45)) (a1 : Int) : Option (Int) := stanzaref01_Of.l0 k l0 a1 0
theorem stanzaref01_Of.mono_l : ∀ k, (∀ y0 y1 y2, LeO (stanzaref01_Of.l0 k y0 y1 y2) (stanzaref01_Of.l0 (k + 1) y0 y1 y2))
 | 0 => fun _ _ _ r h => by simp [stanzaref01_Of.l0] at h
 | k + 1 => by
  have ih0 := stanzaref01_Of.mono_l k
  ·intro y0 y1 y2
   unfold stanzaref01_Of.l0
   repeat' (with_reducible first | exact ih0 _ _ _ | exact LeO.refl _ | exact LeO.none _ | refine LeO.ite ?_ ?_ | refine LeO.bind ?_ (fun _ => ?_))
theorem stanzaref01_Of.mono : ∀ a0 a1 k, LeO (stanzaref01_Of.f k a0 a1) (stanzaref01_Of.f (k + 1) a0 a1) := by
 intro a0 a1 k
 have ih0 := stanzaref01_Of.mono_l k; unfold stanzaref01_Of.f
 repeat' (with_reducible first | exact ih0 _ _ _ | exact LeO.refl _ | exact LeO.none _ | refine LeO.ite ?_ ?_ | refine LeO.bind ?_ (fun _ => ?_))
set_option maxHeartbeats 8000000 in
set_option maxRecDepth 100000 in
theorem stanzaref01_Of.calls (k : Nat) (A0 : Option Addr) (c0 : Nat) (l0 : List (S45)) (a1 : Int) (r : Int) (w : World) (hr0 : Kd.C k45 w A0 l0.length l0) (hc0 : l0.length ≤ c0) (h : stanzaref01_Of.f k l0 a1 = some r) :
  Calls Try.prog 37 #[.slice A0 l0.length c0, .int .i32 a1] w fun e w' => e = .returned (.int .i64 r) ∧ Drawn0 w w' := by
 have HR0 := zA.mk hr0; have HC0 := zA.mk hc0; clear hr0 hc0; have H : (stanzaref01_Of.l0 k l0 a1 0) = some r := h
 clear h; have H' := zA.mk H
 clear H; go_enter Try.func37, Try.ntmps37
 go_wp2
 go_loopg [5] k (fun kq v5 w' => ∃ (x5_1 : Int), v5 = .int .i64 x5_1 ∧ zA (stanzaref01_Of.l0 kq l0 a1 x5_1 = some r) ∧ zA (kq ≤ k) ∧ Drawn0 w w')
 case atStart => exact ⟨(0), aZ, H', ⟨Nat.le_refl _⟩, by repeat (first | exact Drawn0.refl _ | apply Drawn0.step)⟩
 clear H'; obtain ⟨x5_1, rfl, HA, HK1, ⟨m1, rfl⟩⟩ := hrel; cases gk with
 | zero => exact absurd HA.out (by simp [stanzaref01_Of.l0])
 | succ k1 =>
  have H := HA.out; clear HA; simp only [stanzaref01_Of.l0] at H; by_cases c3 : x5_1 < (l0.length : Int)
  rotate_left
  ·rw [if_neg c3] at H
   have c3b0 : decide (x5_1 < (l0.length : Int)) = false := decide_eq_false c3
   clear c3; obtain rfl := Option.some.inj H
   go_wp2
   go_ret
   exact ⟨by first | rfl | (simp; done) | (simp [*]; done), by repeat (first | exact Drawn0.refl _ | apply Drawn0.step)⟩
  rw [if_pos c3] at H; have c3b0 : decide (x5_1 < (l0.length : Int)) = true := decide_eq_true c3
  clear c3; by_cases c4 : 0 ≤ x5_1
  rotate_left
  ·rw [if_neg c4] at H
   exact absurd H (by simp)
  rw [if_pos c4] at H; have c4b0 : decide (0 ≤ x5_1) = true := decide_eq_true c4
  clear c4; by_cases c5 : ((rd_T45 l0 x5_1).f0) ≤ a1
  rotate_left
  ·rw [if_neg c5] at H
   have c5b0 : decide (((rd_T45 l0 x5_1).f0) ≤ a1) = false := decide_eq_false c5
   clear c5; have H' := zA.mk H
   clear H; have p422 : 0 ≤ (x5_1 : Int) := aD
   have q422 : x5_1 < (l0.length : Int) := aD
   obtain ⟨ad422, e422, hx422_0, hx422_1, hx422_2⟩ := at_T45 HR0.out x5_1 p422 q422; cases e422
   replace p422 := eq_true p422; replace q422 := eq_true q422; go_wp2
   go_roundg k1
   case measure => have := HK1.out; omega
   case rel => exact ⟨(wrap64 (x5_1 + 1)), aZ, H', ⟨by have := HK1.out; omega⟩, by repeat (first | exact Drawn0.refl _ | apply Drawn0.step)⟩
  rw [if_pos c5] at H; have c5b0 : decide (((rd_T45 l0 x5_1).f0) ≤ a1) = true := decide_eq_true c5
  clear c5; by_cases c6 : a1 ≤ ((rd_T45 l0 x5_1).f1)
  rotate_left
  ·rw [if_neg c6] at H
   have c6b0 : decide (a1 ≤ ((rd_T45 l0 x5_1).f1)) = false := decide_eq_false c6
   clear c6; have H' := zA.mk H
   clear H; have p422 : 0 ≤ (x5_1 : Int) := aD
   have q422 : x5_1 < (l0.length : Int) := aD
   obtain ⟨ad422, e422, hx422_0, hx422_1, hx422_2⟩ := at_T45 HR0.out x5_1 p422 q422; cases e422
   replace p422 := eq_true p422; replace q422 := eq_true q422; have p423 : 0 ≤ (x5_1 : Int) := aD
   have q423 : x5_1 < (l0.length : Int) := aD
   obtain ⟨ad423, e423, hx423_0, hx423_1, hx423_2⟩ := at_T45 HR0.out x5_1 p423 q423; obtain rfl : ad422 = ad423 := (by injection e423)
   replace p423 := eq_true p423; replace q423 := eq_true q423; go_wp2
   go_roundg k1
   case measure => have := HK1.out; omega
   case rel => exact ⟨(wrap64 (x5_1 + 1)), aZ, H', ⟨by have := HK1.out; omega⟩, by repeat (first | exact Drawn0.refl _ | apply Drawn0.step)⟩
  rw [if_pos c6] at H; have c6b0 : decide (a1 ≤ ((rd_T45 l0 x5_1).f1)) = true := decide_eq_true c6
  clear c6; obtain rfl := Option.some.inj H
  have p422 : 0 ≤ (x5_1 : Int) := aD
  have q422 : x5_1 < (l0.length : Int) := aD
  obtain ⟨ad422, e422, hx422_0, hx422_1, hx422_2⟩ := at_T45 HR0.out x5_1 p422 q422; cases e422
  replace p422 := eq_true p422; replace q422 := eq_true q422; have p423 : 0 ≤ (x5_1 : Int) := aD
  have q423 : x5_1 < (l0.length : Int) := aD
  obtain ⟨ad423, e423, hx423_0, hx423_1, hx423_2⟩ := at_T45 HR0.out x5_1 p423 q423; obtain rfl : ad422 = ad423 := (by injection e423)
  replace p423 := eq_true p423; replace q423 := eq_true q423; have p424 : 0 ≤ (x5_1 : Int) := aD
  have q424 : x5_1 < (l0.length : Int) := aD
  obtain ⟨ad424, e424, hx424_0, hx424_1, hx424_2⟩ := at_T45 HR0.out x5_1 p424 q424; obtain rfl : ad422 = ad424 := (by injection e424)
  replace p424 := eq_true p424; replace q424 := eq_true q424; go_wp2
  go_ret
  exact ⟨by first | rfl | (simp; done) | (simp [*]; done), by repeat (first | exact Drawn0.refl _ | apply Drawn0.step)⟩
end Go.Proofs.Ytigajcipjklknaa.F
end
