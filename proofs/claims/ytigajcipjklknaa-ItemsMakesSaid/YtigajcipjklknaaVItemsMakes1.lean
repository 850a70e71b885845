/- Printed by a program: Lean functions that answer as the Go functions do, and the proofs of it. -/
import Derived.Test.YtigajcipjklknaaXItemsMakes0
import Derived.Test.YtigajcipjklknaaVItemsMakes0
section
namespace Go.Proofs.Ytigajcipjklknaa.F
open Go.RowKit Go.Proofs.YtigajcipjklknaaW.PrintWords Go.Proofs.YtigajcipjklknaaW.PrintLast Go.Proofs.YtigajcipjklknaaW.PrintMore
attribute [local go_sem] max2_int min2_int max_two min_two max_three min_three max_four min_four   -- for this text's walks alone
set_option linter.unusedVariables false
set_option linter.unusedSimpArgs false
def h3_Words.l0 : Nat → List Int → List Int → Int → Option (List Int)
 | 0, _, _, _ => none
 | k + 1, x0, x3, x4 => if x4 < (x0.length : Int) then ((h3_signs.f).bind fun t166 => (if 0 ≤ x4 then (if 0 ≤ (Int.tmod (wrap64 (rd x0 x4)) 14) then (if (Int.tmod (wrap64 (rd x0 x4)) 14) < (t166.length : Int) then (if x3.length + (rdOf ByteArray.empty t166 (Int.tmod (wrap64 (rd x0 x4)) 14)).size < 140737488355328 then (h3_Words.l0 k x0 (x3 ++ bytesOf (rdOf ByteArray.empty t166 (Int.tmod (wrap64 (rd x0 x4)) 14))) (wrap64 (x4 + 1))) else (none)) else (none)) else (none)) else (none))) else (some x3)
def h3_Words.f (k : Nat) (l0 : List Int) : Option (List Int) := h3_Words.l0 k l0 ([] : List Int) 0
theorem h3_Words.mono_l : ∀ k, (∀ y0 y1 y2, LeO (h3_Words.l0 k y0 y1 y2) (h3_Words.l0 (k + 1) y0 y1 y2))
 | 0 => fun _ _ _ r h => by simp [h3_Words.l0] at h
 | k + 1 => by
  have ih0 := h3_Words.mono_l k
  ·intro y0 y1 y2
   unfold h3_Words.l0
   repeat' (with_reducible first | exact ih0 _ _ _ | exact LeO.refl _ | exact LeO.none _ | refine LeO.ite ?_ ?_ | refine LeO.bind ?_ (fun _ => ?_))
theorem h3_Words.mono : ∀ a0 k, LeO (h3_Words.f k a0) (h3_Words.f (k + 1) a0) := by
 intro a0 k
 have ih0 := h3_Words.mono_l k; unfold h3_Words.f
 repeat' (with_reducible first | exact ih0 _ _ _ | exact LeO.refl _ | exact LeO.none _ | refine LeO.ite ?_ ?_ | refine LeO.bind ?_ (fun _ => ?_))
def h3_Words.T5 : Bool × List (List Nat × List Nat) := (true, [([], []), ([], []), ([], []), ([], []), ([2, 3], [2, 3]), ([4], [4]), ([5], [5]), ([6], [6]), ([1, 7], [1, 7]), ([8], [8]), ([0, 9, 1], [0, 9]), ([10, 10, 0, 1, 2, 3, 4, 5, 6, 7, 8, 9, 10], [0, 10])])
def h3_Words.B5 : List Nat := [0, 0, 0, 0, 12, 28, 60, 124, 254, 510, 1023, 2047]
theorem h3_Words.tab5 : rtab .any (opsOf Try.f15 5) = h3_Words.T5 := by kernel_rfl
theorem h3_Words.bits5 : waitsOk h3_Words.T5.2 h3_Words.B5 = true := by kernel_rfl
set_option maxHeartbeats 8000000 in
set_option maxRecDepth 100000 in
theorem h3_Words.calls (k : Nat) (A0 : Option Addr) (c0 : Nat) (l0 : List Int) (r : List Int) (w : World) (hr0 : Kd.C (Kd.int .u8) w A0 l0.length l0) (hc0 : l0.length ≤ c0) (h : h3_Words.f k l0 = some r) :
  Calls Try.prog 15 #[.slice A0 l0.length c0] w fun e w' => ∃ v0_ : Value, e = .returned (v0_) ∧ Kd.R (Kd.int .u8) 5 w' w.heap.size (fun _ => True) v0_ r ∧ Below w.heap.size w w' := by
 have HR0 := zA.mk hr0; have HC0 := zA.mk hc0; clear hr0 hc0; have HB := zA.mk (Below.refl w.heap.size w); have H : (h3_Words.l0 k l0 ([] : List Int) 0) = some r := h
 clear h; have H' := zA.mk H
 clear H; go_enter Try.func15, Try.ntmps15
 go_wp2
 go_loopg [3, 4] k (fun kq v3 v4 w' => ∃ (x3_1 : List Int) (x4_1 : Int), v4 = .int .i64 x4_1 ∧ zA (h3_Words.l0 kq l0 x3_1 x4_1 = some r) ∧ zA (kq ≤ k) ∧ zA (Kd.R (Kd.int .u8) 5 w' w.heap.size (fun _ => True) v3 x3_1) ∧ zA (Below w.heap.size w w'))
 case atStart => exact ⟨(([] : List Int)), (0), aZ, H', ⟨Nat.le_refl _⟩, ⟨by first | exact Kd.R_nil _ _ _ _ _ | exact Kd.N_nil _ _ _ _ _ | exact Kd.V_nil _ _ _ _ _ | exact Kd.Q_nil _ _ _ _ _ | exact Kd.S_nil _ _ _ _ _⟩, ⟨aL HB⟩⟩
 clear H'; obtain ⟨x3_1, x4_1, rfl, HA, HK1, HO_3, HB⟩ := hrel; cases gk with
 | zero => exact absurd HA.out (by simp [h3_Words.l0])
 | succ k1 =>
  have H := HA.out; clear HA; simp only [h3_Words.l0] at H; by_cases c2 : x4_1 < (l0.length : Int)
  rotate_left
  ·rw [if_neg c2] at H
   have c2b0 : decide (x4_1 < (l0.length : Int)) = false := decide_eq_false c2
   clear c2; obtain rfl := Option.some.inj H
   go_wp2
   go_ret
   exact ⟨_, aX, aR HO_3, aL HB⟩
  rw [if_pos c2] at H; have c2b0 : decide (x4_1 < (l0.length : Int)) = true := decide_eq_true c2
  clear c2; replace H := Option.bind_eq_some_iff.mp H; obtain ⟨t166, A30, H⟩ := H; replace H : (if 0 ≤ x4_1 then (if 0 ≤ (Int.tmod (wrap64 (rd l0 x4_1)) 14) then (if (Int.tmod (wrap64 (rd l0 x4_1)) 14) < (t166.length : Int) then (if x3_1.length + (rdOf ByteArray.empty t166 (Int.tmod (wrap64 (rd l0 x4_1)) 14)).size < 140737488355328 then (h3_Words.l0 k1 l0 (x3_1 ++ bytesOf (rdOf ByteArray.empty t166 (Int.tmod (wrap64 (rd l0 x4_1)) 14))) (wrap64 (x4_1 + 1))) else (none)) else (none)) else (none)) else (none)) = some r := H; have A3 := zA.mk A30; clear A30; by_cases c4 : 0 ≤ x4_1
  rotate_left
  ·rw [if_neg c4] at H
   exact absurd H (by simp)
  rw [if_pos c4] at H; have c4b0 : decide (0 ≤ x4_1) = true := decide_eq_true c4
  clear c4; obtain ⟨ji5, hji5⟩ : ∃ j_ : Int, (Int.tmod (wrap64 (rd l0 x4_1)) 14) = j_ := ⟨_, rfl⟩; replace H : (if 0 ≤ (ji5) then (if (ji5) < (t166.length : Int) then (if x3_1.length + (rdOf ByteArray.empty t166 (ji5)).size < 140737488355328 then (h3_Words.l0 k1 l0 (x3_1 ++ bytesOf (rdOf ByteArray.empty t166 (ji5))) (wrap64 (x4_1 + 1))) else (none)) else (none)) else (none)) = some r := by first | (rw [hji5] at H; exact H) | (simp only [hji5] at H ⊢; exact H)
  (try rw [hji5] at A3)
  by_cases c6 : 0 ≤ (ji5)
  rotate_left
  ·rw [if_neg c6] at H
   exact absurd H (by simp)
  rw [if_pos c6] at H; have c6b0 : decide (0 ≤ (ji5)) = true := decide_eq_true c6
  clear c6; by_cases c7 : (ji5) < (t166.length : Int)
  rotate_left
  ·rw [if_neg c7] at H
   exact absurd H (by simp)
  rw [if_pos c7] at H; have c7b0 : decide ((ji5) < (t166.length : Int)) = true := decide_eq_true c7
  clear c7; by_cases c8 : x3_1.length + (rdOf ByteArray.empty t166 (ji5)).size < 140737488355328
  rotate_left
  ·rw [if_neg c8] at H
   exact absurd H (by simp)
  rw [if_pos c8] at H; have LMc8 := zA.mk c8; clear c8; obtain ⟨y171, hy171⟩ : ∃ y_ : List Int, y_ = (x3_1 ++ bytesOf (rdOf ByteArray.empty t166 (ji5))) := ⟨_, rfl⟩; replace H : (h3_Words.l0 k1 l0 y171 (wrap64 (x4_1 + 1))) = some r := by first | (rw [hy171]; with_reducible exact H) | (have H2_ := (Option.bind_some _ _).symm.trans H; rw [hy171]; with_reducible exact H2_) | (have H2_ := (Option.bind_some _ _).symm.trans H; with_reducible exact H2_) | with_reducible exact H | (rw [hy171]; exact H) | exact H
  have Ny171 := zA.mk hy171; clear hy171; have H' := zA.mk H
  clear H; try go_wp2
  have pi170 : (0 ≤ ((ji5) : Int)) = True := eq_true (aD)
  have qi170 : ((ji5) < (t166.length : Int)) = True := eq_true (aD)
  replace HO_3 := zA.mk (Kd.zI HO_3.out); replace HB := zA.mk (below_drew1 HB.out); have p169 : 0 ≤ (x4_1 : Int) := aD
  have q169 : x4_1 < (l0.length : Int) := aD
  obtain ⟨ad169, e169, hx169_0⟩ := Kd.at_int HR0.out x4_1 p169 q169; have hw169_0 := hx169_0; cases e169
  replace hx169_0 := (HB.out.cell (World.block_lt_of_cell? w _ hx169_0)).trans hx169_0; replace p169 := eq_true p169; replace q169 := eq_true q169; refine start_ (n := 12) (S := fun w' => w'.cell? (ad169.add (x4_1).toNat) = some (.int .u8 (rd l0 x4_1))) (ds := []) #[false, false, false, false, false, false, false, false, false, false, false, false] (by kernel_rfl) rfl rfl (((HB.out.cell (World.block_lt_of_cell? w _ hw169_0)).trans hw169_0)) (fun hHeld => ?_); refine with_tabW h3_Words.tab5 h3_Words.bits5 (fun HT_ HW_ => ?_)
  generalize wr.drew = w9 at HO_3 HB hx169_0 hHeld ⊢
  refine aP 0 (some 11) (tf_ 1 12) HT_ ?_
  refine aP 2 (some 13) (tb_ 5 12) HT_ ?_
  refine aP 3 (some 14) (tb_ 13 12) HT_ ?_
  refine aP 4 (some 15) (tb_ 29 12) HT_ ?_
  refine take_ (i := 5) (N := some 16) (v := ?_) (a' := ?_) (tb_ 61 12) rfl rfl (take_ofW HT_.out HW_.out (by kernel_rfl)) (fun _ _ _ h => h) (Or.inl ⟨by rfl, ?_⟩) hHeld ?_ ?_
  rotate_left
  ·intro w' s0
   go_simp
   with_reducible rfl
  rotate_left
  ·simp only [Act.put, sA_, sB_, sC_, i64_w, i32_w]
   rfl
  refine aP 6 (some 17) (tb_ 125 12) HT_ ?_
  refine aP 7 (some 18) (tb_ 253 12) HT_ ?_
  refine one_ (i := 1) (N := some 12) (tb_ 255 12) rfl rfl (one_of HT_.out (by kernel_rfl)) (by decide) (fun K hK => ?_)
  refine goes_ Try.func34 (by kernel_rfl) rfl #[] (by rfl) rfl rfl aT ?_
  with_reducible refine (h3_signs.calls  t166 _ A3.out).mono ?_
  rintro e w10 ⟨v167, rfl, ho0, hb⟩
  refine ⟨_, rfl, ?_⟩
  replace HO_3 := zA.mk (Kd.zO (aR HO_3) hb); have HO168 := zA.mk (Kd.zR ho0 (zF (aL HB))); replace HB := zA.mk (below_step (aL HB) hb); (try clear hb)
  (try clear hb2)
  (try clear hk)
  (try clear hi)
  (try clear ho0)
  obtain ⟨Ao11, co11, eo11⟩ := Kd.zQ HO168.out; subst eo11; obtain ⟨ado11, fo11, _⟩ := Kd.at_string (Kd.zN HO168.out).2.2 0 (by decide) (by have h1_ := of_eq_true pi170; have h2_ := of_eq_true qi170; omega)
  cases fo11
  refine hK.out _ _ (((HB.out.cell (World.block_lt_of_cell? w _ hw169_0)).trans hw169_0)) (fun hHeld => ?_)
  clear hK K; refine norm_ (a' := ?_) ?_ ?_
  rotate_left
  ·show Act.put _ (some 12) _ = _
   simp only [Act.put, sA_, sB_, sC_, i64_w, i32_w]; rfl
  refine aP 8 (some 19) (tf_ 9 12) HT_ ?_
  refine one_ (i := 9) (N := some 20) (tb_ 1023 12) rfl rfl (one_of HT_.out (by kernel_rfl)) (by decide) (fun K hK => ?_)
  (have p170 : 0 ≤ ((ji5) : Int) := aD; have q170 : (ji5) < (t166.length : Int) := aD; obtain ⟨ad170, e170, hx170_0⟩ := Kd.at_string (Kd.zN HO168.out).2.2 (ji5) p170 q170; obtain rfl : ado11 = ad170 := (by injection e170))
  refine value_ (w1 := ?_) (v := ?_) (by rfl) rfl ?_ ?_
  rotate_left 2
  ·go_simp
   constructor
   ·rfl
   rfl
  clear hx170_0; refine hK.out _ _ (((HB.out.cell (World.block_lt_of_cell? w _ hw169_0)).trans hw169_0)) (fun hHeld => ?_)
  clear hK K; refine norm_ (a' := ?_) ?_ ?_
  rotate_left
  ·show Act.put _ (some 20) _ = _
   simp only [Act.put, sA_, sB_, sC_, i64_w, i32_w]; rfl
  refine one_ (i := 10) (N := some 21) (tb_ 2047 12) rfl rfl (one_of HT_.out (by kernel_rfl)) (by decide) (fun K hK => ?_)
  refine print_append_str_step (w0 := w) w.heap.size (by rfl) (.tmp 11) _ 22 9 5 rfl Try.underlying22 Try.underlying9 info5 u3 x3_1 (rdOf ByteArray.empty t166 (ji5)) rfl rfl ?aO ?aB ?aS ?aL ?_
  (case aB => exact (aL HB))
  (case aO => exact (Kd.own_of_R (aR HO_3)))
  (case aS => exact (zF (aL HB)))
  (case aL => have := LMc8.out; omega)
  intro v172 w12 ho0 hb hg
  have ho := Kd.R_of_own (h1 := fun _ => rfl) (ok := fun _ => True) ho0 (fun _ _ => trivial)
  clear ho0; have hat := True.intro; rw [← Ny171.out] at ho; change Kd.R (Kd.int .u8) 5 w12 w.heap.size (fun _ => True) v172 y171 at ho
  replace HO168 := zA.mk (Kd.R_over' (aR HO168) (Kd.R_typed (aR HO_3)) (by decide) hg)
  replace HB := zA.mk (hb); have HO173 := zA.mk (ho); clear HO_3; clear ho hb hg hat; refine hK.out _ _ (((HB.out.cell (World.block_lt_of_cell? w _ hw169_0)).trans hw169_0)) (fun hHeld => ?_)
  clear hK K; refine norm_ (a' := ?_) ?_ ?_
  rotate_left
  ·show Act.put _ (some 21) _ = _
   simp only [Act.put, sA_, sB_, sC_, i64_w, i32_w]; rfl
  refine aP 11 (some 3) (tb_ 4095 12) HT_ ?_
  refine done_ (done_of HT_.out (by kernel_rfl)) ?_
  try go_wp2
  go_roundg k1
  case measure => have := HK1.out; omega
  case rel => exact ⟨(y171), (wrap64 (x4_1 + 1)), aZ, H', ⟨by have := HK1.out; omega⟩, ⟨aR HO173⟩, ⟨aL HB⟩⟩
mutual
def stanzaref01_length.j0 : Nat → Int → Bool → Option (Int)
 | 0, _, _ => none
 | k + 1, x0, x6 => if x6 = true then (some 2) else (if x0 ≥ 224 then (stanzaref01_length.j1 k x0 (decide (x0 ≤ 239))) else (stanzaref01_length.j1 k x0 false))
def stanzaref01_length.j1 : Nat → Int → Bool → Option (Int)
 | 0, _, _ => none
 | k + 1, x0, x13 => if x13 = true then (some 3) else (if x0 ≥ 240 then (if x0 ≤ 244 then (some 4) else (some 0)) else (some 0))
end
def stanzaref01_length.f (k : Nat) (a0 : Int) : Option (Int) := if a0 < 128 then (some 1) else (if a0 ≥ 194 then (stanzaref01_length.j0 k a0 (decide (a0 ≤ 223))) else (stanzaref01_length.j0 k a0 false))
theorem stanzaref01_length.mono_l : ∀ k, (∀ y0 y1, LeO (stanzaref01_length.j0 k y0 y1) (stanzaref01_length.j0 (k + 1) y0 y1)) ∧ (∀ y0 y1, LeO (stanzaref01_length.j1 k y0 y1) (stanzaref01_length.j1 (k + 1) y0 y1))
 | 0 => ⟨fun _ _ r h => by simp [stanzaref01_length.j0] at h, fun _ _ r h => by simp [stanzaref01_length.j1] at h⟩
 | k + 1 => by
  obtain ⟨ih0, ih1⟩ := stanzaref01_length.mono_l k; refine ⟨?_, ?_⟩
  ·intro y0 y1
   unfold stanzaref01_length.j0
   repeat' (with_reducible first | exact ih0 _ _ | exact ih1 _ _ | exact LeO.refl _ | exact LeO.none _ | refine LeO.ite ?_ ?_ | refine LeO.bind ?_ (fun _ => ?_))
  ·intro y0 y1
   unfold stanzaref01_length.j1
   repeat' (with_reducible first | exact ih0 _ _ | exact ih1 _ _ | exact LeO.refl _ | exact LeO.none _ | refine LeO.ite ?_ ?_ | refine LeO.bind ?_ (fun _ => ?_))
theorem stanzaref01_length.mono : ∀ a0 k, LeO (stanzaref01_length.f k a0) (stanzaref01_length.f (k + 1) a0) := by
 intro a0 k
 obtain ⟨ih0, ih1⟩ := stanzaref01_length.mono_l k; unfold stanzaref01_length.f
 repeat' (with_reducible first | exact ih0 _ _ | exact ih1 _ _ | exact LeO.refl _ | exact LeO.none _ | refine LeO.ite ?_ ?_ | refine LeO.bind ?_ (fun _ => ?_))
set_option maxHeartbeats 8000000 in
set_option maxRecDepth 100000 in
theorem stanzaref01_length.calls (k : Nat) (a0 : Int) (r : Int) (w : World) (h : stanzaref01_length.f k a0 = some r) :
  Calls Try.prog 39 #[.int .u8 a0] w fun e w' => e = .returned (.int .i64 r) ∧ Drawn0 w w' := by
 have H : (if a0 < 128 then (some 1) else (if a0 ≥ 194 then (stanzaref01_length.j0 k a0 (decide (a0 ≤ 223))) else (stanzaref01_length.j0 k a0 false))) = some r := h
 clear h; by_cases c2 : a0 < 128
 ·rw [if_pos c2] at H
  have c2b0 : decide (a0 < 128) = true := decide_eq_true c2
  clear c2; obtain rfl := Option.some.inj H
  go_enter Try.func39, Try.ntmps39
  go_wp2
  go_ret
  exact ⟨by first | rfl | (simp; done) | (simp [*]; done), by repeat (first | exact Drawn0.refl _ | apply Drawn0.step)⟩
 rw [if_neg c2] at H; have c2b0 : decide (a0 < 128) = false := decide_eq_false c2
 clear c2; have HC3 := zA.mk H; clear H; go_enter Try.func39, Try.ntmps39
 go_upto_region 3 with (fail)
 go_cut [6] (fun v6 wc => ∃ (kq : Nat) (x6_2 : Bool), v6 = .bool x6_2 ∧ zA (stanzaref01_length.j0 kq a0 x6_2 = some r) ∧ zA (kq ≤ k) ∧ Drawn0 w wc)
 case first =>
  have H := HC3.out; clear HC3; by_cases c4 : a0 ≥ 194
  ·rw [if_pos c4] at H
   have c4b0 : decide (194 ≤ a0) = true := decide_eq_true c4
   clear c4; (first | rw [c4b0] | (simp only [i64_w, i32_w]; rw [c4b0]) | skip)
   have H' := zA.mk H
   clear H; go_wp2
   go_meet
   case rel => exact ⟨_, (decide (a0 ≤ 223)), aZ, H', ⟨by first | omega | exact Nat.le_refl _⟩, by repeat (first | exact Drawn0.refl _ | apply Drawn0.step)⟩
  rw [if_neg c4] at H; have c4b0 : decide (194 ≤ a0) = false := decide_eq_false c4
  clear c4; (first | rw [c4b0] | (simp only [i64_w, i32_w]; rw [c4b0]) | skip)
  have H' := zA.mk H
  clear H; go_wp2
  go_meet
  case rel => exact ⟨_, (false), aZ, H', ⟨by first | omega | exact Nat.le_refl _⟩, by repeat (first | exact Drawn0.refl _ | apply Drawn0.step)⟩
 clear HC3; obtain ⟨kq, x6_2, rfl, HA, HJ2, ⟨mc2, rfl⟩⟩ := hcut; cases kq with
 | zero => exact absurd HA.out (by simp [stanzaref01_length.j0])
 | succ kj2 =>
  have H := HA.out; clear HA; simp only [stanzaref01_length.j0] at H; by_cases c5 : x6_2 = true
  ·subst c5
   have H1 : (some 2) = some r := by rw [if_pos rfl] at H; exact H
   clear H; have H := H1; clear H1; obtain rfl := Option.some.inj H
   go_wp2
   go_ret
   exact ⟨by first | rfl | (simp; done) | (simp [*]; done), by repeat (first | exact Drawn0.refl _ | apply Drawn0.step)⟩
  replace c5 := Bool.eq_false_iff.mpr c5; subst c5; have H1 : (if a0 ≥ 224 then (stanzaref01_length.j1 kj2 a0 (decide (a0 ≤ 239))) else (stanzaref01_length.j1 kj2 a0 false)) = some r := by rw [if_neg (show ¬ (false = true) by decide)] at H; exact H
  clear H; have H := H1; clear H1; have HC6 := zA.mk H; clear H; go_upto_region 5 with (fail)
  go_cut [13] (fun v13 wc => ∃ (kq : Nat) (x13_5 : Bool), v13 = .bool x13_5 ∧ zA (stanzaref01_length.j1 kq a0 x13_5 = some r) ∧ zA (kq ≤ kj2) ∧ Drawn0 w wc)
  case first =>
   have H := HC6.out; clear HC6; by_cases c7 : a0 ≥ 224
   ·rw [if_pos c7] at H
    have c7b0 : decide (224 ≤ a0) = true := decide_eq_true c7
    clear c7; (first | rw [c7b0] | (simp only [i64_w, i32_w]; rw [c7b0]) | skip)
    have H' := zA.mk H
    clear H; go_wp2
    go_meet
    case rel => exact ⟨_, (decide (a0 ≤ 239)), aZ, H', ⟨by have := HJ2.out; first | omega | exact Nat.le_refl _⟩, by repeat (first | exact Drawn0.refl _ | apply Drawn0.step)⟩
   rw [if_neg c7] at H; have c7b0 : decide (224 ≤ a0) = false := decide_eq_false c7
   clear c7; (first | rw [c7b0] | (simp only [i64_w, i32_w]; rw [c7b0]) | skip)
   have H' := zA.mk H
   clear H; go_wp2
   go_meet
   case rel => exact ⟨_, (false), aZ, H', ⟨by have := HJ2.out; first | omega | exact Nat.le_refl _⟩, by repeat (first | exact Drawn0.refl _ | apply Drawn0.step)⟩
  clear HC6; obtain ⟨kq, x13_5, rfl, HA, HJ5, ⟨mc5, rfl⟩⟩ := hcut; cases kq with
  | zero => exact absurd HA.out (by simp [stanzaref01_length.j1])
  | succ kj5 =>
   have H := HA.out; clear HA; simp only [stanzaref01_length.j1] at H; by_cases c8 : x13_5 = true
   ·subst c8
    have H1 : (some 3) = some r := by rw [if_pos rfl] at H; exact H
    clear H; have H := H1; clear H1; obtain rfl := Option.some.inj H
    go_wp2
    go_ret
    exact ⟨by first | rfl | (simp; done) | (simp [*]; done), by repeat (first | exact Drawn0.refl _ | apply Drawn0.step)⟩
   replace c8 := Bool.eq_false_iff.mpr c8; subst c8; have H1 : (if a0 ≥ 240 then (if a0 ≤ 244 then (some 4) else (some 0)) else (some 0)) = some r := by rw [if_neg (show ¬ (false = true) by decide)] at H; exact H
   clear H; have H := H1; clear H1; by_cases c9 : a0 ≥ 240
   rotate_left
   ·rw [if_neg c9] at H
    have c9b0 : decide (240 ≤ a0) = false := decide_eq_false c9
    clear c9; obtain rfl := Option.some.inj H
    go_wp2
    go_ret
    exact ⟨by first | rfl | (simp; done) | (simp [*]; done), by repeat (first | exact Drawn0.refl _ | apply Drawn0.step)⟩
   rw [if_pos c9] at H; have c9b0 : decide (240 ≤ a0) = true := decide_eq_true c9
   clear c9; by_cases c10 : a0 ≤ 244
   ·rw [if_pos c10] at H
    have c10b0 : decide (a0 ≤ 244) = true := decide_eq_true c10
    clear c10; obtain rfl := Option.some.inj H
    go_wp2
    go_ret
    exact ⟨by first | rfl | (simp; done) | (simp [*]; done), by repeat (first | exact Drawn0.refl _ | apply Drawn0.step)⟩
   rw [if_neg c10] at H; have c10b0 : decide (a0 ≤ 244) = false := decide_eq_false c10
   clear c10; obtain rfl := Option.some.inj H
   go_wp2
   go_ret
   exact ⟨by first | rfl | (simp; done) | (simp [*]; done), by repeat (first | exact Drawn0.refl _ | apply Drawn0.step)⟩
mutual
def stanzaref01_Begins.j0 : Nat → List Int → Bool → Option (Bool)
 | 0, _, _ => none
 | k + 1, x0, x15 => if x15 = true then (some false) else (stanzaref01_Begins.l0 k x0 1)
def stanzaref01_Begins.l0 : Nat → List Int → Int → Option (Bool)
 | 0, _, _ => none
 | k + 1, x0, x3 => if x3 < (x0.length : Int) then (if 0 ≤ x3 then (if (rd x0 x3) < 128 then (some false) else (if (rd x0 x3) > 191 then (some false) else (stanzaref01_Begins.l0 k x0 (wrap64 (x3 + 1))))) else (none)) else (if (x0.length : Int) = 1 then (some true) else (if 0 < (x0.length : Int) then (if (rd x0 0) = 224 then (if 1 < (x0.length : Int) then (some (decide ((rd x0 1) ≥ 160))) else (none)) else (if (rd x0 0) = 237 then (if 1 < (x0.length : Int) then (some (decide ((rd x0 1) < 160))) else (none)) else (if (rd x0 0) = 240 then (if 1 < (x0.length : Int) then (some (decide ((rd x0 1) ≥ 144))) else (none)) else (if (rd x0 0) = 244 then (if 1 < (x0.length : Int) then (some (decide ((rd x0 1) < 144))) else (none)) else (some true))))) else (none)))
end
def stanzaref01_Begins.f (k : Nat) (l0 : List Int) : Option (Bool) := if (l0.length : Int) = 0 then (stanzaref01_Begins.j0 k l0 true) else (if 0 < (l0.length : Int) then ((stanzaref01_length.f k (rd l0 0)).bind fun t175 => (stanzaref01_Begins.j0 k l0 (decide ((l0.length : Int) > t175)))) else (none))
theorem stanzaref01_Begins.mono_l : ∀ k, (∀ y0 y1, LeO (stanzaref01_Begins.j0 k y0 y1) (stanzaref01_Begins.j0 (k + 1) y0 y1)) ∧ (∀ y0 y1, LeO (stanzaref01_Begins.l0 k y0 y1) (stanzaref01_Begins.l0 (k + 1) y0 y1))
 | 0 => ⟨fun _ _ r h => by simp [stanzaref01_Begins.j0] at h, fun _ _ r h => by simp [stanzaref01_Begins.l0] at h⟩
 | k + 1 => by
  obtain ⟨ih0, ih1⟩ := stanzaref01_Begins.mono_l k; refine ⟨?_, ?_⟩
  ·intro y0 y1
   unfold stanzaref01_Begins.j0
   repeat' (with_reducible first | exact ih0 _ _ | exact ih1 _ _ | exact stanzaref01_length.mono _ _ | exact LeO.refl _ | exact LeO.none _ | refine LeO.ite ?_ ?_ | refine LeO.bind ?_ (fun _ => ?_))
  ·intro y0 y1
   unfold stanzaref01_Begins.l0
   repeat' (with_reducible first | exact ih0 _ _ | exact ih1 _ _ | exact stanzaref01_length.mono _ _ | exact LeO.refl _ | exact LeO.none _ | refine LeO.ite ?_ ?_ | refine LeO.bind ?_ (fun _ => ?_))
theorem stanzaref01_Begins.mono : ∀ a0 k, LeO (stanzaref01_Begins.f k a0) (stanzaref01_Begins.f (k + 1) a0) := by
 intro a0 k
 obtain ⟨ih0, ih1⟩ := stanzaref01_Begins.mono_l k; unfold stanzaref01_Begins.f
 repeat' (with_reducible first | exact ih0 _ _ | exact ih1 _ _ | exact stanzaref01_length.mono _ _ | exact LeO.refl _ | exact LeO.none _ | refine LeO.ite ?_ ?_ | refine LeO.bind ?_ (fun _ => ?_))
set_option maxHeartbeats 8000000 in
set_option maxRecDepth 100000 in
theorem stanzaref01_Begins.calls (k : Nat) (A0 : Option Addr) (c0 : Nat) (l0 : List Int) (r : Bool) (w : World) (hr0 : Kd.C (Kd.int .u8) w A0 l0.length l0) (hc0 : l0.length ≤ c0) (h : stanzaref01_Begins.f k l0 = some r) :
  Calls Try.prog 38 #[.slice A0 l0.length c0] w fun e w' => e = .returned (.bool r) ∧ Drawn0 w w' := by
 have HR0 := zA.mk hr0; have HC0 := zA.mk hc0; clear hr0 hc0; have H : (if (l0.length : Int) = 0 then (stanzaref01_Begins.j0 k l0 true) else (if 0 < (l0.length : Int) then ((stanzaref01_length.f k (rd l0 0)).bind fun t175 => (stanzaref01_Begins.j0 k l0 (decide ((l0.length : Int) > t175)))) else (none))) = some r := h
 clear h; have HC2 := zA.mk H; clear H; go_enter Try.func38, Try.ntmps38
 go_upto_region 1 with (fail)
 go_cut [15] (fun v15 wc => ∃ (kq : Nat) (x15_1 : Bool), v15 = .bool x15_1 ∧ zA (stanzaref01_Begins.j0 kq l0 x15_1 = some r) ∧ zA (kq ≤ k) ∧ Drawn0 w wc)
 case first =>
  have H := HC2.out; clear HC2; by_cases c3 : (l0.length : Int) = 0
  ·rw [if_pos c3] at H
   have c3b0 : ((l0.length : Int) == 0) = true := beq_iff_eq.mpr c3
   have c3b1 : ((l0.length : Int) != 0) = false := bne_eq_false_iff_eq.mpr c3
   clear c3; (first | rw [c3b0] | (simp only [i64_w, i32_w]; rw [c3b0]) | skip)
   have H' := zA.mk H
   clear H; go_wp2
   go_meet
   case rel => exact ⟨_, (true), aZ, H', ⟨by first | omega | exact Nat.le_refl _⟩, by repeat (first | exact Drawn0.refl _ | apply Drawn0.step)⟩
  rw [if_neg c3] at H; have c3b0 : ((l0.length : Int) == 0) = false := beq_eq_false_iff_ne.mpr c3
  have c3b1 : ((l0.length : Int) != 0) = true := bne_iff_ne.mpr c3
  have c3b2 : ¬ (l0 = []) := fun h_ => c3 (by rw [h_]; rfl)
  (first | rw [c3b0] | (simp only [i64_w, i32_w]; rw [c3b0]) | skip)
  by_cases c4 : 0 < (l0.length : Int)
  rotate_left
  ·rw [if_neg c4] at H
   exact absurd H (by simp)
  rw [if_pos c4] at H; have c4b0 : decide (0 < (l0.length : Int)) = true := decide_eq_true c4
  have c4b1 : decide (0 < l0.length) = true := decide_eq_true (by omega)
  clear c4; replace H := Option.bind_eq_some_iff.mp H; obtain ⟨t175, A50, H⟩ := H; replace H : (stanzaref01_Begins.j0 k l0 (decide ((l0.length : Int) > t175))) = some r := H; have A5 := zA.mk A50; clear A50; have H' := zA.mk H
  clear H; have p174 : 0 ≤ (0 : Int) := (by omega)
  have q174 : 0 < (l0.length : Int) := aD
  obtain ⟨ad174, e174, hx174_0⟩ := Kd.at_int HR0.out 0 p174 q174; cases e174
  have qi174 : (0 < l0.length) = True := eq_true (by omega)
  (try rw [show ((0 : Int)).toNat = 0 from rfl] at hx174_0)
  (try rw [Addr.add_zero'] at hx174_0)
  replace p174 := eq_true p174; replace q174 := eq_true q174; go_wp2_with (first | (go_at_call 39; (with_reducible refine (stanzaref01_length.calls k (rd l0 0) t175 _ A5.out).mono ?_); rintro e w' ⟨rfl, ⟨nd, rfl⟩⟩))
  go_meet
  case rel => exact ⟨_, (decide ((l0.length : Int) > t175)), aZ, H', ⟨by first | omega | exact Nat.le_refl _⟩, by repeat (first | exact Drawn0.refl _ | apply Drawn0.step)⟩
 clear HC2; obtain ⟨kq, x15_1, rfl, HA, HJ1, ⟨mc1, rfl⟩⟩ := hcut; cases kq with
 | zero => exact absurd HA.out (by simp [stanzaref01_Begins.j0])
 | succ kj1 =>
  have H := HA.out; clear HA; simp only [stanzaref01_Begins.j0] at H; by_cases c6 : x15_1 = true
  ·subst c6
   have H1 : (some false) = some r := by rw [if_pos rfl] at H; exact H
   clear H; have H := H1; clear H1; obtain rfl := Option.some.inj H
   go_wp2
   go_ret
   exact ⟨by first | rfl | (simp; done) | (simp [*]; done), by repeat (first | exact Drawn0.refl _ | apply Drawn0.step)⟩
  replace c6 := Bool.eq_false_iff.mpr c6; subst c6; have H1 : (stanzaref01_Begins.l0 kj1 l0 1) = some r := by rw [if_neg (show ¬ (false = true) by decide)] at H; exact H
  clear H; have H := H1; clear H1; have H' := zA.mk H
  clear H; go_wp2
  go_loopg [3] kj1 (fun kq v3 w' => ∃ (x3_2 : Int), v3 = .int .i64 x3_2 ∧ zA (stanzaref01_Begins.l0 kq l0 x3_2 = some r) ∧ zA (kq ≤ kj1) ∧ Drawn0 w w')
  case atStart => exact ⟨(1), aZ, H', ⟨Nat.le_refl _⟩, by repeat (first | exact Drawn0.refl _ | apply Drawn0.step)⟩
  clear H'; obtain ⟨x3_2, rfl, HA, HK2, ⟨m2, rfl⟩⟩ := hrel; cases gk with
  | zero => exact absurd HA.out (by simp [stanzaref01_Begins.l0])
  | succ k2 =>
   have H := HA.out; clear HA; simp only [stanzaref01_Begins.l0] at H; by_cases c7 : x3_2 < (l0.length : Int)
   ·rw [if_pos c7] at H
    have c7b0 : decide (x3_2 < (l0.length : Int)) = true := decide_eq_true c7
    clear c7; by_cases c8 : 0 ≤ x3_2
    rotate_left
    ·rw [if_neg c8] at H
     exact absurd H (by simp)
    rw [if_pos c8] at H; have c8b0 : decide (0 ≤ x3_2) = true := decide_eq_true c8
    clear c8; by_cases c9 : (rd l0 x3_2) < 128
    ·rw [if_pos c9] at H
     have c9b0 : decide ((rd l0 x3_2) < 128) = true := decide_eq_true c9
     clear c9; obtain rfl := Option.some.inj H
     have p176 : 0 ≤ (x3_2 : Int) := aD
     have q176 : x3_2 < (l0.length : Int) := aD
     obtain ⟨ad176, e176, hx176_0⟩ := Kd.at_int HR0.out x3_2 p176 q176; cases e176
     replace p176 := eq_true p176; replace q176 := eq_true q176; go_wp2
     go_ret
     exact ⟨by first | rfl | (simp; done) | (simp [*]; done), by repeat (first | exact Drawn0.refl _ | apply Drawn0.step)⟩
    rw [if_neg c9] at H; have c9b0 : decide ((rd l0 x3_2) < 128) = false := decide_eq_false c9
    clear c9; by_cases c10 : (rd l0 x3_2) > 191
    ·rw [if_pos c10] at H
     have c10b0 : decide (191 < (rd l0 x3_2)) = true := decide_eq_true c10
     clear c10; obtain rfl := Option.some.inj H
     have p176 : 0 ≤ (x3_2 : Int) := aD
     have q176 : x3_2 < (l0.length : Int) := aD
     obtain ⟨ad176, e176, hx176_0⟩ := Kd.at_int HR0.out x3_2 p176 q176; cases e176
     replace p176 := eq_true p176; replace q176 := eq_true q176; have p177 : 0 ≤ (x3_2 : Int) := aD
     have q177 : x3_2 < (l0.length : Int) := aD
     obtain ⟨ad177, e177, hx177_0⟩ := Kd.at_int HR0.out x3_2 p177 q177; obtain rfl : ad176 = ad177 := (by injection e177)
     replace p177 := eq_true p177; replace q177 := eq_true q177; go_wp2
     go_ret
     exact ⟨by first | rfl | (simp; done) | (simp [*]; done), by repeat (first | exact Drawn0.refl _ | apply Drawn0.step)⟩
    rw [if_neg c10] at H; have c10b0 : decide (191 < (rd l0 x3_2)) = false := decide_eq_false c10
    clear c10; have H' := zA.mk H
    clear H; have p176 : 0 ≤ (x3_2 : Int) := aD
    have q176 : x3_2 < (l0.length : Int) := aD
    obtain ⟨ad176, e176, hx176_0⟩ := Kd.at_int HR0.out x3_2 p176 q176; cases e176
    replace p176 := eq_true p176; replace q176 := eq_true q176; have p177 : 0 ≤ (x3_2 : Int) := aD
    have q177 : x3_2 < (l0.length : Int) := aD
    obtain ⟨ad177, e177, hx177_0⟩ := Kd.at_int HR0.out x3_2 p177 q177; obtain rfl : ad176 = ad177 := (by injection e177)
    replace p177 := eq_true p177; replace q177 := eq_true q177; go_wp2
    go_roundg k2
    case measure => have := HJ1.out; have := HK2.out; omega
    case rel => exact ⟨(wrap64 (x3_2 + 1)), aZ, H', ⟨by have := HJ1.out; have := HK2.out; omega⟩, by repeat (first | exact Drawn0.refl _ | apply Drawn0.step)⟩
   rw [if_neg c7] at H; have c7b0 : decide (x3_2 < (l0.length : Int)) = false := decide_eq_false c7
   clear c7; by_cases c11 : (l0.length : Int) = 1
   ·rw [if_pos c11] at H
    have c11b0 : ((l0.length : Int) == 1) = true := beq_iff_eq.mpr c11
    have c11b1 : ((l0.length : Int) != 1) = false := bne_eq_false_iff_eq.mpr c11
    clear c11; obtain rfl := Option.some.inj H
    go_wp2
    go_ret
    exact ⟨by first | rfl | (simp; done) | (simp [*]; done), by repeat (first | exact Drawn0.refl _ | apply Drawn0.step)⟩
   rw [if_neg c11] at H; have c11b0 : ((l0.length : Int) == 1) = false := beq_eq_false_iff_ne.mpr c11
   have c11b1 : ((l0.length : Int) != 1) = true := bne_iff_ne.mpr c11
   by_cases c12 : 0 < (l0.length : Int)
   rotate_left
   ·rw [if_neg c12] at H
    exact absurd H (by simp)
   rw [if_pos c12] at H; have c12b0 : decide (0 < (l0.length : Int)) = true := decide_eq_true c12
   have c12b1 : decide (0 < l0.length) = true := decide_eq_true (by omega)
   clear c12; by_cases c13 : (rd l0 0) = 224
   ·rw [if_pos c13] at H
    have c13b0 : ((rd l0 0) == 224) = true := beq_iff_eq.mpr c13
    have c13b1 : ((rd l0 0) != 224) = false := bne_eq_false_iff_eq.mpr c13
    clear c13; by_cases c14 : 1 < (l0.length : Int)
    rotate_left
    ·rw [if_neg c14] at H
     exact absurd H (by simp)
    rw [if_pos c14] at H; have c14b0 : decide (1 < (l0.length : Int)) = true := decide_eq_true c14
    have c14b1 : decide (1 < l0.length) = true := decide_eq_true (by omega)
    clear c14; obtain rfl := Option.some.inj H
    have p178 : 0 ≤ (0 : Int) := (by omega)
    have q178 : 0 < (l0.length : Int) := aD
    obtain ⟨ad178, e178, hx178_0⟩ := Kd.at_int HR0.out 0 p178 q178; cases e178
    have qi178 : (0 < l0.length) = True := eq_true (by omega)
    (try rw [show ((0 : Int)).toNat = 0 from rfl] at hx178_0)
    (try rw [Addr.add_zero'] at hx178_0)
    replace p178 := eq_true p178; replace q178 := eq_true q178; have p179 : 0 ≤ (1 : Int) := (by omega)
    have q179 : 1 < (l0.length : Int) := aD
    obtain ⟨ad179, e179, hx179_0⟩ := Kd.at_int HR0.out 1 p179 q179; obtain rfl : ad178 = ad179 := (by injection e179)
    (try simp only [show (1 : Int).toNat = 1 from rfl, Nat.reduceMul, Nat.reduceEqDiff, Go.Addr.add, ↓reduceIte] at hx179_0)
    have qi179 : (1 < l0.length) = True := eq_true (by omega)
    (try rw [show ((1 : Int)).toNat = 1 from rfl] at hx179_0)
    replace p179 := eq_true p179; replace q179 := eq_true q179; go_wp2
    go_ret
    exact ⟨by first | rfl | (simp; done) | (simp [*]; done), by repeat (first | exact Drawn0.refl _ | apply Drawn0.step)⟩
   rw [if_neg c13] at H; have c13b0 : ((rd l0 0) == 224) = false := beq_eq_false_iff_ne.mpr c13
   have c13b1 : ((rd l0 0) != 224) = true := bne_iff_ne.mpr c13
   by_cases c15 : (rd l0 0) = 237
   ·rw [if_pos c15] at H
    have c15b0 : ((rd l0 0) == 237) = true := beq_iff_eq.mpr c15
    have c15b1 : ((rd l0 0) != 237) = false := bne_eq_false_iff_eq.mpr c15
    clear c15; by_cases c16 : 1 < (l0.length : Int)
    rotate_left
    ·rw [if_neg c16] at H
     exact absurd H (by simp)
    rw [if_pos c16] at H; have c16b0 : decide (1 < (l0.length : Int)) = true := decide_eq_true c16
    have c16b1 : decide (1 < l0.length) = true := decide_eq_true (by omega)
    clear c16; obtain rfl := Option.some.inj H
    have p178 : 0 ≤ (0 : Int) := (by omega)
    have q178 : 0 < (l0.length : Int) := aD
    obtain ⟨ad178, e178, hx178_0⟩ := Kd.at_int HR0.out 0 p178 q178; cases e178
    have qi178 : (0 < l0.length) = True := eq_true (by omega)
    (try rw [show ((0 : Int)).toNat = 0 from rfl] at hx178_0)
    (try rw [Addr.add_zero'] at hx178_0)
    replace p178 := eq_true p178; replace q178 := eq_true q178; have p180 : 0 ≤ (1 : Int) := (by omega)
    have q180 : 1 < (l0.length : Int) := aD
    obtain ⟨ad180, e180, hx180_0⟩ := Kd.at_int HR0.out 1 p180 q180; obtain rfl : ad178 = ad180 := (by injection e180)
    (try simp only [show (1 : Int).toNat = 1 from rfl, Nat.reduceMul, Nat.reduceEqDiff, Go.Addr.add, ↓reduceIte] at hx180_0)
    have qi180 : (1 < l0.length) = True := eq_true (by omega)
    (try rw [show ((1 : Int)).toNat = 1 from rfl] at hx180_0)
    replace p180 := eq_true p180; replace q180 := eq_true q180; go_wp2
    go_ret
    exact ⟨by first | rfl | (simp; done) | (simp [*]; done), by repeat (first | exact Drawn0.refl _ | apply Drawn0.step)⟩
   rw [if_neg c15] at H; have c15b0 : ((rd l0 0) == 237) = false := beq_eq_false_iff_ne.mpr c15
   have c15b1 : ((rd l0 0) != 237) = true := bne_iff_ne.mpr c15
   by_cases c17 : (rd l0 0) = 240
   ·rw [if_pos c17] at H
    have c17b0 : ((rd l0 0) == 240) = true := beq_iff_eq.mpr c17
    have c17b1 : ((rd l0 0) != 240) = false := bne_eq_false_iff_eq.mpr c17
    clear c17; by_cases c18 : 1 < (l0.length : Int)
    rotate_left
    ·rw [if_neg c18] at H
     exact absurd H (by simp)
    rw [if_pos c18] at H; have c18b0 : decide (1 < (l0.length : Int)) = true := decide_eq_true c18
    have c18b1 : decide (1 < l0.length) = true := decide_eq_true (by omega)
    clear c18; obtain rfl := Option.some.inj H
    have p178 : 0 ≤ (0 : Int) := (by omega)
    have q178 : 0 < (l0.length : Int) := aD
    obtain ⟨ad178, e178, hx178_0⟩ := Kd.at_int HR0.out 0 p178 q178; cases e178
    have qi178 : (0 < l0.length) = True := eq_true (by omega)
    (try rw [show ((0 : Int)).toNat = 0 from rfl] at hx178_0)
    (try rw [Addr.add_zero'] at hx178_0)
    replace p178 := eq_true p178; replace q178 := eq_true q178; have p181 : 0 ≤ (1 : Int) := (by omega)
    have q181 : 1 < (l0.length : Int) := aD
    obtain ⟨ad181, e181, hx181_0⟩ := Kd.at_int HR0.out 1 p181 q181; obtain rfl : ad178 = ad181 := (by injection e181)
    (try simp only [show (1 : Int).toNat = 1 from rfl, Nat.reduceMul, Nat.reduceEqDiff, Go.Addr.add, ↓reduceIte] at hx181_0)
    have qi181 : (1 < l0.length) = True := eq_true (by omega)
    (try rw [show ((1 : Int)).toNat = 1 from rfl] at hx181_0)
    replace p181 := eq_true p181; replace q181 := eq_true q181; go_wp2
    go_ret
    exact ⟨by first | rfl | (simp; done) | (simp [*]; done), by repeat (first | exact Drawn0.refl _ | apply Drawn0.step)⟩
   rw [if_neg c17] at H; have c17b0 : ((rd l0 0) == 240) = false := beq_eq_false_iff_ne.mpr c17
   have c17b1 : ((rd l0 0) != 240) = true := bne_iff_ne.mpr c17
   by_cases c19 : (rd l0 0) = 244
   rotate_left
   ·rw [if_neg c19] at H
    have c19b0 : ((rd l0 0) == 244) = false := beq_eq_false_iff_ne.mpr c19
    have c19b1 : ((rd l0 0) != 244) = true := bne_iff_ne.mpr c19
    obtain rfl := Option.some.inj H
    have p178 : 0 ≤ (0 : Int) := (by omega)
    have q178 : 0 < (l0.length : Int) := aD
    obtain ⟨ad178, e178, hx178_0⟩ := Kd.at_int HR0.out 0 p178 q178; cases e178
    have qi178 : (0 < l0.length) = True := eq_true (by omega)
    (try rw [show ((0 : Int)).toNat = 0 from rfl] at hx178_0)
    (try rw [Addr.add_zero'] at hx178_0)
    replace p178 := eq_true p178; replace q178 := eq_true q178; go_wp2
    go_ret
    exact ⟨by first | rfl | (simp; done) | (simp [*]; done), by repeat (first | exact Drawn0.refl _ | apply Drawn0.step)⟩
   rw [if_pos c19] at H; have c19b0 : ((rd l0 0) == 244) = true := beq_iff_eq.mpr c19
   have c19b1 : ((rd l0 0) != 244) = false := bne_eq_false_iff_eq.mpr c19
   clear c19; by_cases c20 : 1 < (l0.length : Int)
   rotate_left
   ·rw [if_neg c20] at H
    exact absurd H (by simp)
   rw [if_pos c20] at H; have c20b0 : decide (1 < (l0.length : Int)) = true := decide_eq_true c20
   have c20b1 : decide (1 < l0.length) = true := decide_eq_true (by omega)
   clear c20; obtain rfl := Option.some.inj H
   have p178 : 0 ≤ (0 : Int) := (by omega)
   have q178 : 0 < (l0.length : Int) := aD
   obtain ⟨ad178, e178, hx178_0⟩ := Kd.at_int HR0.out 0 p178 q178; cases e178
   have qi178 : (0 < l0.length) = True := eq_true (by omega)
   (try rw [show ((0 : Int)).toNat = 0 from rfl] at hx178_0)
   (try rw [Addr.add_zero'] at hx178_0)
   replace p178 := eq_true p178; replace q178 := eq_true q178; have p182 : 0 ≤ (1 : Int) := (by omega)
   have q182 : 1 < (l0.length : Int) := aD
   obtain ⟨ad182, e182, hx182_0⟩ := Kd.at_int HR0.out 1 p182 q182; obtain rfl : ad178 = ad182 := (by injection e182)
   (try simp only [show (1 : Int).toNat = 1 from rfl, Nat.reduceMul, Nat.reduceEqDiff, Go.Addr.add, ↓reduceIte] at hx182_0)
   have qi182 : (1 < l0.length) = True := eq_true (by omega)
   (try rw [show ((1 : Int)).toNat = 1 from rfl] at hx182_0)
   replace p182 := eq_true p182; replace q182 := eq_true q182; go_wp2
   go_ret
   exact ⟨by first | rfl | (simp; done) | (simp [*]; done), by repeat (first | exact Drawn0.refl _ | apply Drawn0.step)⟩
mutual
def stanzaref01_One.j0 : Nat → List Int → Int → Bool → Option (Int × Int × Int)
 | 0, _, _, _ => none
 | k + 1, x0, x1, x16 => if x16 = true then (some (0, 0, 0)) else (stanzaref01_One.l0 k x0 x1 0)
def stanzaref01_One.j2 : Nat → List Int → Int → Int → Option (Int × Int × Int)
 | 0, _, _, _ => none
 | k + 1, x0, x1, x5 => if x5 = 0 then (some (65533, x1, 1)) else (if 0 ≤ x1 then (if x1 < (x0.length : Int) then ((stanzaref01_length.f k (rd x0 x1)).bind fun t187 => (if x5 < t187 then (some (65533, x1, x5)) else ((some (([0, 127, 31, 15, 7] : List Int) : List Int)).bind fun y189 => (if 0 ≤ x5 then (if x5 < (y189.length : Int) then (stanzaref01_One.l1 k x0 x1 x5 (Go.bits .and .i32 (wrap32 (rd x0 x1)) (rd y189 x5)) 1) else (none)) else (none))))) else (none)) else (none))
def stanzaref01_One.l1 : Nat → List Int → Int → Int → Int → Int → Option (Int × Int × Int)
 | 0, _, _, _, _, _ => none
 | k + 1, x0, x1, x5, x6, x8 => if x8 < x5 then (if 0 ≤ (wrap64 (x1 + x8)) then (if (wrap64 (x1 + x8)) < (x0.length : Int) then (stanzaref01_One.l1 k x0 x1 x5 (wrap32 ((wrap32 ((wrap32 (x6 * 64)) + (wrap32 (rd x0 (wrap64 (x1 + x8)))))) - 128)) (wrap64 (x8 + 1))) else (none)) else (none)) else (some (x6, x1, x5))
def stanzaref01_One.l0 : Nat → List Int → Int → Int → Option (Int × Int × Int)
 | 0, _, _, _ => none
 | k + 1, x0, x1, x5 => if x5 < 4 then (if x5 < (wrap64 ((x0.length : Int) - x1)) then (if 0 ≤ x1 then (if x1 ≤ (wrap64 ((wrap64 (x1 + x5)) + 1)) then (if (wrap64 ((wrap64 (x1 + x5)) + 1)) ≤ (x0.length : Int) then ((stanzaref01_Begins.f k ((x0.take ((wrap64 ((wrap64 (x1 + x5)) + 1)) : Int).toNat).drop (x1 : Int).toNat)).bind fun t185 => (if t185 = true then (stanzaref01_One.l0 k x0 x1 (wrap64 (x5 + 1))) else (stanzaref01_One.j2 k x0 x1 x5))) else (none)) else (none)) else (none)) else (stanzaref01_One.j2 k x0 x1 x5)) else (stanzaref01_One.j2 k x0 x1 x5)
end
def stanzaref01_One.f (k : Nat) (l0 : List Int) (a1 : Int) : Option (Int × Int × Int) := if a1 < 0 then (stanzaref01_One.j0 k l0 a1 true) else (stanzaref01_One.j0 k l0 a1 (decide (a1 ≥ (l0.length : Int))))
theorem stanzaref01_One.mono_l : ∀ k, (∀ y0 y1 y2, LeO (stanzaref01_One.j0 k y0 y1 y2) (stanzaref01_One.j0 (k + 1) y0 y1 y2)) ∧ (∀ y0 y1 y2, LeO (stanzaref01_One.j2 k y0 y1 y2) (stanzaref01_One.j2 (k + 1) y0 y1 y2)) ∧ (∀ y0 y1 y2 y3 y4, LeO (stanzaref01_One.l1 k y0 y1 y2 y3 y4) (stanzaref01_One.l1 (k + 1) y0 y1 y2 y3 y4)) ∧ (∀ y0 y1 y2, LeO (stanzaref01_One.l0 k y0 y1 y2) (stanzaref01_One.l0 (k + 1) y0 y1 y2))
 | 0 => ⟨fun _ _ _ r h => by simp [stanzaref01_One.j0] at h, fun _ _ _ r h => by simp [stanzaref01_One.j2] at h, fun _ _ _ _ _ r h => by simp [stanzaref01_One.l1] at h, fun _ _ _ r h => by simp [stanzaref01_One.l0] at h⟩
 | k + 1 => by
  obtain ⟨ih0, ih1, ih2, ih3⟩ := stanzaref01_One.mono_l k; refine ⟨?_, ?_, ?_, ?_⟩
  ·intro y0 y1 y2
   unfold stanzaref01_One.j0
   repeat' (with_reducible first | exact ih0 _ _ _ | exact ih1 _ _ _ | exact ih2 _ _ _ _ _ | exact ih3 _ _ _ | exact stanzaref01_Begins.mono _ _ | exact stanzaref01_length.mono _ _ | exact LeO.refl _ | exact LeO.none _ | refine LeO.ite ?_ ?_ | refine LeO.bind ?_ (fun _ => ?_))
  ·intro y0 y1 y2
   unfold stanzaref01_One.j2
   repeat' (with_reducible first | exact ih0 _ _ _ | exact ih1 _ _ _ | exact ih2 _ _ _ _ _ | exact ih3 _ _ _ | exact stanzaref01_Begins.mono _ _ | exact stanzaref01_length.mono _ _ | exact LeO.refl _ | exact LeO.none _ | refine LeO.ite ?_ ?_ | refine LeO.bind ?_ (fun _ => ?_))
  ·intro y0 y1 y2 y3 y4
   unfold stanzaref01_One.l1
   repeat' (with_reducible first | exact ih0 _ _ _ | exact ih1 _ _ _ | exact ih2 _ _ _ _ _ | exact ih3 _ _ _ | exact stanzaref01_Begins.mono _ _ | exact stanzaref01_length.mono _ _ | exact LeO.refl _ | exact LeO.none _ | refine LeO.ite ?_ ?_ | refine LeO.bind ?_ (fun _ => ?_))
  ·intro y0 y1 y2
   unfold stanzaref01_One.l0
   repeat' (with_reducible first | exact ih0 _ _ _ | exact ih1 _ _ _ | exact ih2 _ _ _ _ _ | exact ih3 _ _ _ | exact stanzaref01_Begins.mono _ _ | exact stanzaref01_length.mono _ _ | exact LeO.refl _ | exact LeO.none _ | refine LeO.ite ?_ ?_ | refine LeO.bind ?_ (fun _ => ?_))
theorem stanzaref01_One.mono : ∀ a0 a1 k, LeO (stanzaref01_One.f k a0 a1) (stanzaref01_One.f (k + 1) a0 a1) := by
 intro a0 a1 k
 obtain ⟨ih0, ih1, ih2, ih3⟩ := stanzaref01_One.mono_l k; unfold stanzaref01_One.f
 repeat' (with_reducible first | exact ih0 _ _ _ | exact ih1 _ _ _ | exact ih2 _ _ _ _ _ | exact ih3 _ _ _ | exact stanzaref01_Begins.mono _ _ | exact stanzaref01_length.mono _ _ | exact LeO.refl _ | exact LeO.none _ | refine LeO.ite ?_ ?_ | refine LeO.bind ?_ (fun _ => ?_))
set_option maxHeartbeats 8000000 in
set_option maxRecDepth 100000 in
theorem stanzaref01_One.calls (k : Nat) (A0 : Option Addr) (c0 : Nat) (l0 : List Int) (a1 : Int) (r1 : Int) (r2 : Int) (r3 : Int) (w : World) (hr0 : Kd.C (Kd.int .u8) w A0 l0.length l0) (hc0 : l0.length ≤ c0) (h : stanzaref01_One.f k l0 a1 = some (r1, r2, r3)) :
  Calls Try.prog 35 #[.slice A0 l0.length c0, .int .i64 a1] w fun e w' => e = .returned (.agg #[.int .i32 r1, .int .i64 r2, .int .i64 r3]) ∧ Below w.heap.size w w' := by
 have hu50 := Try.underlying50; have HR0 := zA.mk hr0; have HC0 := zA.mk hc0; clear hr0 hc0; have HB := zA.mk (Below.refl w.heap.size w); have H : (if a1 < 0 then (stanzaref01_One.j0 k l0 a1 true) else (stanzaref01_One.j0 k l0 a1 (decide (a1 ≥ (l0.length : Int))))) = some (r1, r2, r3) := h
 clear h; have HC3 := zA.mk H; clear H; go_enter Try.func35, Try.ntmps35
 go_upto_region 1 with (first | ((with_reducible refine gate_dst (N := 4) rfl ?_); (try (refine gate_guard (by rfl) ?_; dsimp only)); refine box_event ?hg (N := 4) ?hd (cs := #[.int .i32 0, .int .i64 0, .int .i64 0]) (t := 50) ?hr ?_; (case hd => rfl); (case hg => rfl); (case hr => first | (go_simp; done) | (go_simp; rfl)); intro gb183 hg w4 hbox hb; have BK183 := zA.mk (hbox); have GW183 := zA.mk ((by rw [hg]; exact (zF (aL HB)) : w.heap.size ≤ gb183)); replace HB := zA.mk (below_step (aL HB) hb); have GE183 := GW183; clear hb hbox hg))
 (try simp only [Act.put, sA_, sB_, sC_])
 go_cut [16] (fun v16 wc => ∃ (kq : Nat) (x16_2 : Bool), v16 = .bool x16_2 ∧ zA (stanzaref01_One.j0 kq l0 a1 x16_2 = some (r1, r2, r3)) ∧ zA (kq ≤ k) ∧ zA (wc.heap[gb183]? = some (.cells #[.int .i32 0, .int .i64 0, .int .i64 0] 50 (0, 0))) ∧ zA (Below w.heap.size w wc))
 case first =>
  have H := HC3.out; clear HC3; by_cases c5 : a1 < 0
  ·rw [if_pos c5] at H
   have c5b0 : decide (a1 < 0) = true := decide_eq_true c5
   clear c5; (first | rw [c5b0] | (simp only [i64_w, i32_w]; rw [c5b0]) | skip)
   have H' := zA.mk H
   clear H; go_wp2
   go_meet
   case rel => exact ⟨_, (true), aZ, H', ⟨by first | omega | exact Nat.le_refl _⟩, ⟨aB BK183⟩, ⟨aL HB⟩⟩
  rw [if_neg c5] at H; have c5b0 : decide (a1 < 0) = false := decide_eq_false c5
  clear c5; (first | rw [c5b0] | (simp only [i64_w, i32_w]; rw [c5b0]) | skip)
  have H' := zA.mk H
  clear H; go_wp2
  go_meet
  case rel => exact ⟨_, (decide (a1 ≥ (l0.length : Int))), aZ, H', ⟨by first | omega | exact Nat.le_refl _⟩, ⟨aB BK183⟩, ⟨aL HB⟩⟩
 clear HC3; obtain ⟨kq, x16_2, rfl, HA, HJ2, BK183, HB⟩ := hcut; cases kq with
 | zero => exact absurd HA.out (by simp [stanzaref01_One.j0])
 | succ kj2 =>
  have H := HA.out; clear HA; simp only [stanzaref01_One.j0] at H; by_cases c6 : x16_2 = true
  ·subst c6
   have H1 : (some (0, 0, 0)) = some (r1, r2, r3) := by rw [if_pos rfl] at H; exact H
   clear H; have H := H1; clear H1; simp only [Option.some.injEq, Prod.mk.injEq] at H; obtain ⟨rfl, rfl, rfl⟩ := H; obtain ⟨hcz7_0, hcz7_1, hcz7_2, hfz7_0, hfz7_1, hfz7_2⟩ := aC3 BK183; go_wp2_with (first | ((with_reducible refine gate_store (t := 50) (p := 4) rfl ?_); refine store_event (t := 50) (p := 4) (v := ?vo_w8) (w1 := (((wc.setCell ⟨gb183, 0, none⟩ (.int .i32 0)).setCell ⟨gb183, 1, none⟩ (.int .i64 0)).setCell ⟨gb183, 2, none⟩ (.int .i64 0))) ?hg ?ho ?hn ?hr ?_; (case ho => rfl); (case hg => rfl); (case hn => rfl); (case hr => first | (go_simp; done) | (go_simp; rfl)); intro w8 hw; have n0_ : zA (w8.heap[gb183]? = some (.cells #[.int .i32 0, .int .i64 0, .int .i64 0] 50 (0, 0))) := ⟨(by rw [hw]; exact (by (with_reducible repeat (first | refine zD ?_ _ | refine zC ?_ | refine zB ?_ _)); refine blk_put (cs := #[.int .i32 0, .int .i64 0, .int .i64 0]) ?_ 2 _ rfl; (with_reducible repeat (first | refine zD ?_ _ | refine zC ?_ | refine zB ?_ _)); refine blk_put (cs := #[.int .i32 0, .int .i64 0, .int .i64 0]) ?_ 1 _ rfl; (with_reducible repeat (first | refine zD ?_ _ | refine zC ?_ | refine zB ?_ _)); refine blk_put (cs := #[.int .i32 0, .int .i64 0, .int .i64 0]) ?_ 0 _ rfl; (with_reducible repeat (first | refine zD ?_ _ | refine zC ?_ | refine zB ?_ _)); exact BK183.out))⟩; have n1_ : zA (Below w.heap.size w w8) := ⟨(by rw [hw]; exact (aL HB))⟩; clear hw; clear BK183; clear HB; have BK183 := n0_; have HB := n1_; clear n0_ n1_))
   refine bodyPost_ret (results_cell_row rfl _ _ gb183 50 #[.int .i32 0, .int .i64 0, .int .i64 0] (0, 0) _ rfl (aB BK183) Try.underlying50 rfl (by kernel_rfl)) rfl ?_
   exact ⟨aX, aL HB⟩
  replace c6 := Bool.eq_false_iff.mpr c6; subst c6; have H1 : (stanzaref01_One.l0 kj2 l0 a1 0) = some (r1, r2, r3) := by rw [if_neg (show ¬ (false = true) by decide)] at H; exact H
  clear H; have H := H1; clear H1; have HC9 := zA.mk H; clear H; go_upto_block 0 with (fail)
  go_cut [5] (fun v5 wc => ∃ (kq : Nat) (x5_8 : Int), v5 = .int .i64 x5_8 ∧ zA (stanzaref01_One.j2 kq l0 a1 x5_8 = some (r1, r2, r3)) ∧ zA (kq ≤ kj2) ∧ zA (wc.heap[gb183]? = some (.cells #[.int .i32 0, .int .i64 0, .int .i64 0] 50 (0, 0))) ∧ zA (Below w.heap.size w wc))
  case first =>
   have H := HC9.out; clear HC9; have H' := zA.mk H
   clear H; go_wp2
   go_loopg [5] kj2 (fun kq v5 w' => ∃ (x5_2 : Int), v5 = .int .i64 x5_2 ∧ zA (stanzaref01_One.l0 kq l0 a1 x5_2 = some (r1, r2, r3)) ∧ zA (kq ≤ kj2) ∧ zA (w'.heap[gb183]? = some (.cells #[.int .i32 0, .int .i64 0, .int .i64 0] 50 (0, 0))) ∧ zA (Below w.heap.size w w'))
   case atStart => exact ⟨(0), aZ, H', ⟨Nat.le_refl _⟩, ⟨aB BK183⟩, ⟨aL HB⟩⟩
   clear H'; obtain ⟨x5_2, rfl, HA, HK2, BK183, HB⟩ := hrel; cases gk with
   | zero => exact absurd HA.out (by simp [stanzaref01_One.l0])
   | succ k2 =>
    have H := HA.out; clear HA; simp only [stanzaref01_One.l0] at H; by_cases c10 : x5_2 < 4
    rotate_left
    ·rw [if_neg c10] at H
     have c10b0 : decide (x5_2 < 4) = false := decide_eq_false c10
     clear c10; (first | rw [c10b0] | (simp only [i64_w, i32_w]; rw [c10b0]) | skip)
     have H' := zA.mk H
     clear H; go_wp2
     go_meet
     case rel => exact ⟨_, (x5_2), aZ, H', ⟨by have := HJ2.out; have := HK2.out; first | omega | exact Nat.le_refl _⟩, ⟨aB BK183⟩, ⟨aL HB⟩⟩
    rw [if_pos c10] at H; have c10b0 : decide (x5_2 < 4) = true := decide_eq_true c10
    clear c10; (first | rw [c10b0] | (simp only [i64_w, i32_w]; rw [c10b0]) | skip)
    by_cases c11 : x5_2 < (wrap64 ((l0.length : Int) - a1))
    rotate_left
    ·rw [if_neg c11] at H
     have c11b0 : decide (x5_2 < (wrap64 ((l0.length : Int) - a1))) = false := decide_eq_false c11
     clear c11; have H' := zA.mk H
     clear H; go_wp2
     go_meet
     case rel => exact ⟨_, (x5_2), aZ, H', ⟨by have := HJ2.out; have := HK2.out; first | omega | exact Nat.le_refl _⟩, ⟨aB BK183⟩, ⟨aL HB⟩⟩
    rw [if_pos c11] at H; have c11b0 : decide (x5_2 < (wrap64 ((l0.length : Int) - a1))) = true := decide_eq_true c11
    clear c11; by_cases c12 : 0 ≤ a1
    rotate_left
    ·rw [if_neg c12] at H
     exact absurd H (by simp)
    rw [if_pos c12] at H; have c12b0 := eq_true c12; have c12b1 : decide (0 ≤ a1) = true := decide_eq_true c12
    clear c12; by_cases c13 : a1 ≤ (wrap64 ((wrap64 (a1 + x5_2)) + 1))
    rotate_left
    ·rw [if_neg c13] at H
     exact absurd H (by simp)
    rw [if_pos c13] at H; have c13b0 := eq_true c13; have c13b1 : decide (a1 ≤ (wrap64 ((wrap64 (a1 + x5_2)) + 1))) = true := decide_eq_true c13
    by_cases c14 : (wrap64 ((wrap64 (a1 + x5_2)) + 1)) ≤ (l0.length : Int)
    rotate_left
    ·rw [if_neg c14] at H
     exact absurd H (by simp)
    rw [if_pos c14] at H; have c14b0 := eq_true c14; have c14b1 : decide ((wrap64 ((wrap64 (a1 + x5_2)) + 1)) ≤ (l0.length : Int)) = true := decide_eq_true c14
    replace H := Option.bind_eq_some_iff.mp H; obtain ⟨t185, A150, H⟩ := H; replace H : (if t185 = true then (stanzaref01_One.l0 k2 l0 a1 (wrap64 (x5_2 + 1))) else (stanzaref01_One.j2 k2 l0 a1 x5_2)) = some (r1, r2, r3) := H; have A15 := zA.mk A150; clear A150; by_cases c16 : t185 = true
    ·subst c16
     have H1 : (stanzaref01_One.l0 k2 l0 a1 (wrap64 (x5_2 + 1))) = some (r1, r2, r3) := by rw [if_pos rfl] at H; exact H
     clear H; have H := H1; clear H1; have H' := zA.mk H
     clear H; obtain ⟨i017, hi017, _, hsz17, _⟩ := info_parts info5; obtain ⟨A17, hcut17, hA17, hC17⟩ := print_mid_of (P := Try.prog) (Value.int .u8) 0 22 5 .i64 .i64 Try.underlying22 hi017 hsz17 A0 c0 l0 a1 (wrap64 ((wrap64 (a1 + x5_2)) + 1)) (aD) (by first | omega | exact aD) (aD) HC0.out
     have HR184 := zA.mk (Kd.C_of_reads (h1 := fun _ => rfl) (hA17 _ (Kd.reads_of_C HR0.out)))
     have HC184 := zA.mk hC17; clear hA17 hC17 hi017 hsz17; go_wp2_with (first | (go_at_call 38; refine calls_of_args (args' := #[.slice A17 ((l0.take ((wrap64 ((wrap64 (a1 + x5_2)) + 1)) : Int).toNat).drop (a1 : Int).toNat).length (c0 - a1.toNat)]) (by first | (rw [show ((l0.take ((wrap64 ((wrap64 (a1 + x5_2)) + 1)) : Int).toNat).drop (a1 : Int).toNat).length = ((wrap64 ((wrap64 (a1 + x5_2)) + 1)).toNat - a1.toNat) from (by rw [List.length_drop, List.length_take]; have h_ : ((wrap64 ((wrap64 (a1 + x5_2)) + 1)) : Int) ≤ (l0.length : Int) := aD; omega)] <;> rfl) | rfl) ?_; (with_reducible refine (stanzaref01_Begins.calls k2 _ _ ((l0.take ((wrap64 ((wrap64 (a1 + x5_2)) + 1)) : Int).toNat).drop (a1 : Int).toNat) true _ ?side1 ?side2 A15.out).mono ?_); (case side1 => exact aA HR184 HB); (case side2 => exact HC184.out); rintro e w' ⟨rfl, ⟨nd, rfl⟩⟩))
     go_roundg k2
     case measure => have := HJ2.out; have := HK2.out; omega
     case rel => exact ⟨(wrap64 (x5_2 + 1)), aZ, H', ⟨by have := HJ2.out; have := HK2.out; omega⟩, ⟨aB BK183⟩, ⟨aL HB⟩⟩
    replace c16 := Bool.eq_false_iff.mpr c16; subst c16; have H1 : (stanzaref01_One.j2 k2 l0 a1 x5_2) = some (r1, r2, r3) := by rw [if_neg (show ¬ (false = true) by decide)] at H; exact H
    clear H; have H := H1; clear H1; have H' := zA.mk H
    clear H; obtain ⟨i018, hi018, _, hsz18, _⟩ := info_parts info5; obtain ⟨A18, hcut18, hA18, hC18⟩ := print_mid_of (P := Try.prog) (Value.int .u8) 0 22 5 .i64 .i64 Try.underlying22 hi018 hsz18 A0 c0 l0 a1 (wrap64 ((wrap64 (a1 + x5_2)) + 1)) (aD) (by first | omega | exact aD) (aD) HC0.out
    have HR184 := zA.mk (Kd.C_of_reads (h1 := fun _ => rfl) (hA18 _ (Kd.reads_of_C HR0.out)))
    have HC184 := zA.mk hC18; clear hA18 hC18 hi018 hsz18; go_wp2_with (first | (go_at_call 38; refine calls_of_args (args' := #[.slice A18 ((l0.take ((wrap64 ((wrap64 (a1 + x5_2)) + 1)) : Int).toNat).drop (a1 : Int).toNat).length (c0 - a1.toNat)]) (by first | (rw [show ((l0.take ((wrap64 ((wrap64 (a1 + x5_2)) + 1)) : Int).toNat).drop (a1 : Int).toNat).length = ((wrap64 ((wrap64 (a1 + x5_2)) + 1)).toNat - a1.toNat) from (by rw [List.length_drop, List.length_take]; have h_ : ((wrap64 ((wrap64 (a1 + x5_2)) + 1)) : Int) ≤ (l0.length : Int) := aD; omega)] <;> rfl) | rfl) ?_; (with_reducible refine (stanzaref01_Begins.calls k2 _ _ ((l0.take ((wrap64 ((wrap64 (a1 + x5_2)) + 1)) : Int).toNat).drop (a1 : Int).toNat) false _ ?side1 ?side2 A15.out).mono ?_); (case side1 => exact aA HR184 HB); (case side2 => exact HC184.out); rintro e w' ⟨rfl, ⟨nd, rfl⟩⟩))
    go_meet
    case rel => exact ⟨_, (x5_2), aZ, H', ⟨by have := HJ2.out; have := HK2.out; first | omega | exact Nat.le_refl _⟩, ⟨aB BK183⟩, ⟨aL HB⟩⟩
  clear HC9; obtain ⟨kq, x5_8, rfl, HA, HJ8, BK183, HB⟩ := hcut; cases kq with
  | zero => exact absurd HA.out (by simp [stanzaref01_One.j2])
  | succ kj8 =>
   have H := HA.out; clear HA; simp only [stanzaref01_One.j2] at H; by_cases c19 : x5_8 = 0
   ·rw [if_pos c19] at H
    have c19b0 : (x5_8 == 0) = true := beq_iff_eq.mpr c19
    have c19b1 : (x5_8 != 0) = false := bne_eq_false_iff_eq.mpr c19
    clear c19; simp only [Option.some.injEq, Prod.mk.injEq] at H; obtain ⟨rfl, rfl, rfl⟩ := H; obtain ⟨hcz20_0, hcz20_1, hcz20_2, hfz20_0, hfz20_1, hfz20_2⟩ := aC3 BK183; go_wp2_with (first | ((with_reducible refine gate_store (t := 50) (p := 4) rfl ?_); refine store_event (t := 50) (p := 4) (v := ?vo_w21) (w1 := (((wc.setCell ⟨gb183, 0, none⟩ (.int .i32 65533)).setCell ⟨gb183, 1, none⟩ (.int .i64 a1)).setCell ⟨gb183, 2, none⟩ (.int .i64 1))) ?hg ?ho ?hn ?hr ?_; (case ho => rfl); (case hg => rfl); (case hn => rfl); (case hr => first | (go_simp; done) | (go_simp; rfl)); intro w21 hw; have n0_ : zA (w21.heap[gb183]? = some (.cells #[.int .i32 65533, .int .i64 a1, .int .i64 1] 50 (0, 0))) := ⟨(by rw [hw]; exact (by (with_reducible repeat (first | refine zD ?_ _ | refine zC ?_ | refine zB ?_ _)); refine blk_put (cs := #[.int .i32 65533, .int .i64 a1, .int .i64 0]) ?_ 2 _ rfl; (with_reducible repeat (first | refine zD ?_ _ | refine zC ?_ | refine zB ?_ _)); refine blk_put (cs := #[.int .i32 65533, .int .i64 0, .int .i64 0]) ?_ 1 _ rfl; (with_reducible repeat (first | refine zD ?_ _ | refine zC ?_ | refine zB ?_ _)); refine blk_put (cs := #[.int .i32 0, .int .i64 0, .int .i64 0]) ?_ 0 _ rfl; (with_reducible repeat (first | refine zD ?_ _ | refine zC ?_ | refine zB ?_ _)); exact BK183.out))⟩; have n1_ : zA (Below w.heap.size w w21) := ⟨(by rw [hw]; exact (aL HB))⟩; clear hw; clear BK183; clear HB; have BK183 := n0_; have HB := n1_; clear n0_ n1_))
    refine bodyPost_ret (results_cell_row rfl _ _ gb183 50 #[.int .i32 65533, .int .i64 a1, .int .i64 1] (0, 0) _ rfl (aB BK183) Try.underlying50 rfl (by kernel_rfl)) rfl ?_
    exact ⟨aX, aL HB⟩
   rw [if_neg c19] at H; have c19b0 : (x5_8 == 0) = false := beq_eq_false_iff_ne.mpr c19
   have c19b1 : (x5_8 != 0) = true := bne_iff_ne.mpr c19
   by_cases c22 : 0 ≤ a1
   rotate_left
   ·rw [if_neg c22] at H
    exact absurd H (by simp)
   rw [if_pos c22] at H; have c22b0 : decide (0 ≤ a1) = true := decide_eq_true c22
   clear c22; by_cases c23 : a1 < (l0.length : Int)
   rotate_left
   ·rw [if_neg c23] at H
    exact absurd H (by simp)
   rw [if_pos c23] at H; have c23b0 : decide (a1 < (l0.length : Int)) = true := decide_eq_true c23
   clear c23; replace H := Option.bind_eq_some_iff.mp H; obtain ⟨t187, A240, H⟩ := H; replace H : (if x5_8 < t187 then (some (65533, a1, x5_8)) else ((some (([0, 127, 31, 15, 7] : List Int) : List Int)).bind fun y189 => (if 0 ≤ x5_8 then (if x5_8 < (y189.length : Int) then (stanzaref01_One.l1 kj8 l0 a1 x5_8 (Go.bits .and .i32 (wrap32 (rd l0 a1)) (rd y189 x5_8)) 1) else (none)) else (none)))) = some (r1, r2, r3) := H
   have A24 := zA.mk A240; clear A240; by_cases c25 : x5_8 < t187
   ·rw [if_pos c25] at H
    have c25b0 : decide (x5_8 < t187) = true := decide_eq_true c25
    clear c25; simp only [Option.some.injEq, Prod.mk.injEq] at H; obtain ⟨rfl, rfl, rfl⟩ := H; have p186 : 0 ≤ (a1 : Int) := aD
    have q186 : a1 < (l0.length : Int) := aD
    obtain ⟨ad186, e186, hx186_0⟩ := Kd.at_int HR0.out a1 p186 q186; cases e186
    replace hx186_0 := (HB.out.cell (World.block_lt_of_cell? w _ hx186_0)).trans hx186_0; replace p186 := eq_true p186; replace q186 := eq_true q186; go_wp2_with (first | ((with_reducible refine gate_callee (f := 39) rfl ?_); refine goesL_ (some 49) rfl rfl Try.func39 (by kernel_rfl) rfl #[.int .u8 (rd l0 a1)] rfl aT ?_; (with_reducible refine (stanzaref01_length.calls kj8 (rd l0 a1) t187 _ A24.out).mono ?_); rintro e w' ⟨rfl, ⟨nd, rfl⟩⟩; refine ⟨_, rfl, ?_⟩; (try (rw [drewN_self wc]; generalize hq_ : World.drewN wc _ = wc; have n0_ : zA (wc.heap[gb183]? = some (.cells #[.int .i32 0, .int .i64 0, .int .i64 0] 50 (0, 0))) := ⟨by rw [← hq_]; exact (aB BK183)⟩; have n1_ : zA (Below w.heap.size w wc) := ⟨by rw [← hq_]; exact (aL HB)⟩; clear BK183 HB hq_; have BK183 := n0_; have HB := n1_; clear n0_ n1_)); obtain ⟨hcz26_0, hcz26_1, hcz26_2, hfz26_0, hfz26_1, hfz26_2⟩ := aC3 BK183) | ((with_reducible refine gate_store (t := 50) (p := 4) rfl ?_); refine store_event (t := 50) (p := 4) (v := ?vo_w27) (w1 := (((wc.setCell ⟨gb183, 0, none⟩ (.int .i32 65533)).setCell ⟨gb183, 1, none⟩ (.int .i64 a1)).setCell ⟨gb183, 2, none⟩ (.int .i64 x5_8))) ?hg ?ho ?hn ?hr ?_; (case ho => rfl); (case hg => rfl); (case hn => rfl); (case hr => first | (go_simp; done) | (go_simp; rfl)); intro w27 hw; have n0_ : zA (w27.heap[gb183]? = some (.cells #[.int .i32 65533, .int .i64 a1, .int .i64 x5_8] 50 (0, 0))) := ⟨(by rw [hw]; exact (by (with_reducible repeat (first | refine zD ?_ _ | refine zC ?_ | refine zB ?_ _)); refine blk_put (cs := #[.int .i32 65533, .int .i64 a1, .int .i64 0]) ?_ 2 _ rfl; (with_reducible repeat (first | refine zD ?_ _ | refine zC ?_ | refine zB ?_ _)); refine blk_put (cs := #[.int .i32 65533, .int .i64 0, .int .i64 0]) ?_ 1 _ rfl; (with_reducible repeat (first | refine zD ?_ _ | refine zC ?_ | refine zB ?_ _)); refine blk_put (cs := #[.int .i32 0, .int .i64 0, .int .i64 0]) ?_ 0 _ rfl; (with_reducible repeat (first | refine zD ?_ _ | refine zC ?_ | refine zB ?_ _)); exact BK183.out))⟩; have n1_ : zA (Below w.heap.size w w27) := ⟨(by rw [hw]; exact (aL HB))⟩; clear hw; clear BK183; clear HB; have BK183 := n0_; have HB := n1_; clear n0_ n1_))
    refine bodyPost_ret (results_cell_row rfl _ _ gb183 50 #[.int .i32 65533, .int .i64 a1, .int .i64 x5_8] (0, 0) _ rfl (aB BK183) Try.underlying50 rfl (by kernel_rfl)) rfl ?_
    exact ⟨aX, aL HB⟩
   rw [if_neg c25] at H; have c25b0 : decide (x5_8 < t187) = false := decide_eq_false c25
   clear c25; obtain ⟨y189, hy189⟩ : ∃ y_ : List Int, y_ = (([0, 127, 31, 15, 7] : List Int)) := ⟨_, rfl⟩; replace H : (if 0 ≤ x5_8 then (if x5_8 < (y189.length : Int) then (stanzaref01_One.l1 kj8 l0 a1 x5_8 (Go.bits .and .i32 (wrap32 (rd l0 a1)) (rd y189 x5_8)) 1) else (none)) else (none)) = some (r1, r2, r3) := by first | (rw [hy189]; with_reducible exact H) | (have H2_ := (Option.bind_some _ _).symm.trans H; rw [hy189]; with_reducible exact H2_) | (have H2_ := (Option.bind_some _ _).symm.trans H; with_reducible exact H2_) | with_reducible exact H | (rw [hy189]; exact H) | exact H
   have Ny189 := zA.mk hy189; clear hy189; by_cases c28 : 0 ≤ x5_8
   rotate_left
   ·rw [if_neg c28] at H
    exact absurd H (by simp)
   rw [if_pos c28] at H; have c28b0 : decide (0 ≤ x5_8) = true := decide_eq_true c28
   clear c28; by_cases c29 : x5_8 < (y189.length : Int)
   rotate_left
   ·rw [if_neg c29] at H
    exact absurd H (by simp)
   rw [if_pos c29] at H; have c29b0 : decide (x5_8 < (y189.length : Int)) = true := decide_eq_true c29
   clear c29; have H' := zA.mk H
   clear H; have p186 : 0 ≤ (a1 : Int) := aD
   have q186 : a1 < (l0.length : Int) := aD
   obtain ⟨ad186, e186, hx186_0⟩ := Kd.at_int HR0.out a1 p186 q186; cases e186
   replace hx186_0 := (HB.out.cell (World.block_lt_of_cell? w _ hx186_0)).trans hx186_0; replace p186 := eq_true p186; replace q186 := eq_true q186; go_wp2_with (first | ((with_reducible refine gate_callee (f := 39) rfl ?_); refine goesL_ (some 49) rfl rfl Try.func39 (by kernel_rfl) rfl #[.int .u8 (rd l0 a1)] rfl aT ?_; (with_reducible refine (stanzaref01_length.calls kj8 (rd l0 a1) t187 _ A24.out).mono ?_); rintro e w' ⟨rfl, ⟨nd, rfl⟩⟩; refine ⟨_, rfl, ?_⟩; have p188 : 0 ≤ (a1 : Int) := aD; have q188 : a1 < (l0.length : Int) := aD; obtain ⟨ad188, e188, hx188_0⟩ := Kd.at_int HR0.out a1 p188 q188; obtain rfl : ad186 = ad188 := (by injection e188); replace hx188_0 := (HB.out.cell (World.block_lt_of_cell? w _ hx188_0)).trans hx188_0; replace p188 := eq_true p188; replace q188 := eq_true q188) | ((with_reducible refine gate_dst (N := 59) rfl ?_); (try (refine gate_guard (by rfl) ?_; dsimp only)); refine Kd.R_lit (Kd.int .i32) _ 21 ?hg (N := 59) ?hd (xs := ([0, 127, 31, 15, 7] : List Int)) (inner := [.int .i32 0, .int .i32 127, .int .i32 31, .int .i32 15, .int .i32 7]) (ok := fun _ => True) (okp := fun _ => True) ?hr ?hp (fun _ hk => hk) trivial (Below.refl _ _) (Nat.le_refl _) (by simp) ?_; (case hd => rfl); (case hg => rfl); (case hr => first | (go_simp; done) | (go_simp; rfl)); (case hp => exact (Reps.one (show Kd.M (Kd.int .i32) _ _ _ 0 [.int .i32 0] from rfl) (Reps.one (show Kd.M (Kd.int .i32) _ _ _ 127 [.int .i32 127] from rfl) (Reps.one (show Kd.M (Kd.int .i32) _ _ _ 31 [.int .i32 31] from rfl) (Reps.one (show Kd.M (Kd.int .i32) _ _ _ 15 [.int .i32 15] from rfl) (Reps.one (show Kd.M (Kd.int .i32) _ _ _ 7 [.int .i32 7] from rfl) (Reps.none _ _))))))); intro v190 w30 ho31 hb hg_ hnew_; clear hg_ hnew_; (first | rw [← Ny189.out] at ho31 | (simp only [Int.reduceToNat] at ho31; rw [← Ny189.out] at ho31)); have HO191 := zA.mk (Kd.zR ho31 (zF (aL HB))); replace BK183 := zA.mk (blk_below (aB BK183) hb); replace HB := zA.mk (below_step (aL HB) hb); clear hb ho31; obtain ⟨Ao32, co32, eo32⟩ := Kd.zQ HO191.out; subst eo32; have p192 : 0 ≤ (x5_8 : Int) := aD; have q192 : x5_8 < (y189.length : Int) := aD; obtain ⟨ad192, e192, hx192_0⟩ := Kd.at_int (Kd.zN HO191.out).2.2 x5_8 p192 q192; cases e192; replace p192 := eq_true p192; replace q192 := eq_true q192))
   go_loopg [6, 8] kj8 (fun kq v6 v8 w' => ∃ (x6_3 : Int) (x8_3 : Int), v6 = .int .i32 x6_3 ∧ v8 = .int .i64 x8_3 ∧ zA (stanzaref01_One.l1 kq l0 a1 x5_8 x6_3 x8_3 = some (r1, r2, r3)) ∧ zA (kq ≤ kj8) ∧ zA (w'.heap[gb183]? = some (.cells #[.int .i32 0, .int .i64 0, .int .i64 0] 50 (0, 0))) ∧ zA (Below w.heap.size w w'))
   case atStart => exact ⟨(Go.bits .and .i32 (wrap32 (rd l0 a1)) (rd y189 x5_8)), (1), aZ, aZ, H', ⟨Nat.le_refl _⟩, ⟨aB BK183⟩, ⟨aL HB⟩⟩
   clear H'; obtain ⟨x6_3, x8_3, rfl, rfl, HA, HK3, BK183, HB⟩ := hrel; cases gk with
   | zero => exact absurd HA.out (by simp [stanzaref01_One.l1])
   | succ k3 =>
    have H := HA.out; clear HA; simp only [stanzaref01_One.l1] at H; by_cases c33 : x8_3 < x5_8
    ·rw [if_pos c33] at H
     have c33b0 : decide (x8_3 < x5_8) = true := decide_eq_true c33
     clear c33; obtain ⟨ji34, hji34⟩ : ∃ j_ : Int, (wrap64 (a1 + x8_3)) = j_ := ⟨_, rfl⟩; replace H : (if 0 ≤ (ji34) then (if (ji34) < (l0.length : Int) then (stanzaref01_One.l1 k3 l0 a1 x5_8 (wrap32 ((wrap32 ((wrap32 (x6_3 * 64)) + (wrap32 (rd l0 (ji34))))) - 128)) (wrap64 (x8_3 + 1))) else (none)) else (none)) = some (r1, r2, r3) := by first | (rw [hji34] at H; exact H) | (simp only [hji34] at H ⊢; exact H)
     have hji34w : (IntKind.i64.wrap (a1 + x8_3)) = ji34 := (i64_w _).trans hji34
     by_cases c35 : 0 ≤ (ji34)
     rotate_left
     ·rw [if_neg c35] at H
      exact absurd H (by simp)
     rw [if_pos c35] at H; have c35b0 : decide (0 ≤ (ji34)) = true := decide_eq_true c35
     clear c35; by_cases c36 : (ji34) < (l0.length : Int)
     rotate_left
     ·rw [if_neg c36] at H
      exact absurd H (by simp)
     rw [if_pos c36] at H; have c36b0 : decide ((ji34) < (l0.length : Int)) = true := decide_eq_true c36
     clear c36; have H' := zA.mk H
     clear H; have p193 : 0 ≤ ((ji34) : Int) := aD
     have q193 : (ji34) < (l0.length : Int) := aD
     obtain ⟨ad193, e193, hx193_0⟩ := Kd.at_int HR0.out (ji34) p193 q193; obtain rfl : ad186 = ad193 := (by injection e193)
     replace hx193_0 := (HB.out.cell (World.block_lt_of_cell? w _ hx193_0)).trans hx193_0; replace p193 := eq_true p193; replace q193 := eq_true q193; go_wp2
     go_roundg k3
     case measure => have := HJ2.out; have := HJ8.out; have := HK3.out; omega
     case rel => exact ⟨(wrap32 ((wrap32 ((wrap32 (x6_3 * 64)) + (wrap32 (rd l0 (ji34))))) - 128)), (wrap64 (x8_3 + 1)), (by first | rfl | (simp; done) | (simp only [← hji34] <;> (first | rfl | simp)) | (simp [*]; done)), aZ, H', ⟨by have := HJ2.out; have := HJ8.out; have := HK3.out; omega⟩, ⟨aB BK183⟩, ⟨aL HB⟩⟩
    rw [if_neg c33] at H; have c33b0 : decide (x8_3 < x5_8) = false := decide_eq_false c33
    clear c33; simp only [Option.some.injEq, Prod.mk.injEq] at H; obtain ⟨rfl, rfl, rfl⟩ := H; obtain ⟨hcz37_0, hcz37_1, hcz37_2, hfz37_0, hfz37_1, hfz37_2⟩ := aC3 BK183; go_wp2_with (first | ((with_reducible refine gate_store (t := 50) (p := 4) rfl ?_); refine store_event (t := 50) (p := 4) (v := ?vo_w38) (w1 := (((wr.setCell ⟨gb183, 0, none⟩ (.int .i32 x6_3)).setCell ⟨gb183, 1, none⟩ (.int .i64 a1)).setCell ⟨gb183, 2, none⟩ (.int .i64 x5_8))) ?hg ?ho ?hn ?hr ?_; (case ho => rfl); (case hg => rfl); (case hn => rfl); (case hr => first | (go_simp; done) | (go_simp; rfl)); intro w38 hw; have n0_ : zA (w38.heap[gb183]? = some (.cells #[.int .i32 x6_3, .int .i64 a1, .int .i64 x5_8] 50 (0, 0))) := ⟨(by rw [hw]; exact (by (with_reducible repeat (first | refine zD ?_ _ | refine zC ?_ | refine zB ?_ _)); refine blk_put (cs := #[.int .i32 x6_3, .int .i64 a1, .int .i64 0]) ?_ 2 _ rfl; (with_reducible repeat (first | refine zD ?_ _ | refine zC ?_ | refine zB ?_ _)); refine blk_put (cs := #[.int .i32 x6_3, .int .i64 0, .int .i64 0]) ?_ 1 _ rfl; (with_reducible repeat (first | refine zD ?_ _ | refine zC ?_ | refine zB ?_ _)); refine blk_put (cs := #[.int .i32 0, .int .i64 0, .int .i64 0]) ?_ 0 _ rfl; (with_reducible repeat (first | refine zD ?_ _ | refine zC ?_ | refine zB ?_ _)); exact BK183.out))⟩; have n1_ : zA (Below w.heap.size w w38) := ⟨(by rw [hw]; exact (aL HB))⟩; clear hw; clear BK183; clear HB; have BK183 := n0_; have HB := n1_; clear n0_ n1_))
    refine bodyPost_ret (results_cell_row rfl _ _ gb183 50 #[.int .i32 x6_3, .int .i64 a1, .int .i64 x5_8] (0, 0) _ rfl (aB BK183) Try.underlying50 rfl (by kernel_rfl)) rfl ?_
    exact ⟨aX, aL HB⟩
def stanzaref01_All.l0 : Nat → List Int → List (S50) → Int → Option ((List (S50)))
 | 0, _, _, _ => none
 | k + 1, x0, x3, x4 => if x4 < (x0.length : Int) then ((stanzaref01_One.f k x0 x4).bind fun bt194 => (if x3.length < 5864062014805 then (stanzaref01_All.l0 k x0 (x3 ++ [(⟨bt194.1, bt194.2.1, bt194.2.2⟩ : S50)]) (wrap64 (x4 + bt194.2.2))) else (none))) else (some x3)
def stanzaref01_All.f (k : Nat) (l0 : List Int) : Option ((List (S50))) := stanzaref01_All.l0 k l0 ([] : List (S50)) 0
theorem stanzaref01_All.mono_l : ∀ k, (∀ y0 y1 y2, LeO (stanzaref01_All.l0 k y0 y1 y2) (stanzaref01_All.l0 (k + 1) y0 y1 y2))
 | 0 => fun _ _ _ r h => by simp [stanzaref01_All.l0] at h
 | k + 1 => by
  have ih0 := stanzaref01_All.mono_l k
  ·intro y0 y1 y2
   unfold stanzaref01_All.l0
   repeat' (with_reducible first | exact ih0 _ _ _ | exact stanzaref01_One.mono _ _ _ | exact LeO.refl _ | exact LeO.none _ | refine LeO.ite ?_ ?_ | refine LeO.bind ?_ (fun _ => ?_))
theorem stanzaref01_All.mono : ∀ a0 k, LeO (stanzaref01_All.f k a0) (stanzaref01_All.f (k + 1) a0) := by
 intro a0 k
 have ih0 := stanzaref01_All.mono_l k; unfold stanzaref01_All.f
 repeat' (with_reducible first | exact ih0 _ _ _ | exact stanzaref01_One.mono _ _ _ | exact LeO.refl _ | exact LeO.none _ | refine LeO.ite ?_ ?_ | refine LeO.bind ?_ (fun _ => ?_))
set_option maxHeartbeats 8000000 in
set_option maxRecDepth 100000 in
theorem stanzaref01_All.calls (k : Nat) (A0 : Option Addr) (c0 : Nat) (l0 : List Int) (r : List (S50)) (w : World) (hr0 : Kd.C (Kd.int .u8) w A0 l0.length l0) (hc0 : l0.length ≤ c0) (h : stanzaref01_All.f k l0 = some r) :
  Calls Try.prog 16 #[.slice A0 l0.length c0] w fun e w' => ∃ v0_ : Value, e = .returned (v0_) ∧ Kd.R k50 50 w' w.heap.size (fun _ => True) v0_ r ∧ Below w.heap.size w w' := by
 have hu50 := Try.underlying50; have HR0 := zA.mk hr0; have HC0 := zA.mk hc0; clear hr0 hc0; have HB := zA.mk (Below.refl w.heap.size w); have H : (stanzaref01_All.l0 k l0 ([] : List (S50)) 0) = some r := h
 clear h; have H' := zA.mk H
 clear H; go_enter Try.func16, Try.ntmps16
 go_wp2
 go_loopg [3, 4] k (fun kq v3 v4 w' => ∃ (x3_1 : List (S50)) (x4_1 : Int), v4 = .int .i64 x4_1 ∧ zA (stanzaref01_All.l0 kq l0 x3_1 x4_1 = some r) ∧ zA (kq ≤ k) ∧ zA (Kd.R k50 50 w' w.heap.size (fun _ => True) v3 x3_1) ∧ zA (Below w.heap.size w w'))
 case atStart => exact ⟨(([] : List (S50))), (0), aZ, H', ⟨Nat.le_refl _⟩, ⟨by first | exact Kd.R_nil _ _ _ _ _ | exact Kd.N_nil _ _ _ _ _ | exact Kd.V_nil _ _ _ _ _ | exact Kd.Q_nil _ _ _ _ _ | exact Kd.S_nil _ _ _ _ _⟩, ⟨aL HB⟩⟩
 clear H'; obtain ⟨x3_1, x4_1, rfl, HA, HK1, HO_3, HB⟩ := hrel; cases gk with
 | zero => exact absurd HA.out (by simp [stanzaref01_All.l0])
 | succ k1 =>
  have H := HA.out; clear HA; simp only [stanzaref01_All.l0] at H; by_cases c2 : x4_1 < (l0.length : Int)
  rotate_left
  ·rw [if_neg c2] at H
   have c2b0 : decide (x4_1 < (l0.length : Int)) = false := decide_eq_false c2
   clear c2; obtain rfl := Option.some.inj H
   go_wp2
   go_ret
   exact ⟨_, aX, aR HO_3, aL HB⟩
  rw [if_pos c2] at H; have c2b0 : decide (x4_1 < (l0.length : Int)) = true := decide_eq_true c2
  clear c2; replace H := Option.bind_eq_some_iff.mp H; obtain ⟨⟨t194, t195, t196⟩, A30, H⟩ := H; replace H : (if x3_1.length < 5864062014805 then (stanzaref01_All.l0 k1 l0 (x3_1 ++ [(⟨t194, t195, t196⟩ : S50)]) (wrap64 (x4_1 + t196))) else (none)) = some r := H; have A3 := zA.mk A30; clear A30; by_cases c4 : x3_1.length < 5864062014805
  rotate_left
  ·rw [if_neg c4] at H
   exact absurd H (by simp)
  rw [if_pos c4] at H; have LMc4 := zA.mk c4; clear c4; obtain ⟨y198, hy198⟩ : ∃ y_ : List (S50), y_ = (x3_1 ++ [(⟨t194, t195, t196⟩ : S50)]) := ⟨_, rfl⟩; replace H : (stanzaref01_All.l0 k1 l0 y198 (wrap64 (x4_1 + t196))) = some r := by first | (rw [hy198]; with_reducible exact H) | (have H2_ := (Option.bind_some _ _).symm.trans H; rw [hy198]; with_reducible exact H2_) | (have H2_ := (Option.bind_some _ _).symm.trans H; with_reducible exact H2_) | with_reducible exact H | (rw [hy198]; exact H) | exact H
  have Ny198 := zA.mk hy198; clear hy198; have H' := zA.mk H
  clear H; go_wp2_with (first | ((with_reducible refine gate_callee (f := 35) rfl ?_); refine goesL_ (some 12) rfl rfl Try.func35 (by kernel_rfl) rfl #[.slice A0 l0.length c0, .int .i64 x4_1] rfl aT ?_; (with_reducible refine (stanzaref01_One.calls k1 _ _ l0 x4_1 t194 t195 t196 _ ?side1 ?side2 A3.out).mono ?_); (case side1 => exact aA HR0 HB); (case side2 => exact HC0.out); rintro e w5 ⟨rfl, hb⟩; refine ⟨_, rfl, ?_⟩; replace HO_3 := zA.mk (Kd.zO (aR HO_3) hb); replace HB := zA.mk (below_step (aL HB) hb); (try clear hb); (try clear hb2); (try clear hk); (try clear hi)) | ((with_reducible refine gate_dst (N := 5) rfl ?_); refine box_event ?hg (N := 5) ?hd (cs := #[.int .i32 0, .int .i64 0, .int .i64 0]) (t := 50) ?hr ?_; (case hd => rfl); (case hg => rfl); (case hr => first | (go_simp; done) | (go_simp; rfl)); intro gb197 hg w6 hbox hb; replace HO_3 := zA.mk (Kd.zO (Kd.R_elderB (aR HO_3) gb197 (Nat.le_of_eq hg.symm)) hb); have BK197 := zA.mk (hbox); have GW197 := zA.mk ((by rw [hg]; exact (zF (aL HB)) : w.heap.size ≤ gb197)); replace HB := zA.mk (below_step (aL HB) hb); have GE197 := GW197; clear hb hbox hg; obtain ⟨hcz7_0, hcz7_1, hcz7_2, hfz7_0, hfz7_1, hfz7_2⟩ := aC3 BK197) | ((with_reducible refine gate_store (t := 50) (p := 5) rfl ?_); refine store_event (t := 50) (p := 5) (v := ?vo_w8) (w1 := (((w6.setCell ⟨gb197, 0, none⟩ (.int .i32 t194)).setCell ⟨gb197, 1, none⟩ (.int .i64 t195)).setCell ⟨gb197, 2, none⟩ (.int .i64 t196))) ?hg ?ho ?hn ?hr ?_; (case ho => rfl); (case hg => rfl); (case hn => rfl); (case hr => first | (go_simp; done) | (go_simp; rfl)); intro w8 hw; have n0_ : zA (Kd.R k50 50 w8 w.heap.size (fun k_ => k_ ≠ gb197) u3 x3_1) := ⟨(by rw [hw]; exact (by (with_reducible repeat (first | apply Kd.zG | apply Kd.zH | apply Kd.zI)); exact Kd.zS (Kd.zP (p := ⟨gb197, 2, none⟩) (Kd.zP (p := ⟨gb197, 1, none⟩) (Kd.zP (p := ⟨gb197, 0, none⟩) (Kd.zS HO_3.out (fun k_ hk => (⟨hk, hk.2⟩ : _ ∧ k_ ≠ gb197))) (fun _ hk => hk.2) (.int .i32 t194)) (fun _ hk => hk.2) (.int .i64 t195)) (fun _ hk => hk.2) (.int .i64 t196)) (fun _ hk => hk.1.2)))⟩; have n1_ : zA (w8.heap[gb197]? = some (.cells #[.int .i32 t194, .int .i64 t195, .int .i64 t196] 50 (0, 0))) := ⟨(by rw [hw]; exact (by (with_reducible repeat (first | refine zD ?_ _ | refine zC ?_ | refine zB ?_ _)); refine blk_put (cs := #[.int .i32 t194, .int .i64 t195, .int .i64 0]) ?_ 2 _ rfl; (with_reducible repeat (first | refine zD ?_ _ | refine zC ?_ | refine zB ?_ _)); refine blk_put (cs := #[.int .i32 t194, .int .i64 0, .int .i64 0]) ?_ 1 _ rfl; (with_reducible repeat (first | refine zD ?_ _ | refine zC ?_ | refine zB ?_ _)); refine blk_put (cs := #[.int .i32 0, .int .i64 0, .int .i64 0]) ?_ 0 _ rfl; (with_reducible repeat (first | refine zD ?_ _ | refine zC ?_ | refine zB ?_ _)); exact BK197.out))⟩; have n2_ : zA (Below w.heap.size w w8) := ⟨(by rw [hw]; exact (aL HB))⟩; clear hw; clear HO_3; clear BK197; clear HB; have HO_3 := n0_; have BK197 := n1_; have HB := n2_; clear n0_ n1_ n2_; obtain ⟨hcz9_0, hcz9_1, hcz9_2, hfz9_0, hfz9_1, hfz9_2⟩ := aC3 BK197) | ((with_reducible refine gate_builtin (b := .append) (xs := #[.tmp 13, .tmp 15]) rfl ?_); at_builtin; refine Kd.R_append k50 (w0 := w) w.heap.size rfl (.tmp 13) (.tmp 15) 32 50 (.agg #[(.int .i32 0), (.int .i64 0), (.int .i64 0)]) 24 rfl Try.underlying32 info50 rfl (by decide) (by omega) u3 x3_1 (⟨t194, t195, t196⟩ : S50) [.int .i32 t194, .int .i64 t195, .int .i64 t196] (fun k_ => k_ ≠ gb197) (fun _ => False) rfl rfl ?aP (fun _ hk => hk.elim) ?aF ?aO ?aB ?aS ?aL ?_; (case aP => exact k50_mkM _ _ _ (⟨t194, t195, t196⟩ : S50)); (case aB => exact (aL HB)); (case aF => exact (fun k_ hk => Kd.freshB (g := gb197) (o := .cells #[.int .i32 t194, .int .i64 t195, .int .i64 t196] 50 (0, 0)) (aB BK197) k_ hk)); (case aO => exact (aR HO_3)); (case aS => exact (zF (aL HB))); (case aL => have := LMc4.out; omega); intro v199 w10 ho hb hg hat; rw [← Ny198.out] at ho; replace BK197 := zA.mk (blk_grown (g := gb197) (o := .cells #[.int .i32 t194, .int .i64 t195, .int .i64 t196] 50 (0, 0)) (aB BK197) hg (Kd.R_away HO_3.out (fun _ hk => hk))); replace HB := zA.mk (hb); have HO200 := zA.mk (ho); clear HO_3; clear ho hb hg hat; obtain ⟨hcz11_0, hcz11_1, hcz11_2, hfz11_0, hfz11_1, hfz11_2⟩ := aC3 BK197))
  go_roundg k1
  case measure => have := HK1.out; omega
  case rel => exact ⟨(y198), (wrap64 (x4_1 + t196)), aZ, H', ⟨by have := HK1.out; omega⟩, ⟨by (with_reducible repeat (first | apply Kd.zG | apply Kd.zH | apply Kd.zI)); exact Kd.zS HO200.out (fun _ hk => trivial)⟩, ⟨aL HB⟩⟩
def h3_Opps.l0 : Nat → List Int → List Int → Int → Option (List Int)
 | 0, _, _, _ => none
 | k + 1, x0, x3, x4 => if x4 < (x0.length : Int) then (if 0 ≤ x4 then (if x3.length < 140737488355328 then (h3_Opps.l0 k x0 (x3 ++ [rd x0 x4]) (wrap64 (x4 + 1))) else (none)) else (none)) else (some x3)
def h3_Opps.f (k : Nat) (l0 : List Int) : Option (List Int) := h3_Opps.l0 k l0 ([] : List Int) 0
theorem h3_Opps.mono_l : ∀ k, (∀ y0 y1 y2, LeO (h3_Opps.l0 k y0 y1 y2) (h3_Opps.l0 (k + 1) y0 y1 y2))
 | 0 => fun _ _ _ r h => by simp [h3_Opps.l0] at h
 | k + 1 => by
  have ih0 := h3_Opps.mono_l k
  ·intro y0 y1 y2
   unfold h3_Opps.l0
   repeat' (with_reducible first | exact ih0 _ _ _ | exact LeO.refl _ | exact LeO.none _ | refine LeO.ite ?_ ?_ | refine LeO.bind ?_ (fun _ => ?_))
theorem h3_Opps.mono : ∀ a0 k, LeO (h3_Opps.f k a0) (h3_Opps.f (k + 1) a0) := by
 intro a0 k
 have ih0 := h3_Opps.mono_l k; unfold h3_Opps.f
 repeat' (with_reducible first | exact ih0 _ _ _ | exact LeO.refl _ | exact LeO.none _ | refine LeO.ite ?_ ?_ | refine LeO.bind ?_ (fun _ => ?_))
set_option maxHeartbeats 8000000 in
set_option maxRecDepth 100000 in
theorem h3_Opps.calls (k : Nat) (A0 : Option Addr) (c0 : Nat) (l0 : List Int) (r : List Int) (w : World) (hr0 : Kd.C (Kd.int .u8) w A0 l0.length l0) (hc0 : l0.length ≤ c0) (h : h3_Opps.f k l0 = some r) :
  Calls Try.prog 18 #[.slice A0 l0.length c0] w fun e w' => ∃ v0_ : Value, e = .returned (v0_) ∧ Kd.R (Kd.int .u8) 53 w' w.heap.size (fun _ => True) v0_ r ∧ Below w.heap.size w w' := by
 have HR0 := zA.mk hr0; have HC0 := zA.mk hc0; clear hr0 hc0; have HB := zA.mk (Below.refl w.heap.size w); have H : (h3_Opps.l0 k l0 ([] : List Int) 0) = some r := h
 clear h; have H' := zA.mk H
 clear H; go_enter Try.func18, Try.ntmps18
 go_wp2
 go_loopg [3, 4] k (fun kq v3 v4 w' => ∃ (x3_1 : List Int) (x4_1 : Int), v4 = .int .i64 x4_1 ∧ zA (h3_Opps.l0 kq l0 x3_1 x4_1 = some r) ∧ zA (kq ≤ k) ∧ zA (Kd.R (Kd.int .u8) 53 w' w.heap.size (fun _ => True) v3 x3_1) ∧ zA (Below w.heap.size w w'))
 case atStart => exact ⟨(([] : List Int)), (0), aZ, H', ⟨Nat.le_refl _⟩, ⟨by first | exact Kd.R_nil _ _ _ _ _ | exact Kd.N_nil _ _ _ _ _ | exact Kd.V_nil _ _ _ _ _ | exact Kd.Q_nil _ _ _ _ _ | exact Kd.S_nil _ _ _ _ _⟩, ⟨aL HB⟩⟩
 clear H'; obtain ⟨x3_1, x4_1, rfl, HA, HK1, HO_3, HB⟩ := hrel; cases gk with
 | zero => exact absurd HA.out (by simp [h3_Opps.l0])
 | succ k1 =>
  have H := HA.out; clear HA; simp only [h3_Opps.l0] at H; by_cases c2 : x4_1 < (l0.length : Int)
  rotate_left
  ·rw [if_neg c2] at H
   have c2b0 : decide (x4_1 < (l0.length : Int)) = false := decide_eq_false c2
   clear c2; obtain rfl := Option.some.inj H
   go_wp2
   go_ret
   exact ⟨_, aX, aR HO_3, aL HB⟩
  rw [if_pos c2] at H; have c2b0 : decide (x4_1 < (l0.length : Int)) = true := decide_eq_true c2
  clear c2; by_cases c3 : 0 ≤ x4_1
  rotate_left
  ·rw [if_neg c3] at H
   exact absurd H (by simp)
  rw [if_pos c3] at H; have c3b0 : decide (0 ≤ x4_1) = true := decide_eq_true c3
  clear c3; by_cases c4 : x3_1.length < 140737488355328
  rotate_left
  ·rw [if_neg c4] at H
   exact absurd H (by simp)
  rw [if_pos c4] at H; have LMc4 := zA.mk c4; clear c4; obtain ⟨y202, hy202⟩ : ∃ y_ : List Int, y_ = (x3_1 ++ [rd l0 x4_1]) := ⟨_, rfl⟩; replace H : (h3_Opps.l0 k1 l0 y202 (wrap64 (x4_1 + 1))) = some r := by first | (rw [hy202]; with_reducible exact H) | (have H2_ := (Option.bind_some _ _).symm.trans H; rw [hy202]; with_reducible exact H2_) | (have H2_ := (Option.bind_some _ _).symm.trans H; with_reducible exact H2_) | with_reducible exact H | (rw [hy202]; exact H) | exact H
  have Ny202 := zA.mk hy202; clear hy202; have H' := zA.mk H
  clear H; have p201 : 0 ≤ (x4_1 : Int) := aD
  have q201 : x4_1 < (l0.length : Int) := aD
  obtain ⟨ad201, e201, hx201_0⟩ := Kd.at_int HR0.out x4_1 p201 q201; cases e201
  replace hx201_0 := (HB.out.cell (World.block_lt_of_cell? w _ hx201_0)).trans hx201_0; replace p201 := eq_true p201; replace q201 := eq_true q201; go_wp2_with (first | ((with_reducible refine gate_builtin (b := .append) (xs := #[.tmp 11, .tmp 16]) rfl ?_); at_builtin; refine Kd.R_append (Kd.int .u8) (w0 := w) w.heap.size rfl (.tmp 11) (.tmp 16) 38 53 (.int .u8 0) 1 rfl Try.underlying38 info53 rfl (by decide) (by omega) u3 x3_1 (rd l0 x4_1) [.int .u8 (rd l0 x4_1)] (fun _ => True) (fun _ => False) rfl rfl ?aP (fun _ hk => hk.elim) ?aF ?aO ?aB ?aS ?aL ?_; (case aP => exact rfl); (case aB => exact (aL HB)); (case aF => exact (fun _ _ => trivial)); (case aO => exact (aR HO_3)); (case aS => exact (zF (aL HB))); (case aL => have := LMc4.out; omega); intro v203 w5 ho hb hg hat; rw [← Ny202.out] at ho; replace HB := zA.mk (hb); have HO204 := zA.mk (ho); clear HO_3; clear ho hb hg hat))
  go_roundg k1
  case measure => have := HK1.out; omega
  case rel => exact ⟨(y202), (wrap64 (x4_1 + 1)), aZ, H', ⟨by have := HK1.out; omega⟩, ⟨aR HO204⟩, ⟨aL HB⟩⟩
mutual
def stanzalaw02_Right.l0 : Nat → List (S45) → Int → List (S45) → Int → Int → Option ((List (S45)))
 | 0, _, _, _, _, _ => none
 | k + 1, x0, x1, x5, x6, x7 => if x7 < (x0.length : Int) then (stanzalaw02_Right.j1 k x0 x1 x5 x6 x7 (decide (x7 < 200))) else (stanzalaw02_Right.j1 k x0 x1 x5 x6 x7 false)
def stanzalaw02_Right.j1 : Nat → List (S45) → Int → List (S45) → Int → Int → Bool → Option ((List (S45)))
 | 0, _, _, _, _, _, _ => none
 | k + 1, x0, x1, x5, x6, x7, x17 => if x17 = true then (if 0 ≤ x7 then (if x7 < (x0.length : Int) then (if (wrap64 ((wrap64 ((wrap64 (x6 + 1)) + ((((rd_T45 x0 x7).f0) % 4294967296) % 3000))) + ((((rd_T45 x0 x7).f1) % 4294967296) % 600))) > 1114111 then (some x5) else (if (IntKind.u64.wrap (x1)) = 0 then (none) else (if x5.length < 8796093022208 then (stanzalaw02_Right.l0 k x0 x1 (x5 ++ [(⟨wrap32 (wrap64 ((wrap64 (x6 + 1)) + ((((rd_T45 x0 x7).f0) % 4294967296) % 3000))), wrap32 (wrap64 ((wrap64 ((wrap64 (x6 + 1)) + ((((rd_T45 x0 x7).f0) % 4294967296) % 3000))) + ((((rd_T45 x0 x7).f1) % 4294967296) % 600))), wrap64 (Int.tmod (IntKind.u64.wrap ((rd_T45 x0 x7).f2)) (IntKind.u64.wrap (x1)))⟩ : S45)]) (wrap64 ((wrap64 ((wrap64 (x6 + 1)) + ((((rd_T45 x0 x7).f0) % 4294967296) % 3000))) + ((((rd_T45 x0 x7).f1) % 4294967296) % 600))) (wrap64 (x7 + 1))) else (none)))) else (none)) else (none)) else (some x5)
end
def stanzalaw02_Right.f (k : Nat) (l0 : List (S45)) (a1 : Int) : Option ((List (S45))) := stanzalaw02_Right.l0 k l0 a1 ([] : List (S45)) (-1) 0
theorem stanzalaw02_Right.mono_l : ∀ k, (∀ y0 y1 y2 y3 y4, LeO (stanzalaw02_Right.l0 k y0 y1 y2 y3 y4) (stanzalaw02_Right.l0 (k + 1) y0 y1 y2 y3 y4)) ∧ (∀ y0 y1 y2 y3 y4 y5, LeO (stanzalaw02_Right.j1 k y0 y1 y2 y3 y4 y5) (stanzalaw02_Right.j1 (k + 1) y0 y1 y2 y3 y4 y5))
 | 0 => ⟨fun _ _ _ _ _ r h => by simp [stanzalaw02_Right.l0] at h, fun _ _ _ _ _ _ r h => by simp [stanzalaw02_Right.j1] at h⟩
 | k + 1 => by
  obtain ⟨ih0, ih1⟩ := stanzalaw02_Right.mono_l k; refine ⟨?_, ?_⟩
  ·intro y0 y1 y2 y3 y4
   unfold stanzalaw02_Right.l0
   repeat' (with_reducible first | exact ih0 _ _ _ _ _ | exact ih1 _ _ _ _ _ _ | exact LeO.refl _ | exact LeO.none _ | refine LeO.ite ?_ ?_ | refine LeO.bind ?_ (fun _ => ?_))
  ·intro y0 y1 y2 y3 y4 y5
   unfold stanzalaw02_Right.j1
   repeat' (with_reducible first | exact ih0 _ _ _ _ _ | exact ih1 _ _ _ _ _ _ | exact LeO.refl _ | exact LeO.none _ | refine LeO.ite ?_ ?_ | refine LeO.bind ?_ (fun _ => ?_))
theorem stanzalaw02_Right.mono : ∀ a0 a1 k, LeO (stanzalaw02_Right.f k a0 a1) (stanzalaw02_Right.f (k + 1) a0 a1) := by
 intro a0 a1 k
 obtain ⟨ih0, ih1⟩ := stanzalaw02_Right.mono_l k; unfold stanzalaw02_Right.f
 repeat' (with_reducible first | exact ih0 _ _ _ _ _ | exact ih1 _ _ _ _ _ _ | exact LeO.refl _ | exact LeO.none _ | refine LeO.ite ?_ ?_ | refine LeO.bind ?_ (fun _ => ?_))
set_option maxHeartbeats 8000000 in
set_option maxRecDepth 100000 in
theorem stanzalaw02_Right.calls (k : Nat) (A0 : Option Addr) (c0 : Nat) (l0 : List (S45)) (a1 : Int) (r : List (S45)) (w : World) (hr0 : Kd.C k45 w A0 l0.length l0) (hc0 : l0.length ≤ c0) (h : stanzalaw02_Right.f k l0 a1 = some r) :
  Calls Try.prog 13 #[.slice A0 l0.length c0, .int .i64 a1] w fun e w' => ∃ v0_ : Value, e = .returned (v0_) ∧ Kd.R k45 45 w' w.heap.size (fun _ => True) v0_ r ∧ Below w.heap.size w w' := by
 have hu45 := Try.underlying45; have HR0 := zA.mk hr0; have HC0 := zA.mk hc0; clear hr0 hc0; have HB := zA.mk (Below.refl w.heap.size w); have H : (stanzalaw02_Right.l0 k l0 a1 ([] : List (S45)) (-1) 0) = some r := h
 clear h; have H' := zA.mk H
 clear H; go_enter Try.func13, Try.ntmps13
 go_wp2
 go_loopg [5, 6, 7] k (fun kq v5 v6 v7 w' => ∃ (x5_1 : List (S45)) (x6_1 : Int) (x7_1 : Int), v6 = .int .i64 x6_1 ∧ v7 = .int .i64 x7_1 ∧ zA (stanzalaw02_Right.l0 kq l0 a1 x5_1 x6_1 x7_1 = some r) ∧ zA (kq ≤ k) ∧ zA (Kd.R k45 45 w' w.heap.size (fun _ => True) v5 x5_1) ∧ zA (Below w.heap.size w w'))
 case atStart => exact ⟨(([] : List (S45))), ((-1)), (0), aZ, aZ, H', ⟨Nat.le_refl _⟩, ⟨by first | exact Kd.R_nil _ _ _ _ _ | exact Kd.N_nil _ _ _ _ _ | exact Kd.V_nil _ _ _ _ _ | exact Kd.Q_nil _ _ _ _ _ | exact Kd.S_nil _ _ _ _ _⟩, ⟨aL HB⟩⟩
 clear H'; obtain ⟨x5_1, x6_1, x7_1, rfl, rfl, HA, HK1, HO_5, HB⟩ := hrel; cases gk with
 | zero => exact absurd HA.out (by simp [stanzalaw02_Right.l0])
 | succ k1 =>
  have H := HA.out; clear HA; simp only [stanzalaw02_Right.l0] at H; have HC3 := zA.mk H; clear H; go_upto_region 4 with (fail)
  go_cut [17] (fun v17 wc => ∃ (kq : Nat) (x17_2 : Bool), v17 = .bool x17_2 ∧ zA (stanzalaw02_Right.j1 kq l0 a1 x5_1 x6_1 x7_1 x17_2 = some r) ∧ zA (kq ≤ k1) ∧ zA (Kd.R k45 45 wc w.heap.size (fun _ => True) u5 x5_1) ∧ zA (Below w.heap.size w wc))
  case first =>
   have H := HC3.out; clear HC3; by_cases c4 : x7_1 < (l0.length : Int)
   ·rw [if_pos c4] at H
    have c4b0 : decide (x7_1 < (l0.length : Int)) = true := decide_eq_true c4
    clear c4; (first | rw [c4b0] | (simp only [i64_w, i32_w]; rw [c4b0]) | skip)
    have H' := zA.mk H
    clear H; go_wp2
    go_meet
    case rel => exact ⟨_, (decide (x7_1 < 200)), aZ, H', ⟨by have := HK1.out; first | omega | exact Nat.le_refl _⟩, ⟨aR HO_5⟩, ⟨aL HB⟩⟩
   rw [if_neg c4] at H; have c4b0 : decide (x7_1 < (l0.length : Int)) = false := decide_eq_false c4
   clear c4; (first | rw [c4b0] | (simp only [i64_w, i32_w]; rw [c4b0]) | skip)
   have H' := zA.mk H
   clear H; go_wp2
   go_meet
   case rel => exact ⟨_, (false), aZ, H', ⟨by have := HK1.out; first | omega | exact Nat.le_refl _⟩, ⟨aR HO_5⟩, ⟨aL HB⟩⟩
  clear HC3; obtain ⟨kq, x17_2, rfl, HA, HJ2, HO_5, HB⟩ := hcut; cases kq with
  | zero => exact absurd HA.out (by simp [stanzalaw02_Right.j1])
  | succ kj2 =>
   have H := HA.out; clear HA; simp only [stanzalaw02_Right.j1] at H; by_cases c5 : x17_2 = true
   rotate_left
   ·replace c5 := Bool.eq_false_iff.mpr c5
    subst c5; have H1 : (some x5_1) = some r := by rw [if_neg (show ¬ (false = true) by decide)] at H; exact H
    clear H; have H := H1; clear H1; obtain rfl := Option.some.inj H
    go_wp2
    go_ret
    exact ⟨_, aX, aR HO_5, aL HB⟩
   subst c5; have H1 : (if 0 ≤ x7_1 then (if x7_1 < (l0.length : Int) then (if (wrap64 ((wrap64 ((wrap64 (x6_1 + 1)) + ((((rd_T45 l0 x7_1).f0) % 4294967296) % 3000))) + ((((rd_T45 l0 x7_1).f1) % 4294967296) % 600))) > 1114111 then (some x5_1) else (if (IntKind.u64.wrap (a1)) = 0 then (none) else (if x5_1.length < 8796093022208 then (stanzalaw02_Right.l0 kj2 l0 a1 (x5_1 ++ [(⟨wrap32 (wrap64 ((wrap64 (x6_1 + 1)) + ((((rd_T45 l0 x7_1).f0) % 4294967296) % 3000))), wrap32 (wrap64 ((wrap64 ((wrap64 (x6_1 + 1)) + ((((rd_T45 l0 x7_1).f0) % 4294967296) % 3000))) + ((((rd_T45 l0 x7_1).f1) % 4294967296) % 600))), wrap64 (Int.tmod (IntKind.u64.wrap ((rd_T45 l0 x7_1).f2)) (IntKind.u64.wrap (a1)))⟩ : S45)]) (wrap64 ((wrap64 ((wrap64 (x6_1 + 1)) + ((((rd_T45 l0 x7_1).f0) % 4294967296) % 3000))) + ((((rd_T45 l0 x7_1).f1) % 4294967296) % 600))) (wrap64 (x7_1 + 1))) else (none)))) else (none)) else (none)) = some r := by rw [if_pos rfl] at H; exact H
   clear H; have H := H1; clear H1; by_cases c6 : 0 ≤ x7_1
   rotate_left
   ·rw [if_neg c6] at H
    exact absurd H (by simp)
   rw [if_pos c6] at H; have c6b0 : decide (0 ≤ x7_1) = true := decide_eq_true c6
   clear c6; by_cases c7 : x7_1 < (l0.length : Int)
   rotate_left
   ·rw [if_neg c7] at H
    exact absurd H (by simp)
   rw [if_pos c7] at H; have c7b0 : decide (x7_1 < (l0.length : Int)) = true := decide_eq_true c7
   clear c7; by_cases c8 : (wrap64 ((wrap64 ((wrap64 (x6_1 + 1)) + ((((rd_T45 l0 x7_1).f0) % 4294967296) % 3000))) + ((((rd_T45 l0 x7_1).f1) % 4294967296) % 600))) > 1114111
   ·rw [if_pos c8] at H
    have c8b0 : decide (1114111 < (wrap64 ((wrap64 ((wrap64 (x6_1 + 1)) + ((((rd_T45 l0 x7_1).f0) % 4294967296) % 3000))) + ((((rd_T45 l0 x7_1).f1) % 4294967296) % 600)))) = true := decide_eq_true c8
    clear c8; obtain rfl := Option.some.inj H
    have p332 : 0 ≤ (x7_1 : Int) := aD
    have q332 : x7_1 < (l0.length : Int) := aD
    obtain ⟨ad332, e332, hx332_0, hx332_1, hx332_2⟩ := at_T45 HR0.out x7_1 p332 q332; cases e332
    replace hx332_0 := (HB.out.cell (World.block_lt_of_cell? w _ hx332_0)).trans hx332_0; replace hx332_1 := (HB.out.cell (World.block_lt_of_cell? w _ hx332_1)).trans hx332_1; replace hx332_2 := (HB.out.cell (World.block_lt_of_cell? w _ hx332_2)).trans hx332_2; replace p332 := eq_true p332; replace q332 := eq_true q332; have p333 : 0 ≤ (x7_1 : Int) := aD
    have q333 : x7_1 < (l0.length : Int) := aD
    obtain ⟨ad333, e333, hx333_0, hx333_1, hx333_2⟩ := at_T45 HR0.out x7_1 p333 q333; obtain rfl : ad332 = ad333 := (by injection e333)
    replace hx333_0 := (HB.out.cell (World.block_lt_of_cell? w _ hx333_0)).trans hx333_0; replace hx333_1 := (HB.out.cell (World.block_lt_of_cell? w _ hx333_1)).trans hx333_1; replace hx333_2 := (HB.out.cell (World.block_lt_of_cell? w _ hx333_2)).trans hx333_2; replace p333 := eq_true p333; replace q333 := eq_true q333; go_wp2
    go_ret
    exact ⟨_, aX, aR HO_5, aL HB⟩
   rw [if_neg c8] at H; have c8b0 : decide (1114111 < (wrap64 ((wrap64 ((wrap64 (x6_1 + 1)) + ((((rd_T45 l0 x7_1).f0) % 4294967296) % 3000))) + ((((rd_T45 l0 x7_1).f1) % 4294967296) % 600)))) = false := decide_eq_false c8
   clear c8; by_cases c9 : (IntKind.u64.wrap (a1)) = 0
   ·rw [if_pos c9] at H
    exact absurd H (by simp)
   rw [if_neg c9] at H; have c9b0 : ((IntKind.u64.wrap (a1)) == 0) = false := beq_eq_false_iff_ne.mpr c9
   have c9b1 : ((IntKind.u64.wrap (a1)) != 0) = true := bne_iff_ne.mpr c9
   by_cases c10 : x5_1.length < 8796093022208
   rotate_left
   ·rw [if_neg c10] at H
    exact absurd H (by simp)
   rw [if_pos c10] at H; have LMc10 := zA.mk c10; clear c10; obtain ⟨y335, hy335⟩ : ∃ y_ : List (S45), y_ = (x5_1 ++ [(⟨wrap32 (wrap64 ((wrap64 (x6_1 + 1)) + ((((rd_T45 l0 x7_1).f0) % 4294967296) % 3000))), wrap32 (wrap64 ((wrap64 ((wrap64 (x6_1 + 1)) + ((((rd_T45 l0 x7_1).f0) % 4294967296) % 3000))) + ((((rd_T45 l0 x7_1).f1) % 4294967296) % 600))), wrap64 (Int.tmod (IntKind.u64.wrap ((rd_T45 l0 x7_1).f2)) (IntKind.u64.wrap (a1)))⟩ : S45)]) := ⟨_, rfl⟩; replace H : (stanzalaw02_Right.l0 kj2 l0 a1 y335 (wrap64 ((wrap64 ((wrap64 (x6_1 + 1)) + ((((rd_T45 l0 x7_1).f0) % 4294967296) % 3000))) + ((((rd_T45 l0 x7_1).f1) % 4294967296) % 600))) (wrap64 (x7_1 + 1))) = some r := by first | (rw [hy335]; with_reducible exact H) | (have H2_ := (Option.bind_some _ _).symm.trans H; rw [hy335]; with_reducible exact H2_) | (have H2_ := (Option.bind_some _ _).symm.trans H; with_reducible exact H2_) | with_reducible exact H | (rw [hy335]; exact H) | exact H
   have Ny335 := zA.mk hy335; clear hy335; have H' := zA.mk H
   clear H; have p332 : 0 ≤ (x7_1 : Int) := aD
   have q332 : x7_1 < (l0.length : Int) := aD
   obtain ⟨ad332, e332, hx332_0, hx332_1, hx332_2⟩ := at_T45 HR0.out x7_1 p332 q332; cases e332
   replace hx332_0 := (HB.out.cell (World.block_lt_of_cell? w _ hx332_0)).trans hx332_0; replace hx332_1 := (HB.out.cell (World.block_lt_of_cell? w _ hx332_1)).trans hx332_1; replace hx332_2 := (HB.out.cell (World.block_lt_of_cell? w _ hx332_2)).trans hx332_2; replace p332 := eq_true p332; replace q332 := eq_true q332; have p333 : 0 ≤ (x7_1 : Int) := aD
   have q333 : x7_1 < (l0.length : Int) := aD
   obtain ⟨ad333, e333, hx333_0, hx333_1, hx333_2⟩ := at_T45 HR0.out x7_1 p333 q333; obtain rfl : ad332 = ad333 := (by injection e333)
   replace hx333_0 := (HB.out.cell (World.block_lt_of_cell? w _ hx333_0)).trans hx333_0; replace hx333_1 := (HB.out.cell (World.block_lt_of_cell? w _ hx333_1)).trans hx333_1; replace hx333_2 := (HB.out.cell (World.block_lt_of_cell? w _ hx333_2)).trans hx333_2; replace p333 := eq_true p333; replace q333 := eq_true q333; have p334 : 0 ≤ (x7_1 : Int) := aD
   have q334 : x7_1 < (l0.length : Int) := aD
   obtain ⟨ad334, e334, hx334_0, hx334_1, hx334_2⟩ := at_T45 HR0.out x7_1 p334 q334; obtain rfl : ad332 = ad334 := (by injection e334)
   replace hx334_0 := (HB.out.cell (World.block_lt_of_cell? w _ hx334_0)).trans hx334_0; replace hx334_1 := (HB.out.cell (World.block_lt_of_cell? w _ hx334_1)).trans hx334_1; replace hx334_2 := (HB.out.cell (World.block_lt_of_cell? w _ hx334_2)).trans hx334_2; replace p334 := eq_true p334; replace q334 := eq_true q334; go_wp2_with (first | ((with_reducible refine gate_builtin (b := .append) (xs := #[.tmp 43, .tmp 59]) rfl ?_); at_builtin; refine Kd.R_append k45 (w0 := w) w.heap.size rfl (.tmp 43) (.tmp 59) 23 45 (.agg #[(.int .i32 0), (.int .i32 0), (.int .i64 0)]) 16 rfl Try.underlying23 info45 rfl (by decide) (by omega) u5 x5_1 (⟨wrap32 (wrap64 ((wrap64 (x6_1 + 1)) + ((((rd_T45 l0 x7_1).f0) % 4294967296) % 3000))), wrap32 (wrap64 ((wrap64 ((wrap64 (x6_1 + 1)) + ((((rd_T45 l0 x7_1).f0) % 4294967296) % 3000))) + ((((rd_T45 l0 x7_1).f1) % 4294967296) % 600))), wrap64 (Int.tmod (IntKind.u64.wrap ((rd_T45 l0 x7_1).f2)) (IntKind.u64.wrap (a1)))⟩ : S45) [.int .i32 (wrap32 (wrap64 ((wrap64 (x6_1 + 1)) + ((((rd_T45 l0 x7_1).f0) % 4294967296) % 3000)))), .int .i32 (wrap32 (wrap64 ((wrap64 ((wrap64 (x6_1 + 1)) + ((((rd_T45 l0 x7_1).f0) % 4294967296) % 3000))) + ((((rd_T45 l0 x7_1).f1) % 4294967296) % 600)))), .int .i64 (wrap64 (Int.tmod (IntKind.u64.wrap ((rd_T45 l0 x7_1).f2)) (IntKind.u64.wrap (a1))))] (fun _ => True) (fun _ => False) rfl rfl ?aP (fun _ hk => hk.elim) ?aF ?aO ?aB ?aS ?aL ?_; (case aP => exact k45_mkM _ _ _ (⟨wrap32 (wrap64 ((wrap64 (x6_1 + 1)) + ((((rd_T45 l0 x7_1).f0) % 4294967296) % 3000))), wrap32 (wrap64 ((wrap64 ((wrap64 (x6_1 + 1)) + ((((rd_T45 l0 x7_1).f0) % 4294967296) % 3000))) + ((((rd_T45 l0 x7_1).f1) % 4294967296) % 600))), wrap64 (Int.tmod (IntKind.u64.wrap ((rd_T45 l0 x7_1).f2)) (IntKind.u64.wrap (a1)))⟩ : S45)); (case aB => exact (aL HB)); (case aF => exact (fun _ _ => trivial)); (case aO => exact (aR HO_5)); (case aS => exact (zF (aL HB))); (case aL => have := LMc10.out; omega); intro v336 w11 ho hb hg hat; rw [← Ny335.out] at ho; replace HB := zA.mk (hb); have HO337 := zA.mk (ho); clear HO_5; clear ho hb hg hat))
   go_roundg kj2
   case measure => have := HK1.out; have := HJ2.out; omega
   case rel => exact ⟨(y335), (wrap64 ((wrap64 ((wrap64 (x6_1 + 1)) + ((((rd_T45 l0 x7_1).f0) % 4294967296) % 3000))) + ((((rd_T45 l0 x7_1).f1) % 4294967296) % 600))), (wrap64 (x7_1 + 1)), aZ, aZ, H', ⟨by have := HK1.out; have := HJ2.out; omega⟩, ⟨aR HO337⟩, ⟨aL HB⟩⟩
mutual
def items_Make.l0 : Nat → List (S50) → List Int → List Bool → List Int → Int → Int → List (S48) → List Int → Option ((List (S48)) × List Int)
 | 0, _, _, _, _, _, _, _, _ => none
 | k + 1, x0, x2, x3, x25, x26, x27, x346000, x346001 => if x27 < x26 then (if 0 ≤ x27 then (if x27 < (x25.length : Int) then (if (rd x25 x27) = (x0.length : Int) then (if x346001.length < 140737488355328 then (items_Make.l0 k x0 x2 x3 x25 x26 (wrap64 (x27 + 1)) x346000 (x346001 ++ [2])) else (none)) else (if (rd x25 x27) = 0 then (items_Make.j1 k x0 x2 x3 (rd x25 x27) x25 x26 x27 true x346000 x346001) else (items_Make.j1 k x0 x2 x3 (rd x25 x27) x25 x26 x27 (decide ((rd x25 x27) ≥ (x2.length : Int))) x346000 x346001))) else (none)) else (none)) else (some (x346000, x346001))
def items_Make.j1 : Nat → List (S50) → List Int → List Bool → Int → List Int → Int → Int → Bool → List (S48) → List Int → Option ((List (S48)) × List Int)
 | 0, _, _, _, _, _, _, _, _, _, _ => none
 | k + 1, x0, x2, x3, x15, x25, x26, x27, x50, x346000, x346001 => if x50 = true then (if x346001.length < 140737488355328 then (items_Make.l0 k x0 x2 x3 x25 x26 (wrap64 (x27 + 1)) x346000 (x346001 ++ [0])) else (none)) else (if 0 ≤ x15 then (if x15 < (x2.length : Int) then (if (rd x2 x15) = 0 then (if x15 < (x3.length : Int) then (if rdOf false x3 x15 = true then (if x346001.length < 140737488355328 then (items_Make.l0 k x0 x2 x3 x25 x26 (wrap64 (x27 + 1)) x346000 (x346001 ++ [3])) else (none)) else (if x346001.length < 140737488355328 then (items_Make.l0 k x0 x2 x3 x25 x26 (wrap64 (x27 + 1)) x346000 (x346001 ++ [rd x2 x15])) else (none))) else (if x346001.length < 140737488355328 then (items_Make.l0 k x0 x2 x3 x25 x26 (wrap64 (x27 + 1)) x346000 (x346001 ++ [rd x2 x15])) else (none))) else (if x346001.length < 140737488355328 then (items_Make.l0 k x0 x2 x3 x25 x26 (wrap64 (x27 + 1)) x346000 (x346001 ++ [rd x2 x15])) else (none))) else (none)) else (none))
end
def items_Make.f (k : Nat) (l0 : List (S50)) (l1 : List Int) (l2 : List Int) (l3 : List Bool) (a4 : Option (List (Int × Int × Int))) : Option ((List (S48)) × List Int) := (cells_Make.f k l0 l1 a4).bind fun bt339 => (items_Make.l0 k l0 l2 l3 bt339.2 (bt339.2.length : Int) 0 bt339.1 ([] : List Int))
theorem items_Make.mono_l : ∀ k, (∀ y0 y1 y2 y3 y4 y5 y6 y7, LeO (items_Make.l0 k y0 y1 y2 y3 y4 y5 y6 y7) (items_Make.l0 (k + 1) y0 y1 y2 y3 y4 y5 y6 y7)) ∧ (∀ y0 y1 y2 y3 y4 y5 y6 y7 y8 y9, LeO (items_Make.j1 k y0 y1 y2 y3 y4 y5 y6 y7 y8 y9) (items_Make.j1 (k + 1) y0 y1 y2 y3 y4 y5 y6 y7 y8 y9))
 | 0 => ⟨fun _ _ _ _ _ _ _ _ r h => by simp [items_Make.l0] at h, fun _ _ _ _ _ _ _ _ _ _ r h => by simp [items_Make.j1] at h⟩
 | k + 1 => by
  obtain ⟨ih0, ih1⟩ := items_Make.mono_l k; refine ⟨?_, ?_⟩
  ·intro y0 y1 y2 y3 y4 y5 y6 y7
   unfold items_Make.l0
   repeat' (with_reducible first | exact ih0 _ _ _ _ _ _ _ _ | exact ih1 _ _ _ _ _ _ _ _ _ _ | exact cells_Make.mono _ _ _ _ | exact LeO.refl _ | exact LeO.none _ | refine LeO.ite ?_ ?_ | refine LeO.bind ?_ (fun _ => ?_))
  ·intro y0 y1 y2 y3 y4 y5 y6 y7 y8 y9
   unfold items_Make.j1
   repeat' (with_reducible first | exact ih0 _ _ _ _ _ _ _ _ | exact ih1 _ _ _ _ _ _ _ _ _ _ | exact cells_Make.mono _ _ _ _ | exact LeO.refl _ | exact LeO.none _ | refine LeO.ite ?_ ?_ | refine LeO.bind ?_ (fun _ => ?_))
theorem items_Make.mono : ∀ a0 a1 a2 a3 a4 k, LeO (items_Make.f k a0 a1 a2 a3 a4) (items_Make.f (k + 1) a0 a1 a2 a3 a4) := by
 intro a0 a1 a2 a3 a4 k
 obtain ⟨ih0, ih1⟩ := items_Make.mono_l k; unfold items_Make.f
 repeat' (with_reducible first | exact ih0 _ _ _ _ _ _ _ _ | exact ih1 _ _ _ _ _ _ _ _ _ _ | exact cells_Make.mono _ _ _ _ | exact LeO.refl _ | exact LeO.none _ | refine LeO.ite ?_ ?_ | refine LeO.bind ?_ (fun _ => ?_))
def items_Make.T6 : Bool × List (List Nat × List Nat) := (true, [([], []), ([0], [0]), ([], []), ([], []), ([2, 3], [2, 3]), ([4], [4]), ([5], [5]), ([1, 6], [1, 6]), ([0, 1, 2, 3, 4, 5, 6, 7], []), ([8, 7, 7, 0, 1, 2, 3, 4, 5, 6, 7], [7, 8])])
def items_Make.B6 : List Nat := [0, 1, 0, 0, 12, 28, 60, 127, 255, 511]
theorem items_Make.tab6 : rtab .any (opsOf Try.f24 6) = items_Make.T6 := by kernel_rfl
theorem items_Make.bits6 : waitsOk items_Make.T6.2 items_Make.B6 = true := by kernel_rfl
set_option maxHeartbeats 8000000 in
set_option maxRecDepth 100000 in
theorem items_Make.calls (k : Nat) (A0 : Option Addr) (c0 : Nat) (l0 : List (S50)) (A1 : Option Addr) (c1 : Nat) (l1 : List Int) (A2 : Option Addr) (c2 : Nat) (l2 : List Int) (A3 : Option Addr) (c3 : Nat) (l3 : List Bool) (vt4_ : Value) (a4 : Option (List (Int × Int × Int))) (r1 : List (S48)) (r2 : List Int) (w : World) (hr0 : Kd.C k50 w A0 l0.length l0) (hc0 : l0.length ≤ c0) (hr1 : Kd.C (Kd.int .u8) w A1 l1.length l1) (hc1 : l1.length ≤ c1) (hr2 : Kd.C (Kd.int .u8) w A2 l2.length l2) (hc2 : l2.length ≤ c2) (hr3 : Kd.C Kd.bool w A3 l3.length l3) (hc3 : l3.length ≤ c3) (hta4 : TabAt w a4 vt4_) (h : items_Make.f k l0 l1 l2 l3 a4 = some (r1, r2)) :
  Calls Try.prog 24 #[.slice A0 l0.length c0, .slice A1 l1.length c1, .slice A2 l2.length c2, .slice A3 l3.length c3, vt4_] w fun e w' => ∃ v0_ v1_ : Value, e = .returned (.agg #[v0_, v1_]) ∧ Kd.R k48 48 w' w.heap.size (fun _ => True) v0_ r1 ∧ Kd.R (Kd.int .u8) 53 w' w.heap.size (fun _ => True) v1_ r2 ∧ Below w.heap.size w w' := by
 have hu60 := Try.underlying60; have HR0 := zA.mk hr0; have HC0 := zA.mk hc0; clear hr0 hc0; have HR1 := zA.mk hr1; have HC1 := zA.mk hc1; clear hr1 hc1; have HR2 := zA.mk hr2; have HC2 := zA.mk hc2; clear hr2 hc2; have HR3 := zA.mk hr3; have HC3 := zA.mk hc3; clear hr3 hc3; have HTa4 := zA.mk hta4; clear hta4; have HB := zA.mk (Below.refl w.heap.size w); have H : ((cells_Make.f k l0 l1 a4).bind fun bt339 => (items_Make.l0 k l0 l2 l3 bt339.2 (bt339.2.length : Int) 0 bt339.1 ([] : List Int))) = some (r1, r2) := h
 clear h; replace H := Option.bind_eq_some_iff.mp H; obtain ⟨⟨t339, t340⟩, A60, H⟩ := H; replace H : (items_Make.l0 k l0 l2 l3 t340 (t340.length : Int) 0 t339 ([] : List Int)) = some (r1, r2) := H; have A6 := zA.mk A60; clear A60; have H' := zA.mk H
 clear H; go_enter Try.func24, Try.ntmps24
 go_wp2_with (first | ((with_reducible refine gate_dst (N := 10) rfl ?_); (try (refine gate_guard (by rfl) ?_; dsimp only)); refine box_event ?hg (N := 10) ?hd (cs := #[.slice none 0 0, .slice none 0 0]) (t := 60) ?hr ?_; (case hd => rfl); (case hg => rfl); (case hr => first | (go_simp; done) | (go_simp; rfl)); intro gb338 hg w7 hbox hb; have BK338 := zA.mk (hbox); have GW338 := zA.mk ((by rw [hg]; exact (zF (aL HB)) : w.heap.size ≤ gb338)); replace HB := zA.mk (below_step (aL HB) hb); have GE338 := GW338; clear hb hbox hg) | ((with_reducible refine gate_callee (f := 17) rfl ?_); refine goesL_ (some 20) rfl rfl Try.func17 (by kernel_rfl) rfl #[.slice A0 l0.length c0, .slice A1 l1.length c1, vt4_] rfl aT ?_; (with_reducible refine (cells_Make.calls k _ _ l0 _ _ l1 vt4_ a4 t339 t340 _ ?side1 ?side2 ?side3 ?side4 ?side5 A6.out).mono ?_); (case side1 => exact aA HR0 HB); (case side2 => exact HC0.out); (case side3 => exact aA HR1 HB); (case side4 => exact HC1.out); (case side5 => exact TabAt.below HTa4.out (aL HB)); rintro e w8 ⟨v341, v343, rfl, ho0, ho1, hb⟩; refine ⟨_, rfl, ?_⟩; have HO342 := zA.mk (Kd.zR ho0 (zF (aL HB))); have HO344 := zA.mk (Kd.zR ho1 (zF (aL HB))); replace BK338 := zA.mk (blk_below (aB BK338) hb); replace HB := zA.mk (below_step (aL HB) hb); (try clear hb); (try clear hb2); (try clear hk); (try clear hi); (try clear ho0); (try clear ho1); obtain ⟨Ao9, co9, eo9⟩ := Kd.zQ HO342.out; subst eo9) | ((with_reducible refine gate_dst (N := 13) rfl ?_); (try (refine gate_guard (by rfl) ?_; dsimp only)); refine box_event ?hg (N := 13) ?hd (cs := #[.slice none 0 0, .slice none 0 0]) (t := 60) ?hr ?_; (case hd => rfl); (case hg => rfl); (case hr => first | (go_simp; done) | (go_simp; rfl)); intro gb345 hg w10 hbox hb; replace HO342 := zA.mk (Kd.zO (aR HO342) hb); replace HO344 := zA.mk (Kd.zO (aR HO344) hb); have BK345 := zA.mk (hbox); have GW345 := zA.mk ((by rw [hg]; exact (zF (aL HB)) : w.heap.size ≤ gb345)); replace HB := zA.mk (below_step (aL HB) hb); have GE345 := GW345; have NB338_345 := zA.mk ((by rw [hg]; exact Nat.ne_of_lt (blk_lt (aB BK338)) : gb338 ≠ gb345)); have NB345_338 := zA.mk ((by rw [hg]; exact Nat.ne_of_gt (blk_lt (g := gb338) (o := .cells #[.slice none 0 0, .slice none 0 0] 60 (0, 0)) (aB BK338)) : gb345 ≠ gb338)); replace BK338 := zA.mk (blk_below (aB BK338) hb); clear hb hbox hg; have hnb11 := NB345_338.out; have hnc11 := NB338_345.out; obtain ⟨hcz12_0, hcz12_1, hfz12_0, hfz12_1⟩ := aC2 BK345) | ((with_reducible refine gate_store (t := 60) (p := 13) rfl ?_); refine store_event (t := 60) (p := 13) (v := ?vo_w13) (w1 := ((w10.setCell ⟨gb345, 0, none⟩ (.slice Ao9 t339.length co9)).setCell ⟨gb345, 1, none⟩ (.slice none 0 0))) ?hg ?ho ?hn ?hr ?_; (case ho => rfl); (case hg => rfl); (case hn => rfl); (case hr => first | (go_simp; done) | (go_simp; rfl)); intro w13 hw; have n0_ : zA (Kd.R k48 48 w13 w.heap.size (fun _ => True) (.slice Ao9 t339.length co9) t339) := ⟨(by rw [hw]; exact (by (with_reducible repeat (first | apply Kd.zG | apply Kd.zH | apply Kd.zI)); exact Kd.zS (Kd.zP (p := ⟨gb345, 1, none⟩) (Kd.zP (p := ⟨gb345, 0, none⟩) (Kd.zT HO342.out BK345.out (by decide)) (fun _ hk => hk.2) (.slice Ao9 t339.length co9)) (fun _ hk => hk.2) (.slice none 0 0)) (fun _ hk => trivial)))⟩; have n1_ : zA (Kd.R (Kd.int .i64) 3 w13 w.heap.size (fun _ => True) v343 t340) := ⟨(by rw [hw]; exact (by (with_reducible repeat (first | apply Kd.zG | apply Kd.zH | apply Kd.zI)); exact Kd.zS (Kd.zP (p := ⟨gb345, 1, none⟩) (Kd.zP (p := ⟨gb345, 0, none⟩) (Kd.zT HO344.out BK345.out (by decide)) (fun _ hk => hk.2) (.slice Ao9 t339.length co9)) (fun _ hk => hk.2) (.slice none 0 0)) (fun _ hk => trivial)))⟩; have n2_ : zA (w13.heap[gb338]? = some (.cells #[.slice none 0 0, .slice none 0 0] 60 (0, 0))) := ⟨(by rw [hw]; exact (aB BK338))⟩; have n3_ : zA (w13.heap[gb345]? = some (.cells #[.slice Ao9 t339.length co9, .slice none 0 0] 60 (0, 0))) := ⟨(by rw [hw]; exact (by (with_reducible repeat (first | refine zD ?_ _ | refine zC ?_ | refine zB ?_ _)); refine blk_put (cs := #[.slice Ao9 t339.length co9, .slice none 0 0]) ?_ 1 _ rfl; (with_reducible repeat (first | refine zD ?_ _ | refine zC ?_ | refine zB ?_ _)); refine blk_put (cs := #[.slice none 0 0, .slice none 0 0]) ?_ 0 _ rfl; (with_reducible repeat (first | refine zD ?_ _ | refine zC ?_ | refine zB ?_ _)); exact BK345.out))⟩; have n4_ : zA (Below w.heap.size w w13) := ⟨(by rw [hw]; exact (aL HB))⟩; clear hw; clear HO342; clear HO344; clear BK338; clear BK345; clear HB; have HO342 := n0_; have HO344 := n1_; have BK338 := n2_; have BK345 := n3_; have HB := n4_; clear n0_ n1_ n2_ n3_ n4_; obtain ⟨Ao14, co14, eo14⟩ := Kd.zQ HO344.out; subst eo14))
 go_loopg [27] k (fun kq v27 w' => ∃ (x27_1 : Int) (x346001_1 : List Int) (u346001 : Value), v27 = .int .i64 x27_1 ∧ zA (items_Make.l0 kq l0 l2 l3 t340 (t340.length : Int) x27_1 t339 x346001_1 = some (r1, r2)) ∧ zA (kq ≤ k) ∧ zA (Kd.R (Kd.int .i64) 3 w' w.heap.size (fun _ => True) (.slice Ao14 t340.length co14) t340) ∧ zA (Kd.R k48 48 w' w.heap.size (fun _ => True) (.slice Ao9 t339.length co9) t339) ∧ zA (Kd.R (Kd.int .u8) 53 w' w.heap.size (fun _ => True) u346001 x346001_1) ∧ zA (w'.heap[gb338]? = some (.cells #[(.slice none 0 0), (.slice none 0 0)] 60 (0, 0))) ∧ zA (w'.heap[gb345]? = some (.cells #[(.slice Ao9 t339.length co9), u346001] 60 (0, 0))) ∧ zA (Below w.heap.size w w'))
 case atStart => exact ⟨(0), (([] : List Int)), (.slice none 0 0), aZ, H', ⟨Nat.le_refl _⟩, ⟨aR HO344⟩, ⟨aR HO342⟩, ⟨by first | exact Kd.R_nil _ _ _ _ _ | exact Kd.N_nil _ _ _ _ _ | exact Kd.V_nil _ _ _ _ _ | exact Kd.Q_nil _ _ _ _ _ | exact Kd.S_nil _ _ _ _ _⟩, ⟨aB BK338⟩, ⟨aB BK345⟩, ⟨aL HB⟩⟩
 clear H'; obtain ⟨x27_1, x346001_1, u346001, rfl, HA, HK1, HO_25, HO_346000, HO_346001, BK338, BK345, HB⟩ := hrel; cases gk with
 | zero => exact absurd HA.out (by simp [items_Make.l0])
 | succ k1 =>
  have H := HA.out; clear HA; simp only [items_Make.l0] at H; by_cases c15 : x27_1 < (t340.length : Int)
  rotate_left
  ·rw [if_neg c15] at H
   have c15b0 : decide (x27_1 < (t340.length : Int)) = false := decide_eq_false c15
   clear c15; simp only [Option.some.injEq, Prod.mk.injEq] at H; obtain ⟨rfl, rfl⟩ := H; have hnb61 := NB345_338.out; have hnc61 := NB338_345.out; obtain ⟨hcz62_0, hcz62_1, hfz62_0, hfz62_1⟩ := aC2 BK345; obtain ⟨hcz63_0, hcz63_1, hfz63_0, hfz63_1⟩ := aC2 BK338; obtain ⟨Ao64, co64, eo64⟩ := Kd.zQ HO_346001.out; subst eo64; go_wp2_with (first | ((with_reducible refine gate_store (t := 60) (p := 10) rfl ?_); refine store_event (t := 60) (p := 10) (v := ?vo_w65) (w1 := ((wr.setCell ⟨gb338, 0, none⟩ (.slice Ao9 t339.length co9)).setCell ⟨gb338, 1, none⟩ (.slice Ao64 x346001_1.length co64))) ?hg ?ho ?hn ?hr ?_; (case ho => rfl); (case hg => rfl); (case hn => rfl); (case hr => first | (go_simp; done) | (go_simp; rfl)); intro w65 hw; have n0_ : zA (Kd.R (Kd.int .i64) 3 w65 w.heap.size (fun _ => True) (.slice Ao14 t340.length co14) t340) := ⟨(by rw [hw]; exact (by (with_reducible repeat (first | apply Kd.zG | apply Kd.zH | apply Kd.zI)); exact Kd.zS (Kd.zP (p := ⟨gb338, 1, none⟩) (Kd.zP (p := ⟨gb338, 0, none⟩) (Kd.zT HO_25.out BK338.out (by decide)) (fun _ hk => hk.2) (.slice Ao9 t339.length co9)) (fun _ hk => hk.2) (.slice Ao64 x346001_1.length co64)) (fun _ hk => trivial)))⟩; have n1_ : zA (Kd.R k48 48 w65 w.heap.size (fun _ => True) (.slice Ao9 t339.length co9) t339) := ⟨(by rw [hw]; exact (by (with_reducible repeat (first | apply Kd.zG | apply Kd.zH | apply Kd.zI)); exact Kd.zS (Kd.zP (p := ⟨gb338, 1, none⟩) (Kd.zP (p := ⟨gb338, 0, none⟩) (Kd.zT HO_346000.out BK338.out (by decide)) (fun _ hk => hk.2) (.slice Ao9 t339.length co9)) (fun _ hk => hk.2) (.slice Ao64 x346001_1.length co64)) (fun _ hk => trivial)))⟩; have n2_ : zA (Kd.R (Kd.int .u8) 53 w65 w.heap.size (fun _ => True) (.slice Ao64 x346001_1.length co64) x346001_1) := ⟨(by rw [hw]; exact (by (with_reducible repeat (first | apply Kd.zG | apply Kd.zH | apply Kd.zI)); exact Kd.zS (Kd.zP (p := ⟨gb338, 1, none⟩) (Kd.zP (p := ⟨gb338, 0, none⟩) (Kd.zT HO_346001.out BK338.out (by decide)) (fun _ hk => hk.2) (.slice Ao9 t339.length co9)) (fun _ hk => hk.2) (.slice Ao64 x346001_1.length co64)) (fun _ hk => trivial)))⟩; have n3_ : zA (w65.heap[gb338]? = some (.cells #[.slice Ao9 t339.length co9, .slice Ao64 x346001_1.length co64] 60 (0, 0))) := ⟨(by rw [hw]; exact (by (with_reducible repeat (first | refine zD ?_ _ | refine zC ?_ | refine zB ?_ _)); refine blk_put (cs := #[.slice Ao9 t339.length co9, .slice none 0 0]) ?_ 1 _ rfl; (with_reducible repeat (first | refine zD ?_ _ | refine zC ?_ | refine zB ?_ _)); refine blk_put (cs := #[.slice none 0 0, .slice none 0 0]) ?_ 0 _ rfl; (with_reducible repeat (first | refine zD ?_ _ | refine zC ?_ | refine zB ?_ _)); exact BK338.out))⟩; have n4_ : zA (w65.heap[gb345]? = some (.cells #[.slice Ao9 t339.length co9, .slice Ao64 x346001_1.length co64] 60 (0, 0))) := ⟨(by rw [hw]; exact (aB BK345))⟩; have n5_ : zA (Below w.heap.size w w65) := ⟨(by rw [hw]; exact (aL HB))⟩; clear hw; clear HO_25; clear HO_346000; clear HO_346001; clear BK338; clear BK345; clear HB; have HO_25 := n0_; have HO_346000 := n1_; have HO_346001 := n2_; have BK338 := n3_; have BK345 := n4_; have HB := n5_; clear n0_ n1_ n2_ n3_ n4_ n5_))
   refine bodyPost_ret (results_cell_row rfl _ _ gb338 60 #[.slice Ao9 t339.length co9, .slice Ao64 x346001_1.length co64] (0, 0) _ rfl (aB BK338) Try.underlying60 rfl (by kernel_rfl)) rfl ?_
   exact ⟨_, _, aX, aR HO_346000, aR HO_346001, aL HB⟩
  rw [if_pos c15] at H; have c15b0 : decide (x27_1 < (t340.length : Int)) = true := decide_eq_true c15
  clear c15; by_cases c16 : 0 ≤ x27_1
  rotate_left
  ·rw [if_neg c16] at H
   exact absurd H (by simp)
  rw [if_pos c16] at H; have c16b0 : decide (0 ≤ x27_1) = true := decide_eq_true c16
  clear c16; by_cases c17 : x27_1 < (t340.length : Int)
  rotate_left
  ·rw [if_neg c17] at H
   exact absurd H (by simp)
  rw [if_pos c17] at H; have c17b0 : decide (x27_1 < (t340.length : Int)) = true := decide_eq_true c17
  clear c17; by_cases c18 : (rd t340 x27_1) = (l0.length : Int)
  ·rw [if_pos c18] at H
   have c18b0 : ((rd t340 x27_1) == (l0.length : Int)) = true := beq_iff_eq.mpr c18
   have c18b1 : ((rd t340 x27_1) != (l0.length : Int)) = false := bne_eq_false_iff_eq.mpr c18
   clear c18; by_cases c19 : x346001_1.length < 140737488355328
   rotate_left
   ·rw [if_neg c19] at H
    exact absurd H (by simp)
   rw [if_pos c19] at H; have LMc19 := zA.mk c19; clear c19; obtain ⟨y347, hy347⟩ : ∃ y_ : List Int, y_ = (x346001_1 ++ [2]) := ⟨_, rfl⟩; replace H : (items_Make.l0 k1 l0 l2 l3 t340 (t340.length : Int) (wrap64 (x27_1 + 1)) t339 y347) = some (r1, r2) := by first | (rw [hy347]; with_reducible exact H) | (have H2_ := (Option.bind_some _ _).symm.trans H; rw [hy347]; with_reducible exact H2_) | (have H2_ := (Option.bind_some _ _).symm.trans H; with_reducible exact H2_) | with_reducible exact H | (rw [hy347]; exact H) | exact H
   have Ny347 := zA.mk hy347; clear hy347; have H' := zA.mk H
   clear H; have p346 : 0 ≤ (x27_1 : Int) := aD
   have q346 : x27_1 < (t340.length : Int) := aD
   obtain ⟨ad346, e346, hx346_0⟩ := Kd.at_int (Kd.zN HO_25.out).2.2 x27_1 p346 q346; cases e346
   replace p346 := eq_true p346; replace q346 := eq_true q346; have hnb20 := NB345_338.out; have hnc20 := NB338_345.out; obtain ⟨hcz21_0, hcz21_1, hfz21_0, hfz21_1⟩ := aC2 BK345; go_wp2_with (first | ((with_reducible refine gate_builtin (b := .append) (xs := #[.tmp 46, .tmp 47]) rfl ?_); (try (refine gate_guard (by rfl) ?_; dsimp only)); at_builtin; refine Kd.R_append (Kd.int .u8) (w0 := w) w.heap.size rfl (.tmp 46) (.tmp 47) 38 53 (.int .u8 0) 1 rfl Try.underlying38 info53 rfl (by decide) (by omega) u346001 x346001_1 2 [.int .u8 2] (fun _ => True) (fun _ => False) rfl rfl ?aP (fun _ hk => hk.elim) ?aF ?aO ?aB ?aS ?aL ?_; (case aP => exact rfl); (case aB => exact (aL HB)); (case aF => exact (fun _ _ => trivial)); (case aO => exact (aR HO_346001)); (case aS => exact (zF (aL HB))); (case aL => have := LMc19.out; omega); intro v348 w22 ho hb hg hat; rw [← Ny347.out] at ho; replace HO_25 := zA.mk (Kd.R_over' (aR HO_25) (Kd.R_typed (aR HO_346001)) (by decide) hg); replace HO_346000 := zA.mk (Kd.R_over' (aR HO_346000) (Kd.R_typed (aR HO_346001)) (by decide) hg); replace BK338 := zA.mk (blk_grown (g := gb338) (o := .cells #[.slice none 0 0, .slice none 0 0] 60 (0, 0)) (aB BK338) hg (Kd.R_ne HO_346001.out BK338.out (by decide))); replace BK345 := zA.mk (blk_grown (g := gb345) (o := .cells #[.slice Ao9 t339.length co9, u346001] 60 (0, 0)) (aB BK345) hg (Kd.R_ne HO_346001.out BK345.out (by decide))); replace HB := zA.mk (hb); have HO349 := zA.mk (ho); clear HO_346001; clear ho hb hg hat; obtain ⟨Ao23, co23, eo23⟩ := Kd.zQ HO349.out; subst eo23; obtain ⟨hcz24_0, hcz24_1, hfz24_0, hfz24_1⟩ := aC2 BK345))
   go_roundg k1
   case measure => have := HK1.out; omega
   case rel => exact ⟨(wrap64 (x27_1 + 1)), (y347), (.slice Ao23 y347.length co23), aZ, H', ⟨by have := HK1.out; omega⟩, ⟨by (with_reducible repeat (first | apply Kd.zG | apply Kd.zH | apply Kd.zI)); exact Kd.zS (Kd.zP (p := ⟨gb345, 1, none⟩) (Kd.zT HO_25.out BK345.out (by decide)) (fun _ hk => hk.2) (.slice Ao23 y347.length co23)) (fun _ hk => trivial)⟩, ⟨by (with_reducible repeat (first | apply Kd.zG | apply Kd.zH | apply Kd.zI)); exact Kd.zS (Kd.zP (p := ⟨gb345, 1, none⟩) (Kd.zT HO_346000.out BK345.out (by decide)) (fun _ hk => hk.2) (.slice Ao23 y347.length co23)) (fun _ hk => trivial)⟩, ⟨by (with_reducible repeat (first | apply Kd.zG | apply Kd.zH | apply Kd.zI)); exact Kd.zS (Kd.zP (p := ⟨gb345, 1, none⟩) (Kd.zT HO349.out BK345.out (by decide)) (fun _ hk => hk.2) (.slice Ao23 y347.length co23)) (fun _ hk => trivial)⟩, ⟨by (with_reducible repeat (first | refine zD ?_ _ | refine zC ?_ | refine zB ?_ _)); refine blk_far ?_ NB338_345.out _; (with_reducible repeat (first | refine zD ?_ _ | refine zC ?_ | refine zB ?_ _)); exact BK338.out⟩, ⟨by (with_reducible repeat (first | refine zD ?_ _ | refine zC ?_ | refine zB ?_ _)); refine blk_put (cs := #[.slice Ao9 t339.length co9, u346001]) ?_ 1 _ rfl; (with_reducible repeat (first | refine zD ?_ _ | refine zC ?_ | refine zB ?_ _)); exact BK345.out⟩, ⟨aL HB⟩⟩
  rw [if_neg c18] at H; have c18b0 : ((rd t340 x27_1) == (l0.length : Int)) = false := beq_eq_false_iff_ne.mpr c18
  have c18b1 : ((rd t340 x27_1) != (l0.length : Int)) = true := bne_iff_ne.mpr c18
  have HC25 := zA.mk H; clear H; have p346 : 0 ≤ (x27_1 : Int) := aD
  have q346 : x27_1 < (t340.length : Int) := aD
  obtain ⟨ad346, e346, hx346_0⟩ := Kd.at_int (Kd.zN HO_25.out).2.2 x27_1 p346 q346; cases e346
  replace p346 := eq_true p346; replace q346 := eq_true q346; go_upto_region 9 with (fail)
  go_cut [50] (fun v50 wc => ∃ (kq : Nat) (x50_24 : Bool), v50 = .bool x50_24 ∧ zA (items_Make.j1 kq l0 l2 l3 (rd t340 x27_1) t340 (t340.length : Int) x27_1 x50_24 t339 x346001_1 = some (r1, r2)) ∧ zA (kq ≤ k1) ∧ zA (Kd.R (Kd.int .i64) 3 wc w.heap.size (fun _ => True) (.slice (some ad346) t340.length co14) t340) ∧ zA (Kd.R k48 48 wc w.heap.size (fun _ => True) (.slice Ao9 t339.length co9) t339) ∧ zA (Kd.R (Kd.int .u8) 53 wc w.heap.size (fun _ => True) u346001 x346001_1) ∧ zA (wc.heap[gb338]? = some (.cells #[(.slice none 0 0), (.slice none 0 0)] 60 (0, 0))) ∧ zA (wc.heap[gb345]? = some (.cells #[(.slice Ao9 t339.length co9), u346001] 60 (0, 0))) ∧ zA (Below w.heap.size w wc))
  case first =>
   have H := HC25.out; clear HC25; by_cases c26 : (rd t340 x27_1) = 0
   ·rw [if_pos c26] at H
    have c26b0 : ((rd t340 x27_1) == 0) = true := beq_iff_eq.mpr c26
    have c26b1 : ((rd t340 x27_1) != 0) = false := bne_eq_false_iff_eq.mpr c26
    clear c26; (first | rw [c26b0] | (simp only [i64_w, i32_w]; rw [c26b0]) | skip)
    have H' := zA.mk H
    clear H; go_wp2
    go_meet
    case rel => exact ⟨_, (true), aZ, H', ⟨by have := HK1.out; first | omega | exact Nat.le_refl _⟩, ⟨aR HO_25⟩, ⟨aR HO_346000⟩, ⟨aR HO_346001⟩, ⟨aB BK338⟩, ⟨aB BK345⟩, ⟨aL HB⟩⟩
   rw [if_neg c26] at H; have c26b0 : ((rd t340 x27_1) == 0) = false := beq_eq_false_iff_ne.mpr c26
   have c26b1 : ((rd t340 x27_1) != 0) = true := bne_iff_ne.mpr c26
   (first | rw [c26b0] | (simp only [i64_w, i32_w]; rw [c26b0]) | skip)
   have H' := zA.mk H
   clear H; go_wp2
   go_meet
   case rel => exact ⟨_, (decide ((rd t340 x27_1) ≥ (l2.length : Int))), aZ, H', ⟨by have := HK1.out; first | omega | exact Nat.le_refl _⟩, ⟨aR HO_25⟩, ⟨aR HO_346000⟩, ⟨aR HO_346001⟩, ⟨aB BK338⟩, ⟨aB BK345⟩, ⟨aL HB⟩⟩
  clear HC25; obtain ⟨kq, x50_24, rfl, HA, HJ24, HO_25, HO_346000, HO_346001, BK338, BK345, HB⟩ := hcut; cases kq with
  | zero => exact absurd HA.out (by simp [items_Make.j1])
  | succ kj24 =>
   have H := HA.out; clear HA; simp only [items_Make.j1] at H; by_cases c27 : x50_24 = true
   ·subst c27
    have H1 : (if x346001_1.length < 140737488355328 then (items_Make.l0 kj24 l0 l2 l3 t340 (t340.length : Int) (wrap64 (x27_1 + 1)) t339 (x346001_1 ++ [0])) else (none)) = some (r1, r2) := by rw [if_pos rfl] at H; exact H
    clear H; have H := H1; clear H1; by_cases c28 : x346001_1.length < 140737488355328
    rotate_left
    ·rw [if_neg c28] at H
     exact absurd H (by simp)
    rw [if_pos c28] at H; have LMc28 := zA.mk c28; clear c28; obtain ⟨y350, hy350⟩ : ∃ y_ : List Int, y_ = (x346001_1 ++ [0]) := ⟨_, rfl⟩; replace H : (items_Make.l0 kj24 l0 l2 l3 t340 (t340.length : Int) (wrap64 (x27_1 + 1)) t339 y350) = some (r1, r2) := by first | (rw [hy350]; with_reducible exact H) | (have H2_ := (Option.bind_some _ _).symm.trans H; rw [hy350]; with_reducible exact H2_) | (have H2_ := (Option.bind_some _ _).symm.trans H; with_reducible exact H2_) | with_reducible exact H | (rw [hy350]; exact H) | exact H
    have Ny350 := zA.mk hy350; clear hy350; have H' := zA.mk H
    clear H; have hnb29 := NB345_338.out; have hnc29 := NB338_345.out; obtain ⟨hcz30_0, hcz30_1, hfz30_0, hfz30_1⟩ := aC2 BK345; go_wp2_with (first | ((with_reducible refine gate_builtin (b := .append) (xs := #[.tmp 60, .tmp 61]) rfl ?_); (try (refine gate_guard (by rfl) ?_; dsimp only)); at_builtin; refine Kd.R_append (Kd.int .u8) (w0 := w) w.heap.size rfl (.tmp 60) (.tmp 61) 38 53 (.int .u8 0) 1 rfl Try.underlying38 info53 rfl (by decide) (by omega) u346001 x346001_1 0 [.int .u8 0] (fun _ => True) (fun _ => False) rfl rfl ?aP (fun _ hk => hk.elim) ?aF ?aO ?aB ?aS ?aL ?_; (case aP => exact rfl); (case aB => exact (aL HB)); (case aF => exact (fun _ _ => trivial)); (case aO => exact (aR HO_346001)); (case aS => exact (zF (aL HB))); (case aL => have := LMc28.out; omega); intro v351 w31 ho hb hg hat; rw [← Ny350.out] at ho; replace HO_25 := zA.mk (Kd.R_over' (aR HO_25) (Kd.R_typed (aR HO_346001)) (by decide) hg); replace HO_346000 := zA.mk (Kd.R_over' (aR HO_346000) (Kd.R_typed (aR HO_346001)) (by decide) hg); replace BK338 := zA.mk (blk_grown (g := gb338) (o := .cells #[.slice none 0 0, .slice none 0 0] 60 (0, 0)) (aB BK338) hg (Kd.R_ne HO_346001.out BK338.out (by decide))); replace BK345 := zA.mk (blk_grown (g := gb345) (o := .cells #[.slice Ao9 t339.length co9, u346001] 60 (0, 0)) (aB BK345) hg (Kd.R_ne HO_346001.out BK345.out (by decide))); replace HB := zA.mk (hb); have HO352 := zA.mk (ho); clear HO_346001; clear ho hb hg hat; obtain ⟨Ao32, co32, eo32⟩ := Kd.zQ HO352.out; subst eo32; obtain ⟨hcz33_0, hcz33_1, hfz33_0, hfz33_1⟩ := aC2 BK345))
    go_roundg kj24
    case measure => have := HK1.out; have := HJ24.out; omega
    case rel => exact ⟨(wrap64 (x27_1 + 1)), (y350), (.slice Ao32 y350.length co32), aZ, H', ⟨by have := HK1.out; have := HJ24.out; omega⟩, ⟨by (with_reducible repeat (first | apply Kd.zG | apply Kd.zH | apply Kd.zI)); exact Kd.zS (Kd.zP (p := ⟨gb345, 1, none⟩) (Kd.zT HO_25.out BK345.out (by decide)) (fun _ hk => hk.2) (.slice Ao32 y350.length co32)) (fun _ hk => trivial)⟩, ⟨by (with_reducible repeat (first | apply Kd.zG | apply Kd.zH | apply Kd.zI)); exact Kd.zS (Kd.zP (p := ⟨gb345, 1, none⟩) (Kd.zT HO_346000.out BK345.out (by decide)) (fun _ hk => hk.2) (.slice Ao32 y350.length co32)) (fun _ hk => trivial)⟩, ⟨by (with_reducible repeat (first | apply Kd.zG | apply Kd.zH | apply Kd.zI)); exact Kd.zS (Kd.zP (p := ⟨gb345, 1, none⟩) (Kd.zT HO352.out BK345.out (by decide)) (fun _ hk => hk.2) (.slice Ao32 y350.length co32)) (fun _ hk => trivial)⟩, ⟨by (with_reducible repeat (first | refine zD ?_ _ | refine zC ?_ | refine zB ?_ _)); refine blk_far ?_ NB338_345.out _; (with_reducible repeat (first | refine zD ?_ _ | refine zC ?_ | refine zB ?_ _)); exact BK338.out⟩, ⟨by (with_reducible repeat (first | refine zD ?_ _ | refine zC ?_ | refine zB ?_ _)); refine blk_put (cs := #[.slice Ao9 t339.length co9, u346001]) ?_ 1 _ rfl; (with_reducible repeat (first | refine zD ?_ _ | refine zC ?_ | refine zB ?_ _)); exact BK345.out⟩, ⟨aL HB⟩⟩
   replace c27 := Bool.eq_false_iff.mpr c27; subst c27; have H1 : (if 0 ≤ (rd t340 x27_1) then (if (rd t340 x27_1) < (l2.length : Int) then (if (rd l2 (rd t340 x27_1)) = 0 then (if (rd t340 x27_1) < (l3.length : Int) then (if rdOf false l3 (rd t340 x27_1) = true then (if x346001_1.length < 140737488355328 then (items_Make.l0 kj24 l0 l2 l3 t340 (t340.length : Int) (wrap64 (x27_1 + 1)) t339 (x346001_1 ++ [3])) else (none)) else (if x346001_1.length < 140737488355328 then (items_Make.l0 kj24 l0 l2 l3 t340 (t340.length : Int) (wrap64 (x27_1 + 1)) t339 (x346001_1 ++ [rd l2 (rd t340 x27_1)])) else (none))) else (if x346001_1.length < 140737488355328 then (items_Make.l0 kj24 l0 l2 l3 t340 (t340.length : Int) (wrap64 (x27_1 + 1)) t339 (x346001_1 ++ [rd l2 (rd t340 x27_1)])) else (none))) else (if x346001_1.length < 140737488355328 then (items_Make.l0 kj24 l0 l2 l3 t340 (t340.length : Int) (wrap64 (x27_1 + 1)) t339 (x346001_1 ++ [rd l2 (rd t340 x27_1)])) else (none))) else (none)) else (none)) = some (r1, r2) := by rw [if_neg (show ¬ (false = true) by decide)] at H; exact H
   clear H; have H := H1; clear H1; by_cases c34 : 0 ≤ (rd t340 x27_1)
   rotate_left
   ·rw [if_neg c34] at H
    exact absurd H (by simp)
   rw [if_pos c34] at H; have c34b0 : decide (0 ≤ (rd t340 x27_1)) = true := decide_eq_true c34
   clear c34; by_cases c35 : (rd t340 x27_1) < (l2.length : Int)
   rotate_left
   ·rw [if_neg c35] at H
    exact absurd H (by simp)
   rw [if_pos c35] at H; have c35b0 : decide ((rd t340 x27_1) < (l2.length : Int)) = true := decide_eq_true c35
   clear c35; by_cases c36 : (rd l2 (rd t340 x27_1)) = 0
   rotate_left
   ·rw [if_neg c36] at H
    have c36b0 : ((rd l2 (rd t340 x27_1)) == 0) = false := beq_eq_false_iff_ne.mpr c36
    have c36b1 : ((rd l2 (rd t340 x27_1)) != 0) = true := bne_iff_ne.mpr c36
    by_cases c56 : x346001_1.length < 140737488355328
    rotate_left
    ·rw [if_neg c56] at H
     exact absurd H (by simp)
    rw [if_pos c56] at H; have LMc56 := zA.mk c56; clear c56; obtain ⟨y367, hy367⟩ : ∃ y_ : List Int, y_ = (x346001_1 ++ [rd l2 (rd t340 x27_1)]) := ⟨_, rfl⟩; replace H : (items_Make.l0 kj24 l0 l2 l3 t340 (t340.length : Int) (wrap64 (x27_1 + 1)) t339 y367) = some (r1, r2) := by first | (rw [hy367]; with_reducible exact H) | (have H2_ := (Option.bind_some _ _).symm.trans H; rw [hy367]; with_reducible exact H2_) | (have H2_ := (Option.bind_some _ _).symm.trans H; with_reducible exact H2_) | with_reducible exact H | (rw [hy367]; exact H) | exact H
    have Ny367 := zA.mk hy367; clear hy367; have H' := zA.mk H
    clear H; have p353 : 0 ≤ ((rd t340 x27_1) : Int) := aD
    have q353 : (rd t340 x27_1) < (l2.length : Int) := aD
    obtain ⟨ad353, e353, hx353_0⟩ := Kd.at_int HR2.out (rd t340 x27_1) p353 q353; cases e353
    replace hx353_0 := (HB.out.cell (World.block_lt_of_cell? w _ hx353_0)).trans hx353_0; replace p353 := eq_true p353; replace q353 := eq_true q353; try go_wp2
    replace HO_25 := zA.mk (Kd.zI HO_25.out); replace HO_346000 := zA.mk (Kd.zI HO_346000.out); replace HO_346001 := zA.mk (Kd.zI HO_346001.out); replace BK338 := zA.mk (zC BK338.out); replace BK345 := zA.mk (zC BK345.out); replace HB := zA.mk (below_drew1 HB.out); have p366 : 0 ≤ ((rd t340 x27_1) : Int) := aD
    have q366 : (rd t340 x27_1) < (l2.length : Int) := aD
    obtain ⟨ad366, e366, hx366_0⟩ := Kd.at_int HR2.out (rd t340 x27_1) p366 q366; have hw366_0 := hx366_0; obtain rfl : ad353 = ad366 := (by injection e366)
    replace hx366_0 := (HB.out.cell (World.block_lt_of_cell? w _ hx366_0)).trans hx366_0; replace p366 := eq_true p366; replace q366 := eq_true q366; refine start_ (n := 10) (S := fun w' => w'.cell? ⟨gb345, 0, none⟩ = some (.slice Ao9 t339.length co9) ∧ w'.cell? ⟨gb345, 1, none⟩ = some (u346001) ∧ w'.cell? (ad353.add ((rd t340 x27_1)).toNat) = some (.int .u8 (rd l2 (rd t340 x27_1)))) (ds := [9]) #[false, false, false, false, false, false, false, false, false, false] (by kernel_rfl) rfl rfl ⟨(zE BK345.out 0).trans rfl, (zE BK345.out 1).trans rfl, ((HB.out.cell (World.block_lt_of_cell? w _ hw366_0)).trans hw366_0)⟩ (fun hHeld => ?_); refine with_tabW items_Make.tab6 items_Make.bits6 (fun HT_ HW_ => ?_)
    generalize wc.drew = w57 at HO_25 HO_346000 HO_346001 BK338 BK345 HB hx366_0 hHeld ⊢
    refine aP 0 (some 31) (tf_ 1 10) HT_ ?_
    refine aP 2 (some 33) (tb_ 5 10) HT_ ?_
    refine aP 3 (some 34) (tb_ 13 10) HT_ ?_
    refine aP 4 (some 35) (tb_ 29 10) HT_ ?_
    refine take_ (i := 1) (N := some 32) (v := ?_) (a' := ?_) (tf_ 5 10) rfl rfl (take_ofW HT_.out HW_.out (by kernel_rfl)) (fun _ _ _ h => h) (Or.inl ⟨by rfl, ?_⟩) hHeld ?_ ?_
    rotate_left
    ·rintro w' ⟨s0, s1, s2⟩
     go_simp
     with_reducible rfl
    rotate_left
    ·simp only [Act.put, sA_, sB_, sC_, i64_w, i32_w]
     rfl
    refine take_ (i := 5) (N := some 36) (v := ?_) (a' := ?_) (tf_ 6 10) rfl rfl (take_ofW HT_.out HW_.out (by kernel_rfl)) (fun _ _ _ h => h) (Or.inl ⟨by rfl, ?_⟩) hHeld ?_ ?_
    rotate_left
    ·rintro w' ⟨s0, s1, s2⟩
     go_simp
     with_reducible rfl
    rotate_left
    ·simp only [Act.put, sA_, sB_, sC_, i64_w, i32_w]
     rfl
    refine one_ (i := 6) (N := some 37) (tb_ 127 10) rfl rfl (one_of HT_.out (by kernel_rfl)) (by decide) (fun K hK => ?_)
    refine value_ (w1 := ?_) (v := ?_) (by rfl) rfl ?_ ?_
    rotate_left 2
    ·go_simp
     constructor
     ·rfl
     rfl
    refine hK.out _ _ ⟨(zE (zB BK345.out _) 0).trans rfl, (zE (zB BK345.out _) 1).trans rfl, (World.cell?_alloc_lt _ _ _ (World.block_lt_of_cell? _ _ (((HB.out.cell (World.block_lt_of_cell? w _ hw366_0)).trans hw366_0)))).trans (((HB.out.cell (World.block_lt_of_cell? w _ hw366_0)).trans hw366_0))⟩ (fun hHeld => ?_)
    clear hK K; refine norm_ (a' := ?_) ?_ ?_
    rotate_left
    ·show Act.put _ (some 37) _ = _
     simp only [Act.put, sA_, sB_, sC_, i64_w, i32_w]; rfl
    refine one_ (i := 7) (N := some 38) (tb_ 255 10) rfl rfl (one_of HT_.out (by kernel_rfl)) (by decide) (fun K hK => ?_)
    refine Kd.R_append_step (Kd.int .u8) (w0 := w) w.heap.size (by rfl) (.tmp 32) (.tmp 37) 38 53 (.int .u8 0) 1 rfl Try.underlying38 info53 rfl (by decide) (by omega) u346001 x346001_1 (rd l2 (rd t340 x27_1)) [.int .u8 (rd l2 (rd t340 x27_1))] (fun _ => True) (fun _ => False) rfl rfl ?aP (fun _ hk => hk.elim) ?aF ?aO ?aB ?aS ?aL ?_
    (case aP => exact rfl)
    (case aB => exact (aL HB))
    (case aF => exact (fun _ _ => trivial))
    (case aO => exact (aR HO_346001))
    (case aS => exact (zF (aL HB)))
    (case aL => have := LMc56.out; omega)
    intro v368 w58 ho hb hg hat
    rw [← Ny367.out] at ho; replace HO_25 := zA.mk (Kd.R_over' (aR HO_25) (Kd.R_typed (aR HO_346001)) (by decide) hg)
    replace HO_346000 := zA.mk (Kd.R_over' (aR HO_346000) (Kd.R_typed (aR HO_346001)) (by decide) hg)
    replace BK338 := zA.mk (blk_grown (g := gb338) (o := .cells #[.slice none 0 0, .slice none 0 0] 60 (0, 0)) (aB BK338) hg (Kd.R_ne HO_346001.out BK338.out (by decide)))
    replace BK345 := zA.mk (blk_grown (g := gb345) (o := .cells #[.slice Ao9 t339.length co9, u346001] 60 (0, 0)) (aB BK345) hg (Kd.R_ne HO_346001.out BK345.out (by decide)))
    replace HB := zA.mk (hb); have HO369 := zA.mk (ho); clear HO_346001; clear ho hb hg hat; obtain ⟨Ao59, co59, eo59⟩ := Kd.zQ HO369.out; (first | subst eo59 | (injection eo59 with f1_ f2_ f3_; have f4_ := f1_.symm; have f5_ := f3_.symm; clear f1_ f2_ f3_; subst f4_; subst f5_))
    refine hK.out _ _ ⟨(zE BK345.out 0).trans rfl, (zE BK345.out 1).trans rfl, ((HB.out.cell (World.block_lt_of_cell? w _ hw366_0)).trans hw366_0)⟩ (fun hHeld => ?_)
    clear hK K; refine norm_ (a' := ?_) ?_ ?_
    rotate_left
    ·show Act.put _ (some 38) _ = _
     simp only [Act.put, sA_, sB_, sC_, i64_w, i32_w]; rfl
    refine aP 8 (some 39) (tf_ 9 10) HT_ ?_
    refine last_ (i := 9) (N := none) (tb_ 1023 10) rfl rfl (one_of HT_.out (by kernel_rfl)) (by decide) (fun K hK => ?_)
    have hs60 : w58.cell? ⟨gb345, 1, none⟩ = some (u346001) := (zE BK345.out 1).trans rfl
    have hfs60 := blk_frozen BK345.out 1; have hns60_0 := NB338_345.out; have hms60_0 := NB345_338.out; refine skip_ (w1 := ?_) (by rfl) rfl ?_ ?_
    rotate_left
    ·go_simp
     rfl
    refine hK.out _ _ ?_
    clear hK K; refine done_ (done_of HT_.out (by kernel_rfl)) ?_
    try go_wp2
    go_roundg kj24
    case measure => have := HK1.out; have := HJ24.out; omega
    case rel => exact ⟨(wrap64 (x27_1 + 1)), (y367), (.slice Ao59 y367.length co59), aZ, H', ⟨by have := HK1.out; have := HJ24.out; omega⟩, ⟨by (with_reducible repeat (first | apply Kd.zG | apply Kd.zH | apply Kd.zI)); exact Kd.zS (Kd.zP (p := ⟨gb345, 1, none⟩) (Kd.zT HO_25.out BK345.out (by decide)) (fun _ hk => hk.2) (.slice Ao59 y367.length co59)) (fun _ hk => trivial)⟩, ⟨by (with_reducible repeat (first | apply Kd.zG | apply Kd.zH | apply Kd.zI)); exact Kd.zS (Kd.zP (p := ⟨gb345, 1, none⟩) (Kd.zT HO_346000.out BK345.out (by decide)) (fun _ hk => hk.2) (.slice Ao59 y367.length co59)) (fun _ hk => trivial)⟩, ⟨by (with_reducible repeat (first | apply Kd.zG | apply Kd.zH | apply Kd.zI)); exact Kd.zS (Kd.zP (p := ⟨gb345, 1, none⟩) (Kd.zT HO369.out BK345.out (by decide)) (fun _ hk => hk.2) (.slice Ao59 y367.length co59)) (fun _ hk => trivial)⟩, ⟨by (with_reducible repeat (first | refine zD ?_ _ | refine zC ?_ | refine zB ?_ _)); refine blk_far ?_ NB338_345.out _; (with_reducible repeat (first | refine zD ?_ _ | refine zC ?_ | refine zB ?_ _)); exact BK338.out⟩, ⟨by (with_reducible repeat (first | refine zD ?_ _ | refine zC ?_ | refine zB ?_ _)); refine blk_put (cs := #[.slice Ao9 t339.length co9, u346001]) ?_ 1 _ rfl; (with_reducible repeat (first | refine zD ?_ _ | refine zC ?_ | refine zB ?_ _)); exact BK345.out⟩, ⟨aL HB⟩⟩
   rw [if_pos c36] at H; have c36b0 : ((rd l2 (rd t340 x27_1)) == 0) = true := beq_iff_eq.mpr c36
   have c36b1 : ((rd l2 (rd t340 x27_1)) != 0) = false := bne_eq_false_iff_eq.mpr c36
   clear c36; by_cases c37 : (rd t340 x27_1) < (l3.length : Int)
   rotate_left
   ·rw [if_neg c37] at H
    have c37b0 : decide ((rd t340 x27_1) < (l3.length : Int)) = false := decide_eq_false c37
    clear c37; by_cases c51 : x346001_1.length < 140737488355328
    rotate_left
    ·rw [if_neg c51] at H
     exact absurd H (by simp)
    rw [if_pos c51] at H; have LMc51 := zA.mk c51; clear c51; obtain ⟨y363, hy363⟩ : ∃ y_ : List Int, y_ = (x346001_1 ++ [rd l2 (rd t340 x27_1)]) := ⟨_, rfl⟩; replace H : (items_Make.l0 kj24 l0 l2 l3 t340 (t340.length : Int) (wrap64 (x27_1 + 1)) t339 y363) = some (r1, r2) := by first | (rw [hy363]; with_reducible exact H) | (have H2_ := (Option.bind_some _ _).symm.trans H; rw [hy363]; with_reducible exact H2_) | (have H2_ := (Option.bind_some _ _).symm.trans H; with_reducible exact H2_) | with_reducible exact H | (rw [hy363]; exact H) | exact H
    have Ny363 := zA.mk hy363; clear hy363; have H' := zA.mk H
    clear H; have p353 : 0 ≤ ((rd t340 x27_1) : Int) := aD
    have q353 : (rd t340 x27_1) < (l2.length : Int) := aD
    obtain ⟨ad353, e353, hx353_0⟩ := Kd.at_int HR2.out (rd t340 x27_1) p353 q353; cases e353
    replace hx353_0 := (HB.out.cell (World.block_lt_of_cell? w _ hx353_0)).trans hx353_0; replace p353 := eq_true p353; replace q353 := eq_true q353; try go_wp2
    replace HO_25 := zA.mk (Kd.zI HO_25.out); replace HO_346000 := zA.mk (Kd.zI HO_346000.out); replace HO_346001 := zA.mk (Kd.zI HO_346001.out); replace BK338 := zA.mk (zC BK338.out); replace BK345 := zA.mk (zC BK345.out); replace HB := zA.mk (below_drew1 HB.out); have p362 : 0 ≤ ((rd t340 x27_1) : Int) := aD
    have q362 : (rd t340 x27_1) < (l2.length : Int) := aD
    obtain ⟨ad362, e362, hx362_0⟩ := Kd.at_int HR2.out (rd t340 x27_1) p362 q362; have hw362_0 := hx362_0; obtain rfl : ad353 = ad362 := (by injection e362)
    replace hx362_0 := (HB.out.cell (World.block_lt_of_cell? w _ hx362_0)).trans hx362_0; replace p362 := eq_true p362; replace q362 := eq_true q362; refine start_ (n := 10) (S := fun w' => w'.cell? ⟨gb345, 0, none⟩ = some (.slice Ao9 t339.length co9) ∧ w'.cell? ⟨gb345, 1, none⟩ = some (u346001) ∧ w'.cell? (ad353.add ((rd t340 x27_1)).toNat) = some (.int .u8 (rd l2 (rd t340 x27_1)))) (ds := [9]) #[false, false, false, false, false, false, false, false, false, false] (by kernel_rfl) rfl rfl ⟨(zE BK345.out 0).trans rfl, (zE BK345.out 1).trans rfl, ((HB.out.cell (World.block_lt_of_cell? w _ hw362_0)).trans hw362_0)⟩ (fun hHeld => ?_); refine with_tabW items_Make.tab6 items_Make.bits6 (fun HT_ HW_ => ?_)
    generalize wc.drew = w52 at HO_25 HO_346000 HO_346001 BK338 BK345 HB hx362_0 hHeld ⊢
    refine aP 0 (some 31) (tf_ 1 10) HT_ ?_
    refine aP 2 (some 33) (tb_ 5 10) HT_ ?_
    refine aP 3 (some 34) (tb_ 13 10) HT_ ?_
    refine aP 4 (some 35) (tb_ 29 10) HT_ ?_
    refine take_ (i := 1) (N := some 32) (v := ?_) (a' := ?_) (tf_ 5 10) rfl rfl (take_ofW HT_.out HW_.out (by kernel_rfl)) (fun _ _ _ h => h) (Or.inl ⟨by rfl, ?_⟩) hHeld ?_ ?_
    rotate_left
    ·rintro w' ⟨s0, s1, s2⟩
     go_simp
     with_reducible rfl
    rotate_left
    ·simp only [Act.put, sA_, sB_, sC_, i64_w, i32_w]
     rfl
    refine take_ (i := 5) (N := some 36) (v := ?_) (a' := ?_) (tf_ 6 10) rfl rfl (take_ofW HT_.out HW_.out (by kernel_rfl)) (fun _ _ _ h => h) (Or.inl ⟨by rfl, ?_⟩) hHeld ?_ ?_
    rotate_left
    ·rintro w' ⟨s0, s1, s2⟩
     go_simp
     with_reducible rfl
    rotate_left
    ·simp only [Act.put, sA_, sB_, sC_, i64_w, i32_w]
     rfl
    refine one_ (i := 6) (N := some 37) (tb_ 127 10) rfl rfl (one_of HT_.out (by kernel_rfl)) (by decide) (fun K hK => ?_)
    refine value_ (w1 := ?_) (v := ?_) (by rfl) rfl ?_ ?_
    rotate_left 2
    ·go_simp
     constructor
     ·rfl
     rfl
    refine hK.out _ _ ⟨(zE (zB BK345.out _) 0).trans rfl, (zE (zB BK345.out _) 1).trans rfl, (World.cell?_alloc_lt _ _ _ (World.block_lt_of_cell? _ _ (((HB.out.cell (World.block_lt_of_cell? w _ hw362_0)).trans hw362_0)))).trans (((HB.out.cell (World.block_lt_of_cell? w _ hw362_0)).trans hw362_0))⟩ (fun hHeld => ?_)
    clear hK K; refine norm_ (a' := ?_) ?_ ?_
    rotate_left
    ·show Act.put _ (some 37) _ = _
     simp only [Act.put, sA_, sB_, sC_, i64_w, i32_w]; rfl
    refine one_ (i := 7) (N := some 38) (tb_ 255 10) rfl rfl (one_of HT_.out (by kernel_rfl)) (by decide) (fun K hK => ?_)
    refine Kd.R_append_step (Kd.int .u8) (w0 := w) w.heap.size (by rfl) (.tmp 32) (.tmp 37) 38 53 (.int .u8 0) 1 rfl Try.underlying38 info53 rfl (by decide) (by omega) u346001 x346001_1 (rd l2 (rd t340 x27_1)) [.int .u8 (rd l2 (rd t340 x27_1))] (fun _ => True) (fun _ => False) rfl rfl ?aP (fun _ hk => hk.elim) ?aF ?aO ?aB ?aS ?aL ?_
    (case aP => exact rfl)
    (case aB => exact (aL HB))
    (case aF => exact (fun _ _ => trivial))
    (case aO => exact (aR HO_346001))
    (case aS => exact (zF (aL HB)))
    (case aL => have := LMc51.out; omega)
    intro v364 w53 ho hb hg hat
    rw [← Ny363.out] at ho; replace HO_25 := zA.mk (Kd.R_over' (aR HO_25) (Kd.R_typed (aR HO_346001)) (by decide) hg)
    replace HO_346000 := zA.mk (Kd.R_over' (aR HO_346000) (Kd.R_typed (aR HO_346001)) (by decide) hg)
    replace BK338 := zA.mk (blk_grown (g := gb338) (o := .cells #[.slice none 0 0, .slice none 0 0] 60 (0, 0)) (aB BK338) hg (Kd.R_ne HO_346001.out BK338.out (by decide)))
    replace BK345 := zA.mk (blk_grown (g := gb345) (o := .cells #[.slice Ao9 t339.length co9, u346001] 60 (0, 0)) (aB BK345) hg (Kd.R_ne HO_346001.out BK345.out (by decide)))
    replace HB := zA.mk (hb); have HO365 := zA.mk (ho); clear HO_346001; clear ho hb hg hat; obtain ⟨Ao54, co54, eo54⟩ := Kd.zQ HO365.out; (first | subst eo54 | (injection eo54 with f1_ f2_ f3_; have f4_ := f1_.symm; have f5_ := f3_.symm; clear f1_ f2_ f3_; subst f4_; subst f5_))
    refine hK.out _ _ ⟨(zE BK345.out 0).trans rfl, (zE BK345.out 1).trans rfl, ((HB.out.cell (World.block_lt_of_cell? w _ hw362_0)).trans hw362_0)⟩ (fun hHeld => ?_)
    clear hK K; refine norm_ (a' := ?_) ?_ ?_
    rotate_left
    ·show Act.put _ (some 38) _ = _
     simp only [Act.put, sA_, sB_, sC_, i64_w, i32_w]; rfl
    refine aP 8 (some 39) (tf_ 9 10) HT_ ?_
    refine last_ (i := 9) (N := none) (tb_ 1023 10) rfl rfl (one_of HT_.out (by kernel_rfl)) (by decide) (fun K hK => ?_)
    have hs55 : w53.cell? ⟨gb345, 1, none⟩ = some (u346001) := (zE BK345.out 1).trans rfl
    have hfs55 := blk_frozen BK345.out 1; have hns55_0 := NB338_345.out; have hms55_0 := NB345_338.out; refine skip_ (w1 := ?_) (by rfl) rfl ?_ ?_
    rotate_left
    ·go_simp
     rfl
    refine hK.out _ _ ?_
    clear hK K; refine done_ (done_of HT_.out (by kernel_rfl)) ?_
    try go_wp2
    go_roundg kj24
    case measure => have := HK1.out; have := HJ24.out; omega
    case rel => exact ⟨(wrap64 (x27_1 + 1)), (y363), (.slice Ao54 y363.length co54), aZ, H', ⟨by have := HK1.out; have := HJ24.out; omega⟩, ⟨by (with_reducible repeat (first | apply Kd.zG | apply Kd.zH | apply Kd.zI)); exact Kd.zS (Kd.zP (p := ⟨gb345, 1, none⟩) (Kd.zT HO_25.out BK345.out (by decide)) (fun _ hk => hk.2) (.slice Ao54 y363.length co54)) (fun _ hk => trivial)⟩, ⟨by (with_reducible repeat (first | apply Kd.zG | apply Kd.zH | apply Kd.zI)); exact Kd.zS (Kd.zP (p := ⟨gb345, 1, none⟩) (Kd.zT HO_346000.out BK345.out (by decide)) (fun _ hk => hk.2) (.slice Ao54 y363.length co54)) (fun _ hk => trivial)⟩, ⟨by (with_reducible repeat (first | apply Kd.zG | apply Kd.zH | apply Kd.zI)); exact Kd.zS (Kd.zP (p := ⟨gb345, 1, none⟩) (Kd.zT HO365.out BK345.out (by decide)) (fun _ hk => hk.2) (.slice Ao54 y363.length co54)) (fun _ hk => trivial)⟩, ⟨by (with_reducible repeat (first | refine zD ?_ _ | refine zC ?_ | refine zB ?_ _)); refine blk_far ?_ NB338_345.out _; (with_reducible repeat (first | refine zD ?_ _ | refine zC ?_ | refine zB ?_ _)); exact BK338.out⟩, ⟨by (with_reducible repeat (first | refine zD ?_ _ | refine zC ?_ | refine zB ?_ _)); refine blk_put (cs := #[.slice Ao9 t339.length co9, u346001]) ?_ 1 _ rfl; (with_reducible repeat (first | refine zD ?_ _ | refine zC ?_ | refine zB ?_ _)); exact BK345.out⟩, ⟨aL HB⟩⟩
   rw [if_pos c37] at H; have c37b0 : decide ((rd t340 x27_1) < (l3.length : Int)) = true := decide_eq_true c37
   clear c37; obtain ⟨bq38, hbq38⟩ : ∃ b_ : Bool, b_ = (rdOf false l3 (rd t340 x27_1)) := ⟨_, rfl⟩; replace H : (if bq38 = true then (if x346001_1.length < 140737488355328 then (items_Make.l0 kj24 l0 l2 l3 t340 (t340.length : Int) (wrap64 (x27_1 + 1)) t339 (x346001_1 ++ [3])) else (none)) else (if x346001_1.length < 140737488355328 then (items_Make.l0 kj24 l0 l2 l3 t340 (t340.length : Int) (wrap64 (x27_1 + 1)) t339 (x346001_1 ++ [rd l2 (rd t340 x27_1)])) else (none))) = some (r1, r2) := by rw [← hbq38] at H; exact H
   have Nbq38 := zA.mk hbq38; clear hbq38; by_cases c39 : bq38 = true
   ·subst c39
    have H1 : (if x346001_1.length < 140737488355328 then (items_Make.l0 kj24 l0 l2 l3 t340 (t340.length : Int) (wrap64 (x27_1 + 1)) t339 (x346001_1 ++ [3])) else (none)) = some (r1, r2) := by rw [if_pos rfl] at H; exact H
    clear H; have H := H1; clear H1; by_cases c40 : x346001_1.length < 140737488355328
    rotate_left
    ·rw [if_neg c40] at H
     exact absurd H (by simp)
    rw [if_pos c40] at H; have LMc40 := zA.mk c40; clear c40; obtain ⟨y355, hy355⟩ : ∃ y_ : List Int, y_ = (x346001_1 ++ [3]) := ⟨_, rfl⟩; replace H : (items_Make.l0 kj24 l0 l2 l3 t340 (t340.length : Int) (wrap64 (x27_1 + 1)) t339 y355) = some (r1, r2) := by first | (rw [hy355]; with_reducible exact H) | (have H2_ := (Option.bind_some _ _).symm.trans H; rw [hy355]; with_reducible exact H2_) | (have H2_ := (Option.bind_some _ _).symm.trans H; with_reducible exact H2_) | with_reducible exact H | (rw [hy355]; exact H) | exact H
    have Ny355 := zA.mk hy355; clear hy355; have H' := zA.mk H
    clear H; have p353 : 0 ≤ ((rd t340 x27_1) : Int) := aD
    have q353 : (rd t340 x27_1) < (l2.length : Int) := aD
    obtain ⟨ad353, e353, hx353_0⟩ := Kd.at_int HR2.out (rd t340 x27_1) p353 q353; cases e353
    replace hx353_0 := (HB.out.cell (World.block_lt_of_cell? w _ hx353_0)).trans hx353_0; replace p353 := eq_true p353; replace q353 := eq_true q353; have p354 : 0 ≤ ((rd t340 x27_1) : Int) := aD
    have q354 : (rd t340 x27_1) < (l3.length : Int) := aD
    obtain ⟨ad354, e354, hx354_0⟩ := Kd.at_bool HR3.out (rd t340 x27_1) p354 q354; (try rw [← Nbq38.out] at hx354_0)
    cases e354
    replace hx354_0 := (HB.out.cell (World.block_lt_of_cell? w _ hx354_0)).trans hx354_0; replace p354 := eq_true p354; replace q354 := eq_true q354; have hnb41 := NB345_338.out; have hnc41 := NB338_345.out; obtain ⟨hcz42_0, hcz42_1, hfz42_0, hfz42_1⟩ := aC2 BK345; go_wp2_with (first | ((with_reducible refine gate_builtin (b := .append) (xs := #[.tmp 83, .tmp 84]) rfl ?_); (try (refine gate_guard (by rfl) ?_; dsimp only)); at_builtin; refine Kd.R_append (Kd.int .u8) (w0 := w) w.heap.size rfl (.tmp 83) (.tmp 84) 38 53 (.int .u8 0) 1 rfl Try.underlying38 info53 rfl (by decide) (by omega) u346001 x346001_1 3 [.int .u8 3] (fun _ => True) (fun _ => False) rfl rfl ?aP (fun _ hk => hk.elim) ?aF ?aO ?aB ?aS ?aL ?_; (case aP => exact rfl); (case aB => exact (aL HB)); (case aF => exact (fun _ _ => trivial)); (case aO => exact (aR HO_346001)); (case aS => exact (zF (aL HB))); (case aL => have := LMc40.out; omega); intro v356 w43 ho hb hg hat; rw [← Ny355.out] at ho; replace HO_25 := zA.mk (Kd.R_over' (aR HO_25) (Kd.R_typed (aR HO_346001)) (by decide) hg); replace HO_346000 := zA.mk (Kd.R_over' (aR HO_346000) (Kd.R_typed (aR HO_346001)) (by decide) hg); replace BK338 := zA.mk (blk_grown (g := gb338) (o := .cells #[.slice none 0 0, .slice none 0 0] 60 (0, 0)) (aB BK338) hg (Kd.R_ne HO_346001.out BK338.out (by decide))); replace BK345 := zA.mk (blk_grown (g := gb345) (o := .cells #[.slice Ao9 t339.length co9, u346001] 60 (0, 0)) (aB BK345) hg (Kd.R_ne HO_346001.out BK345.out (by decide))); replace HB := zA.mk (hb); have HO357 := zA.mk (ho); clear HO_346001; clear ho hb hg hat; obtain ⟨Ao44, co44, eo44⟩ := Kd.zQ HO357.out; subst eo44; obtain ⟨hcz45_0, hcz45_1, hfz45_0, hfz45_1⟩ := aC2 BK345))
    go_roundg kj24
    case measure => have := HK1.out; have := HJ24.out; omega
    case rel => exact ⟨(wrap64 (x27_1 + 1)), (y355), (.slice Ao44 y355.length co44), aZ, H', ⟨by have := HK1.out; have := HJ24.out; omega⟩, ⟨by (with_reducible repeat (first | apply Kd.zG | apply Kd.zH | apply Kd.zI)); exact Kd.zS (Kd.zP (p := ⟨gb345, 1, none⟩) (Kd.zT HO_25.out BK345.out (by decide)) (fun _ hk => hk.2) (.slice Ao44 y355.length co44)) (fun _ hk => trivial)⟩, ⟨by (with_reducible repeat (first | apply Kd.zG | apply Kd.zH | apply Kd.zI)); exact Kd.zS (Kd.zP (p := ⟨gb345, 1, none⟩) (Kd.zT HO_346000.out BK345.out (by decide)) (fun _ hk => hk.2) (.slice Ao44 y355.length co44)) (fun _ hk => trivial)⟩, ⟨by (with_reducible repeat (first | apply Kd.zG | apply Kd.zH | apply Kd.zI)); exact Kd.zS (Kd.zP (p := ⟨gb345, 1, none⟩) (Kd.zT HO357.out BK345.out (by decide)) (fun _ hk => hk.2) (.slice Ao44 y355.length co44)) (fun _ hk => trivial)⟩, ⟨by (with_reducible repeat (first | refine zD ?_ _ | refine zC ?_ | refine zB ?_ _)); refine blk_far ?_ NB338_345.out _; (with_reducible repeat (first | refine zD ?_ _ | refine zC ?_ | refine zB ?_ _)); exact BK338.out⟩, ⟨by (with_reducible repeat (first | refine zD ?_ _ | refine zC ?_ | refine zB ?_ _)); refine blk_put (cs := #[.slice Ao9 t339.length co9, u346001]) ?_ 1 _ rfl; (with_reducible repeat (first | refine zD ?_ _ | refine zC ?_ | refine zB ?_ _)); exact BK345.out⟩, ⟨aL HB⟩⟩
   replace c39 := Bool.eq_false_iff.mpr c39; subst c39; have H1 : (if x346001_1.length < 140737488355328 then (items_Make.l0 kj24 l0 l2 l3 t340 (t340.length : Int) (wrap64 (x27_1 + 1)) t339 (x346001_1 ++ [rd l2 (rd t340 x27_1)])) else (none)) = some (r1, r2) := by rw [if_neg (show ¬ (false = true) by decide)] at H; exact H
   clear H; have H := H1; clear H1; by_cases c46 : x346001_1.length < 140737488355328
   rotate_left
   ·rw [if_neg c46] at H
    exact absurd H (by simp)
   rw [if_pos c46] at H; have LMc46 := zA.mk c46; clear c46; obtain ⟨y359, hy359⟩ : ∃ y_ : List Int, y_ = (x346001_1 ++ [rd l2 (rd t340 x27_1)]) := ⟨_, rfl⟩; replace H : (items_Make.l0 kj24 l0 l2 l3 t340 (t340.length : Int) (wrap64 (x27_1 + 1)) t339 y359) = some (r1, r2) := by first | (rw [hy359]; with_reducible exact H) | (have H2_ := (Option.bind_some _ _).symm.trans H; rw [hy359]; with_reducible exact H2_) | (have H2_ := (Option.bind_some _ _).symm.trans H; with_reducible exact H2_) | with_reducible exact H | (rw [hy359]; exact H) | exact H
   have Ny359 := zA.mk hy359; clear hy359; have H' := zA.mk H
   clear H; have p353 : 0 ≤ ((rd t340 x27_1) : Int) := aD
   have q353 : (rd t340 x27_1) < (l2.length : Int) := aD
   obtain ⟨ad353, e353, hx353_0⟩ := Kd.at_int HR2.out (rd t340 x27_1) p353 q353; cases e353
   replace hx353_0 := (HB.out.cell (World.block_lt_of_cell? w _ hx353_0)).trans hx353_0; replace p353 := eq_true p353; replace q353 := eq_true q353; have p354 : 0 ≤ ((rd t340 x27_1) : Int) := aD
   have q354 : (rd t340 x27_1) < (l3.length : Int) := aD
   obtain ⟨ad354, e354, hx354_0⟩ := Kd.at_bool HR3.out (rd t340 x27_1) p354 q354; (try rw [← Nbq38.out] at hx354_0)
   cases e354
   replace hx354_0 := (HB.out.cell (World.block_lt_of_cell? w _ hx354_0)).trans hx354_0; replace p354 := eq_true p354; replace q354 := eq_true q354; try go_wp2
   replace HO_25 := zA.mk (Kd.zI HO_25.out); replace HO_346000 := zA.mk (Kd.zI HO_346000.out); replace HO_346001 := zA.mk (Kd.zI HO_346001.out); replace BK338 := zA.mk (zC BK338.out); replace BK345 := zA.mk (zC BK345.out); replace HB := zA.mk (below_drew1 HB.out); have p358 : 0 ≤ ((rd t340 x27_1) : Int) := aD
   have q358 : (rd t340 x27_1) < (l2.length : Int) := aD
   obtain ⟨ad358, e358, hx358_0⟩ := Kd.at_int HR2.out (rd t340 x27_1) p358 q358; have hw358_0 := hx358_0; obtain rfl : ad353 = ad358 := (by injection e358)
   replace hx358_0 := (HB.out.cell (World.block_lt_of_cell? w _ hx358_0)).trans hx358_0; replace p358 := eq_true p358; replace q358 := eq_true q358; refine start_ (n := 10) (S := fun w' => w'.cell? ⟨gb345, 0, none⟩ = some (.slice Ao9 t339.length co9) ∧ w'.cell? ⟨gb345, 1, none⟩ = some (u346001) ∧ w'.cell? (ad353.add ((rd t340 x27_1)).toNat) = some (.int .u8 (rd l2 (rd t340 x27_1)))) (ds := [9]) #[false, false, false, false, false, false, false, false, false, false] (by kernel_rfl) rfl rfl ⟨(zE BK345.out 0).trans rfl, (zE BK345.out 1).trans rfl, ((HB.out.cell (World.block_lt_of_cell? w _ hw358_0)).trans hw358_0)⟩ (fun hHeld => ?_); refine with_tabW items_Make.tab6 items_Make.bits6 (fun HT_ HW_ => ?_)
   generalize wc.drew = w47 at HO_25 HO_346000 HO_346001 BK338 BK345 HB hx358_0 hHeld ⊢
   refine aP 0 (some 31) (tf_ 1 10) HT_ ?_
   refine aP 2 (some 33) (tb_ 5 10) HT_ ?_
   refine aP 3 (some 34) (tb_ 13 10) HT_ ?_
   refine aP 4 (some 35) (tb_ 29 10) HT_ ?_
   refine take_ (i := 1) (N := some 32) (v := ?_) (a' := ?_) (tf_ 5 10) rfl rfl (take_ofW HT_.out HW_.out (by kernel_rfl)) (fun _ _ _ h => h) (Or.inl ⟨by rfl, ?_⟩) hHeld ?_ ?_
   rotate_left
   ·rintro w' ⟨s0, s1, s2⟩
    go_simp
    with_reducible rfl
   rotate_left
   ·simp only [Act.put, sA_, sB_, sC_, i64_w, i32_w]
    rfl
   refine take_ (i := 5) (N := some 36) (v := ?_) (a' := ?_) (tf_ 6 10) rfl rfl (take_ofW HT_.out HW_.out (by kernel_rfl)) (fun _ _ _ h => h) (Or.inl ⟨by rfl, ?_⟩) hHeld ?_ ?_
   rotate_left
   ·rintro w' ⟨s0, s1, s2⟩
    go_simp
    with_reducible rfl
   rotate_left
   ·simp only [Act.put, sA_, sB_, sC_, i64_w, i32_w]
    rfl
   refine one_ (i := 6) (N := some 37) (tb_ 127 10) rfl rfl (one_of HT_.out (by kernel_rfl)) (by decide) (fun K hK => ?_)
   refine value_ (w1 := ?_) (v := ?_) (by rfl) rfl ?_ ?_
   rotate_left 2
   ·go_simp
    constructor
    ·rfl
    rfl
   refine hK.out _ _ ⟨(zE (zB BK345.out _) 0).trans rfl, (zE (zB BK345.out _) 1).trans rfl, (World.cell?_alloc_lt _ _ _ (World.block_lt_of_cell? _ _ (((HB.out.cell (World.block_lt_of_cell? w _ hw358_0)).trans hw358_0)))).trans (((HB.out.cell (World.block_lt_of_cell? w _ hw358_0)).trans hw358_0))⟩ (fun hHeld => ?_)
   clear hK K; refine norm_ (a' := ?_) ?_ ?_
   rotate_left
   ·show Act.put _ (some 37) _ = _
    simp only [Act.put, sA_, sB_, sC_, i64_w, i32_w]; rfl
   refine one_ (i := 7) (N := some 38) (tb_ 255 10) rfl rfl (one_of HT_.out (by kernel_rfl)) (by decide) (fun K hK => ?_)
   refine Kd.R_append_step (Kd.int .u8) (w0 := w) w.heap.size (by rfl) (.tmp 32) (.tmp 37) 38 53 (.int .u8 0) 1 rfl Try.underlying38 info53 rfl (by decide) (by omega) u346001 x346001_1 (rd l2 (rd t340 x27_1)) [.int .u8 (rd l2 (rd t340 x27_1))] (fun _ => True) (fun _ => False) rfl rfl ?aP (fun _ hk => hk.elim) ?aF ?aO ?aB ?aS ?aL ?_
   (case aP => exact rfl)
   (case aB => exact (aL HB))
   (case aF => exact (fun _ _ => trivial))
   (case aO => exact (aR HO_346001))
   (case aS => exact (zF (aL HB)))
   (case aL => have := LMc46.out; omega)
   intro v360 w48 ho hb hg hat
   rw [← Ny359.out] at ho; replace HO_25 := zA.mk (Kd.R_over' (aR HO_25) (Kd.R_typed (aR HO_346001)) (by decide) hg)
   replace HO_346000 := zA.mk (Kd.R_over' (aR HO_346000) (Kd.R_typed (aR HO_346001)) (by decide) hg)
   replace BK338 := zA.mk (blk_grown (g := gb338) (o := .cells #[.slice none 0 0, .slice none 0 0] 60 (0, 0)) (aB BK338) hg (Kd.R_ne HO_346001.out BK338.out (by decide)))
   replace BK345 := zA.mk (blk_grown (g := gb345) (o := .cells #[.slice Ao9 t339.length co9, u346001] 60 (0, 0)) (aB BK345) hg (Kd.R_ne HO_346001.out BK345.out (by decide)))
   replace HB := zA.mk (hb); have HO361 := zA.mk (ho); clear HO_346001; clear ho hb hg hat; obtain ⟨Ao49, co49, eo49⟩ := Kd.zQ HO361.out; (first | subst eo49 | (injection eo49 with f1_ f2_ f3_; have f4_ := f1_.symm; have f5_ := f3_.symm; clear f1_ f2_ f3_; subst f4_; subst f5_))
   refine hK.out _ _ ⟨(zE BK345.out 0).trans rfl, (zE BK345.out 1).trans rfl, ((HB.out.cell (World.block_lt_of_cell? w _ hw358_0)).trans hw358_0)⟩ (fun hHeld => ?_)
   clear hK K; refine norm_ (a' := ?_) ?_ ?_
   rotate_left
   ·show Act.put _ (some 38) _ = _
    simp only [Act.put, sA_, sB_, sC_, i64_w, i32_w]; rfl
   refine aP 8 (some 39) (tf_ 9 10) HT_ ?_
   refine last_ (i := 9) (N := none) (tb_ 1023 10) rfl rfl (one_of HT_.out (by kernel_rfl)) (by decide) (fun K hK => ?_)
   have hs50 : w48.cell? ⟨gb345, 1, none⟩ = some (u346001) := (zE BK345.out 1).trans rfl
   have hfs50 := blk_frozen BK345.out 1; have hns50_0 := NB338_345.out; have hms50_0 := NB345_338.out; refine skip_ (w1 := ?_) (by rfl) rfl ?_ ?_
   rotate_left
   ·go_simp
    rfl
   refine hK.out _ _ ?_
   clear hK K; refine done_ (done_of HT_.out (by kernel_rfl)) ?_
   try go_wp2
   go_roundg kj24
   case measure => have := HK1.out; have := HJ24.out; omega
   case rel => exact ⟨(wrap64 (x27_1 + 1)), (y359), (.slice Ao49 y359.length co49), aZ, H', ⟨by have := HK1.out; have := HJ24.out; omega⟩, ⟨by (with_reducible repeat (first | apply Kd.zG | apply Kd.zH | apply Kd.zI)); exact Kd.zS (Kd.zP (p := ⟨gb345, 1, none⟩) (Kd.zT HO_25.out BK345.out (by decide)) (fun _ hk => hk.2) (.slice Ao49 y359.length co49)) (fun _ hk => trivial)⟩, ⟨by (with_reducible repeat (first | apply Kd.zG | apply Kd.zH | apply Kd.zI)); exact Kd.zS (Kd.zP (p := ⟨gb345, 1, none⟩) (Kd.zT HO_346000.out BK345.out (by decide)) (fun _ hk => hk.2) (.slice Ao49 y359.length co49)) (fun _ hk => trivial)⟩, ⟨by (with_reducible repeat (first | apply Kd.zG | apply Kd.zH | apply Kd.zI)); exact Kd.zS (Kd.zP (p := ⟨gb345, 1, none⟩) (Kd.zT HO361.out BK345.out (by decide)) (fun _ hk => hk.2) (.slice Ao49 y359.length co49)) (fun _ hk => trivial)⟩, ⟨by (with_reducible repeat (first | refine zD ?_ _ | refine zC ?_ | refine zB ?_ _)); refine blk_far ?_ NB338_345.out _; (with_reducible repeat (first | refine zD ?_ _ | refine zC ?_ | refine zB ?_ _)); exact BK338.out⟩, ⟨by (with_reducible repeat (first | refine zD ?_ _ | refine zC ?_ | refine zB ?_ _)); refine blk_put (cs := #[.slice Ao9 t339.length co9, u346001]) ?_ 1 _ rfl; (with_reducible repeat (first | refine zD ?_ _ | refine zC ?_ | refine zB ?_ _)); exact BK345.out⟩, ⟨aL HB⟩⟩
mutual
def items_Check.j0 : Nat → Bool → List (S48) → List Int → Option (Bool)
 | 0, _, _, _ => none
 | k + 1, x36, x371000, x371001 => if x36 = true then (some false) else (items_Check.l0 k 0 x371000 (x371000.length : Int) 0 x371000 x371001)
def items_Check.l0 : Nat → Int → List (S48) → Int → Int → List (S48) → List Int → Option (Bool)
 | 0, _, _, _, _, _, _ => none
 | k + 1, x3, x38, x39, x40, x371000, x371001 => if x40 < x39 then (if 0 ≤ x40 then (if x40 < (x38.length : Int) then (if ((rd_T48 x38 x40).f0) = x3 then (if ((rd_T48 x38 x40).f1) < 1 then (some false) else (if ((rd_T48 x38 x40).f1) > (wrap64 (4096 - x3)) then (some false) else (if ((rd_T48 x38 x40).f2) < 0 then (some false) else (if ((rd_T48 x38 x40).f2) > 2 then (some false) else (if ((rd_T48 x38 x40).f3) > 2 then (some false) else (if x40 < (x371001.length : Int) then (if (rd x371001 x40) > 3 then (some false) else (items_Check.l0 k (wrap64 (x3 + ((rd_T48 x38 x40).f1))) x38 x39 (wrap64 (x40 + 1)) x371000 x371001)) else (none))))))) else (some false)) else (none)) else (none)) else (some true)
end
def items_Check.f (k : Nat) (l0_0 : List (S48)) (l0_1 : List Int) : Option (Bool) := if (l0_1.length : Int) = (wrap64 ((l0_0.length : Int) + 1)) then (if 0 ≤ (l0_0.length : Int) then (if (l0_0.length : Int) < (l0_1.length : Int) then (if (rd l0_1 (l0_0.length : Int)) = 2 then (if (l0_0.length : Int) > 0 then (if 0 < (l0_1.length : Int) then (items_Check.j0 k ((rd l0_1 0) != 0) l0_0 l0_1) else (none)) else (items_Check.j0 k false l0_0 l0_1)) else (items_Check.j0 k true l0_0 l0_1)) else (none)) else (none)) else (items_Check.j0 k true l0_0 l0_1)
theorem items_Check.mono_l : ∀ k, (∀ y0 y1 y2, LeO (items_Check.j0 k y0 y1 y2) (items_Check.j0 (k + 1) y0 y1 y2)) ∧ (∀ y0 y1 y2 y3 y4 y5, LeO (items_Check.l0 k y0 y1 y2 y3 y4 y5) (items_Check.l0 (k + 1) y0 y1 y2 y3 y4 y5))
 | 0 => ⟨fun _ _ _ r h => by simp [items_Check.j0] at h, fun _ _ _ _ _ _ r h => by simp [items_Check.l0] at h⟩
 | k + 1 => by
  obtain ⟨ih0, ih1⟩ := items_Check.mono_l k; refine ⟨?_, ?_⟩
  ·intro y0 y1 y2
   unfold items_Check.j0
   repeat' (with_reducible first | exact ih0 _ _ _ | exact ih1 _ _ _ _ _ _ | exact LeO.refl _ | exact LeO.none _ | refine LeO.ite ?_ ?_ | refine LeO.bind ?_ (fun _ => ?_))
  ·intro y0 y1 y2 y3 y4 y5
   unfold items_Check.l0
   repeat' (with_reducible first | exact ih0 _ _ _ | exact ih1 _ _ _ _ _ _ | exact LeO.refl _ | exact LeO.none _ | refine LeO.ite ?_ ?_ | refine LeO.bind ?_ (fun _ => ?_))
theorem items_Check.mono : ∀ a0 a1 k, LeO (items_Check.f k a0 a1) (items_Check.f (k + 1) a0 a1) := by
 intro a0 a1 k
 obtain ⟨ih0, ih1⟩ := items_Check.mono_l k; unfold items_Check.f
 repeat' (with_reducible first | exact ih0 _ _ _ | exact ih1 _ _ _ _ _ _ | exact LeO.refl _ | exact LeO.none _ | refine LeO.ite ?_ ?_ | refine LeO.bind ?_ (fun _ => ?_))
set_option maxHeartbeats 8000000 in
set_option maxRecDepth 100000 in
theorem items_Check.calls (k : Nat) (A0_0 : Option Addr) (c0_0 : Nat) (l0_0 : List (S48)) (A0_1 : Option Addr) (c0_1 : Nat) (l0_1 : List Int) (r : Bool) (w : World) (hr0_0 : Kd.C k48 w A0_0 l0_0.length l0_0) (hc0_0 : l0_0.length ≤ c0_0) (hr0_1 : Kd.C (Kd.int .u8) w A0_1 l0_1.length l0_1) (hc0_1 : l0_1.length ≤ c0_1) (h : items_Check.f k l0_0 l0_1 = some r) :
  Calls Try.prog 28 #[.agg #[.slice A0_0 l0_0.length c0_0, .slice A0_1 l0_1.length c0_1]] w fun e w' => e = .returned (.bool r) ∧ Below w.heap.size w w' := by
 have hu60 := Try.underlying60; have hu48 := Try.underlying48; have HR0_0 := zA.mk hr0_0; have HC0_0 := zA.mk hc0_0; clear hr0_0 hc0_0; have HR0_1 := zA.mk hr0_1; have HC0_1 := zA.mk hc0_1; clear hr0_1 hc0_1; have HB := zA.mk (Below.refl w.heap.size w); have H : (if (l0_1.length : Int) = (wrap64 ((l0_0.length : Int) + 1)) then (if 0 ≤ (l0_0.length : Int) then (if (l0_0.length : Int) < (l0_1.length : Int) then (if (rd l0_1 (l0_0.length : Int)) = 2 then (if (l0_0.length : Int) > 0 then (if 0 < (l0_1.length : Int) then (items_Check.j0 k ((rd l0_1 0) != 0) l0_0 l0_1) else (none)) else (items_Check.j0 k false l0_0 l0_1)) else (items_Check.j0 k true l0_0 l0_1)) else (none)) else (none)) else (items_Check.j0 k true l0_0 l0_1)) = some r := h
 clear h; have HC2 := zA.mk H; clear H; go_enter Try.func28, Try.ntmps28
 go_upto_region 1 with (first | ((with_reducible refine gate_dst (N := 1) rfl ?_); (try (refine gate_guard (by rfl) ?_; dsimp only)); refine box_event ?hg (N := 1) ?hd (cs := #[.slice A0_0 l0_0.length c0_0, .slice A0_1 l0_1.length c0_1]) (t := 60) ?hr ?_; (case hd => rfl); (case hg => rfl); (case hr => first | (go_simp; done) | (go_simp; rfl)); intro gb370 hg w3 hbox hb; have BK370 := zA.mk (hbox); have GW370 := zA.mk ((by rw [hg]; exact (zF (aL HB)) : w.heap.size ≤ gb370)); replace HB := zA.mk (below_step (aL HB) hb); have GE370 := GW370; clear hb hbox hg))
 (try simp only [Act.put, sA_, sB_, sC_])
 go_cut [36] (fun v36 wc => ∃ (kq : Nat) (x36_1 : Bool), v36 = .bool x36_1 ∧ zA (items_Check.j0 kq x36_1 l0_0 l0_1 = some r) ∧ zA (kq ≤ k) ∧ zA (wc.heap[gb370]? = some (.cells #[(.slice A0_0 l0_0.length c0_0), (.slice A0_1 l0_1.length c0_1)] 60 (0, 0))) ∧ zA (Below w.heap.size w wc))
 case first =>
  have H := HC2.out; clear HC2; by_cases c4 : (l0_1.length : Int) = (wrap64 ((l0_0.length : Int) + 1))
  rotate_left
  ·rw [if_neg c4] at H
   have c4b0 : ((l0_1.length : Int) == (wrap64 ((l0_0.length : Int) + 1))) = false := beq_eq_false_iff_ne.mpr c4
   have c4b1 : ((l0_1.length : Int) != (wrap64 ((l0_0.length : Int) + 1))) = true := bne_iff_ne.mpr c4
   (first | rw [c4b0] | (simp only [i64_w, i32_w]; rw [c4b0]) | skip)
   have H' := zA.mk H
   clear H; obtain ⟨hcz13_0, hcz13_1, hfz13_0, hfz13_1⟩ := aC2 BK370; go_wp2
   go_meet
   case rel => exact ⟨_, (true), aZ, H', ⟨by first | omega | exact Nat.le_refl _⟩, ⟨aB BK370⟩, ⟨aL HB⟩⟩
  rw [if_pos c4] at H; have c4b0 : ((l0_1.length : Int) == (wrap64 ((l0_0.length : Int) + 1))) = true := beq_iff_eq.mpr c4
  have c4b1 : ((l0_1.length : Int) != (wrap64 ((l0_0.length : Int) + 1))) = false := bne_eq_false_iff_eq.mpr c4
  clear c4; (first | rw [c4b0] | (simp only [i64_w, i32_w]; rw [c4b0]) | skip)
  by_cases c5 : 0 ≤ (l0_0.length : Int)
  rotate_left
  ·rw [if_neg c5] at H
   exact absurd H (by simp)
  rw [if_pos c5] at H; have c5b0 : decide (0 ≤ (l0_0.length : Int)) = true := decide_eq_true c5
  have c5b1 : decide (0 ≤ l0_0.length) = true := decide_eq_true (by omega)
  clear c5; by_cases c6 : (l0_0.length : Int) < (l0_1.length : Int)
  rotate_left
  ·rw [if_neg c6] at H
   exact absurd H (by simp)
  rw [if_pos c6] at H; have c6b0 : decide ((l0_0.length : Int) < (l0_1.length : Int)) = true := decide_eq_true c6
  have c6b1 : decide (l0_0.length < l0_1.length) = true := decide_eq_true (Int.ofNat_lt.mp c6)
  clear c6; by_cases c7 : (rd l0_1 (l0_0.length : Int)) = 2
  rotate_left
  ·rw [if_neg c7] at H
   have c7b0 : ((rd l0_1 (l0_0.length : Int)) == 2) = false := beq_eq_false_iff_ne.mpr c7
   have c7b1 : ((rd l0_1 (l0_0.length : Int)) != 2) = true := bne_iff_ne.mpr c7
   have H' := zA.mk H
   clear H; obtain ⟨hcz12_0, hcz12_1, hfz12_0, hfz12_1⟩ := aC2 BK370; have p371 : 0 ≤ ((l0_0.length : Int) : Int) := aD
   have q371 : (l0_0.length : Int) < (l0_1.length : Int) := aD
   obtain ⟨ad371, e371, hx371_0⟩ := Kd.at_int HR0_1.out (l0_0.length : Int) p371 q371; cases e371
   replace hx371_0 := (HB.out.cell (World.block_lt_of_cell? w _ hx371_0)).trans hx371_0; (try simp only [Go.IntWalk.toNatUp] at hx371_0)
   replace p371 := eq_true p371; replace q371 := eq_true q371; go_wp2
   go_meet
   case rel => exact ⟨_, (true), aZ, H', ⟨by first | omega | exact Nat.le_refl _⟩, ⟨aB BK370⟩, ⟨aL HB⟩⟩
  rw [if_pos c7] at H; have c7b0 : ((rd l0_1 (l0_0.length : Int)) == 2) = true := beq_iff_eq.mpr c7
  have c7b1 : ((rd l0_1 (l0_0.length : Int)) != 2) = false := bne_eq_false_iff_eq.mpr c7
  clear c7; by_cases c8 : (l0_0.length : Int) > 0
  rotate_left
  ·rw [if_neg c8] at H
   have c8b0 : decide (0 < (l0_0.length : Int)) = false := decide_eq_false c8
   have c8b1 : decide (0 < l0_0.length) = false := decide_eq_false (by omega)
   clear c8; have H' := zA.mk H
   clear H; obtain ⟨hcz11_0, hcz11_1, hfz11_0, hfz11_1⟩ := aC2 BK370; have p371 : 0 ≤ ((l0_0.length : Int) : Int) := aD
   have q371 : (l0_0.length : Int) < (l0_1.length : Int) := aD
   obtain ⟨ad371, e371, hx371_0⟩ := Kd.at_int HR0_1.out (l0_0.length : Int) p371 q371; cases e371
   replace hx371_0 := (HB.out.cell (World.block_lt_of_cell? w _ hx371_0)).trans hx371_0; (try simp only [Go.IntWalk.toNatUp] at hx371_0)
   replace p371 := eq_true p371; replace q371 := eq_true q371; go_wp2
   go_meet
   case rel => exact ⟨_, (false), aZ, H', ⟨by first | omega | exact Nat.le_refl _⟩, ⟨aB BK370⟩, ⟨aL HB⟩⟩
  rw [if_pos c8] at H; have c8b0 : decide (0 < (l0_0.length : Int)) = true := decide_eq_true c8
  have c8b1 : decide (0 < l0_0.length) = true := decide_eq_true (by omega)
  clear c8; by_cases c9 : 0 < (l0_1.length : Int)
  rotate_left
  ·rw [if_neg c9] at H
   exact absurd H (by simp)
  rw [if_pos c9] at H; have c9b0 : decide (0 < (l0_1.length : Int)) = true := decide_eq_true c9
  have c9b1 : decide (0 < l0_1.length) = true := decide_eq_true (by omega)
  clear c9; have H' := zA.mk H
  clear H; obtain ⟨hcz10_0, hcz10_1, hfz10_0, hfz10_1⟩ := aC2 BK370; have p371 : 0 ≤ ((l0_0.length : Int) : Int) := aD
  have q371 : (l0_0.length : Int) < (l0_1.length : Int) := aD
  obtain ⟨ad371, e371, hx371_0⟩ := Kd.at_int HR0_1.out (l0_0.length : Int) p371 q371; cases e371
  replace hx371_0 := (HB.out.cell (World.block_lt_of_cell? w _ hx371_0)).trans hx371_0; (try simp only [Go.IntWalk.toNatUp] at hx371_0)
  replace p371 := eq_true p371; replace q371 := eq_true q371; have p372 : 0 ≤ (0 : Int) := (by omega)
  have q372 : 0 < (l0_1.length : Int) := aD
  obtain ⟨ad372, e372, hx372_0⟩ := Kd.at_int HR0_1.out 0 p372 q372; obtain rfl : ad371 = ad372 := (by injection e372)
  have qi372 : (0 < l0_1.length) = True := eq_true (by omega)
  (try rw [show ((0 : Int)).toNat = 0 from rfl] at hx372_0)
  (try rw [Addr.add_zero'] at hx372_0)
  replace hx372_0 := (HB.out.cell (World.block_lt_of_cell? w _ hx372_0)).trans hx372_0; replace p372 := eq_true p372; replace q372 := eq_true q372; go_wp2
  go_meet
  case rel => exact ⟨_, (((rd l0_1 0) != 0)), aZ, H', ⟨by first | omega | exact Nat.le_refl _⟩, ⟨aB BK370⟩, ⟨aL HB⟩⟩
 clear HC2; obtain ⟨kq, x36_1, rfl, HA, HJ1, BK370, HB⟩ := hcut; cases kq with
 | zero => exact absurd HA.out (by simp [items_Check.j0])
 | succ kj1 =>
  have H := HA.out; clear HA; simp only [items_Check.j0] at H; by_cases c14 : x36_1 = true
  ·subst c14
   have H1 : (some false) = some r := by rw [if_pos rfl] at H; exact H
   clear H; have H := H1; clear H1; obtain rfl := Option.some.inj H
   go_wp2
   go_ret
   exact ⟨aX, aL HB⟩
  replace c14 := Bool.eq_false_iff.mpr c14; subst c14; have H1 : (items_Check.l0 kj1 0 l0_0 (l0_0.length : Int) 0 l0_0 l0_1) = some r := by rw [if_neg (show ¬ (false = true) by decide)] at H; exact H
  clear H; have H := H1; clear H1; have H' := zA.mk H
  clear H; obtain ⟨hcz15_0, hcz15_1, hfz15_0, hfz15_1⟩ := aC2 BK370; go_wp2
  go_loopg [3, 40] kj1 (fun kq v3 v40 w' => ∃ (x3_2 : Int) (x40_2 : Int), v3 = .int .i64 x3_2 ∧ v40 = .int .i64 x40_2 ∧ zA (items_Check.l0 kq x3_2 l0_0 (l0_0.length : Int) x40_2 l0_0 l0_1 = some r) ∧ zA (kq ≤ kj1) ∧ zA (w'.heap[gb370]? = some (.cells #[(.slice A0_0 l0_0.length c0_0), (.slice A0_1 l0_1.length c0_1)] 60 (0, 0))) ∧ zA (Below w.heap.size w w'))
  case atStart => exact ⟨(0), (0), aZ, aZ, H', ⟨Nat.le_refl _⟩, ⟨aB BK370⟩, ⟨aL HB⟩⟩
  clear H'; obtain ⟨x3_2, x40_2, rfl, rfl, HA, HK2, BK370, HB⟩ := hrel; cases gk with
  | zero => exact absurd HA.out (by simp [items_Check.l0])
  | succ k2 =>
   have H := HA.out; clear HA; simp only [items_Check.l0] at H; by_cases c16 : x40_2 < (l0_0.length : Int)
   rotate_left
   ·rw [if_neg c16] at H
    have c16b0 : decide (x40_2 < (l0_0.length : Int)) = false := decide_eq_false c16
    clear c16; obtain rfl := Option.some.inj H
    go_wp2
    go_ret
    exact ⟨aX, aL HB⟩
   rw [if_pos c16] at H; have c16b0 : decide (x40_2 < (l0_0.length : Int)) = true := decide_eq_true c16
   clear c16; by_cases c17 : 0 ≤ x40_2
   rotate_left
   ·rw [if_neg c17] at H
    exact absurd H (by simp)
   rw [if_pos c17] at H; have c17b0 : decide (0 ≤ x40_2) = true := decide_eq_true c17
   clear c17; by_cases c18 : x40_2 < (l0_0.length : Int)
   rotate_left
   ·rw [if_neg c18] at H
    exact absurd H (by simp)
   rw [if_pos c18] at H; have c18b0 : decide (x40_2 < (l0_0.length : Int)) = true := decide_eq_true c18
   clear c18; by_cases c19 : ((rd_T48 l0_0 x40_2).f0) = x3_2
   rotate_left
   ·rw [if_neg c19] at H
    have c19b0 : (((rd_T48 l0_0 x40_2).f0) == x3_2) = false := beq_eq_false_iff_ne.mpr c19
    have c19b1 : (((rd_T48 l0_0 x40_2).f0) != x3_2) = true := bne_iff_ne.mpr c19
    obtain rfl := Option.some.inj H
    have p373 : 0 ≤ (x40_2 : Int) := aD
    have q373 : x40_2 < (l0_0.length : Int) := aD
    obtain ⟨ad373, e373, hx373_0, hx373_1, hx373_2, hx373_3⟩ := at_T48 HR0_0.out x40_2 p373 q373; cases e373
    replace hx373_0 := (HB.out.cell (World.block_lt_of_cell? w _ hx373_0)).trans hx373_0; replace hx373_1 := (HB.out.cell (World.block_lt_of_cell? w _ hx373_1)).trans hx373_1; replace hx373_2 := (HB.out.cell (World.block_lt_of_cell? w _ hx373_2)).trans hx373_2; replace hx373_3 := (HB.out.cell (World.block_lt_of_cell? w _ hx373_3)).trans hx373_3; replace p373 := eq_true p373; replace q373 := eq_true q373; go_wp2_with (first | ((with_reducible refine gate_dst (N := 5) rfl ?_); (try (refine gate_guard (by rfl) ?_; dsimp only)); refine box_event ?hg (N := 5) ?hd (cs := #[.int .i64 0, .int .i64 0, .int .i64 0, .int .u8 0]) (t := 48) ?hr ?_; (case hd => rfl); (case hg => rfl); (case hr => first | (go_simp; done) | (go_simp; rfl)); intro gb374 hg w64 hbox hb; have BK374 := zA.mk (hbox); have GW374 := zA.mk ((by rw [hg]; exact (zF (aL HB)) : w.heap.size ≤ gb374)); replace HB := zA.mk (below_step (aL HB) hb); have GE374 := GW374; have NB370_374 := zA.mk ((by rw [hg]; exact Nat.ne_of_lt (blk_lt (aB BK370)) : gb370 ≠ gb374)); have NB374_370 := zA.mk ((by rw [hg]; exact Nat.ne_of_gt (blk_lt (g := gb370) (o := .cells #[.slice (some ad373) l0_0.length c0_0, .slice A0_1 l0_1.length c0_1] 60 (0, 0)) (aB BK370)) : gb374 ≠ gb370)); replace BK370 := zA.mk (blk_below (aB BK370) hb); clear hb hbox hg; have hnb65 := NB374_370.out; have hnc65 := NB370_374.out; obtain ⟨hcz66_0, hcz66_1, hcz66_2, hcz66_3, hfz66_0, hfz66_1, hfz66_2, hfz66_3⟩ := aC4 BK374) | ((with_reducible refine gate_store (t := 48) (p := 5) rfl ?_); refine store_event (t := 48) (p := 5) (v := ?vo_w67) (w1 := ((((w64.setCell ⟨gb374, 0, none⟩ (.int .i64 ((rd_T48 l0_0 x40_2).f0))).setCell ⟨gb374, 1, none⟩ (.int .i64 ((rd_T48 l0_0 x40_2).f1))).setCell ⟨gb374, 2, none⟩ (.int .i64 ((rd_T48 l0_0 x40_2).f2))).setCell ⟨gb374, 3, none⟩ (.int .u8 ((rd_T48 l0_0 x40_2).f3)))) ?hg ?ho ?hn ?hr ?_; (case ho => rfl); (case hg => rfl); (case hn => rfl); (case hr => first | (go_simp; done) | (go_simp; rfl)); intro w67 hw; have n0_ : zA (w67.heap[gb370]? = some (.cells #[.slice (some ad373) l0_0.length c0_0, .slice A0_1 l0_1.length c0_1] 60 (0, 0))) := ⟨(by rw [hw]; exact (aB BK370))⟩; have n1_ : zA (w67.heap[gb374]? = some (.cells #[.int .i64 ((rd_T48 l0_0 x40_2).f0), .int .i64 ((rd_T48 l0_0 x40_2).f1), .int .i64 ((rd_T48 l0_0 x40_2).f2), .int .u8 ((rd_T48 l0_0 x40_2).f3)] 48 (0, 0))) := ⟨(by rw [hw]; exact (by (with_reducible repeat (first | refine zD ?_ _ | refine zC ?_ | refine zB ?_ _)); refine blk_put (cs := #[.int .i64 ((rd_T48 l0_0 x40_2).f0), .int .i64 ((rd_T48 l0_0 x40_2).f1), .int .i64 ((rd_T48 l0_0 x40_2).f2), .int .u8 0]) ?_ 3 _ rfl; (with_reducible repeat (first | refine zD ?_ _ | refine zC ?_ | refine zB ?_ _)); refine blk_put (cs := #[.int .i64 ((rd_T48 l0_0 x40_2).f0), .int .i64 ((rd_T48 l0_0 x40_2).f1), .int .i64 0, .int .u8 0]) ?_ 2 _ rfl; (with_reducible repeat (first | refine zD ?_ _ | refine zC ?_ | refine zB ?_ _)); refine blk_put (cs := #[.int .i64 ((rd_T48 l0_0 x40_2).f0), .int .i64 0, .int .i64 0, .int .u8 0]) ?_ 1 _ rfl; (with_reducible repeat (first | refine zD ?_ _ | refine zC ?_ | refine zB ?_ _)); refine blk_put (cs := #[.int .i64 0, .int .i64 0, .int .i64 0, .int .u8 0]) ?_ 0 _ rfl; (with_reducible repeat (first | refine zD ?_ _ | refine zC ?_ | refine zB ?_ _)); exact BK374.out))⟩; have n2_ : zA (Below w.heap.size w w67) := ⟨(by rw [hw]; exact (aL HB))⟩; clear hw; clear BK370; clear BK374; clear HB; have BK370 := n0_; have BK374 := n1_; have HB := n2_; clear n0_ n1_ n2_; obtain ⟨hcz68_0, hcz68_1, hcz68_2, hcz68_3, hfz68_0, hfz68_1, hfz68_2, hfz68_3⟩ := aC4 BK374))
    go_ret
    exact ⟨aX, aL HB⟩
   rw [if_pos c19] at H; have c19b0 : (((rd_T48 l0_0 x40_2).f0) == x3_2) = true := beq_iff_eq.mpr c19
   have c19b1 : (((rd_T48 l0_0 x40_2).f0) != x3_2) = false := bne_eq_false_iff_eq.mpr c19
   clear c19; by_cases c20 : ((rd_T48 l0_0 x40_2).f1) < 1
   ·rw [if_pos c20] at H
    have c20b0 : decide (((rd_T48 l0_0 x40_2).f1) < 1) = true := decide_eq_true c20
    clear c20; obtain rfl := Option.some.inj H
    have p373 : 0 ≤ (x40_2 : Int) := aD
    have q373 : x40_2 < (l0_0.length : Int) := aD
    obtain ⟨ad373, e373, hx373_0, hx373_1, hx373_2, hx373_3⟩ := at_T48 HR0_0.out x40_2 p373 q373; cases e373
    replace hx373_0 := (HB.out.cell (World.block_lt_of_cell? w _ hx373_0)).trans hx373_0; replace hx373_1 := (HB.out.cell (World.block_lt_of_cell? w _ hx373_1)).trans hx373_1; replace hx373_2 := (HB.out.cell (World.block_lt_of_cell? w _ hx373_2)).trans hx373_2; replace hx373_3 := (HB.out.cell (World.block_lt_of_cell? w _ hx373_3)).trans hx373_3; replace p373 := eq_true p373; replace q373 := eq_true q373; go_wp2_with (first | ((with_reducible refine gate_dst (N := 5) rfl ?_); (try (refine gate_guard (by rfl) ?_; dsimp only)); refine box_event ?hg (N := 5) ?hd (cs := #[.int .i64 0, .int .i64 0, .int .i64 0, .int .u8 0]) (t := 48) ?hr ?_; (case hd => rfl); (case hg => rfl); (case hr => first | (go_simp; done) | (go_simp; rfl)); intro gb374 hg w21 hbox hb; have BK374 := zA.mk (hbox); have GW374 := zA.mk ((by rw [hg]; exact (zF (aL HB)) : w.heap.size ≤ gb374)); replace HB := zA.mk (below_step (aL HB) hb); have GE374 := GW374; have NB370_374 := zA.mk ((by rw [hg]; exact Nat.ne_of_lt (blk_lt (aB BK370)) : gb370 ≠ gb374)); have NB374_370 := zA.mk ((by rw [hg]; exact Nat.ne_of_gt (blk_lt (g := gb370) (o := .cells #[.slice (some ad373) l0_0.length c0_0, .slice A0_1 l0_1.length c0_1] 60 (0, 0)) (aB BK370)) : gb374 ≠ gb370)); replace BK370 := zA.mk (blk_below (aB BK370) hb); clear hb hbox hg; have hnb22 := NB374_370.out; have hnc22 := NB370_374.out; obtain ⟨hcz23_0, hcz23_1, hcz23_2, hcz23_3, hfz23_0, hfz23_1, hfz23_2, hfz23_3⟩ := aC4 BK374) | ((with_reducible refine gate_store (t := 48) (p := 5) rfl ?_); refine store_event (t := 48) (p := 5) (v := ?vo_w24) (w1 := ((((w21.setCell ⟨gb374, 0, none⟩ (.int .i64 ((rd_T48 l0_0 x40_2).f0))).setCell ⟨gb374, 1, none⟩ (.int .i64 ((rd_T48 l0_0 x40_2).f1))).setCell ⟨gb374, 2, none⟩ (.int .i64 ((rd_T48 l0_0 x40_2).f2))).setCell ⟨gb374, 3, none⟩ (.int .u8 ((rd_T48 l0_0 x40_2).f3)))) ?hg ?ho ?hn ?hr ?_; (case ho => rfl); (case hg => rfl); (case hn => rfl); (case hr => first | (go_simp; done) | (go_simp; rfl)); intro w24 hw; have n0_ : zA (w24.heap[gb370]? = some (.cells #[.slice (some ad373) l0_0.length c0_0, .slice A0_1 l0_1.length c0_1] 60 (0, 0))) := ⟨(by rw [hw]; exact (aB BK370))⟩; have n1_ : zA (w24.heap[gb374]? = some (.cells #[.int .i64 ((rd_T48 l0_0 x40_2).f0), .int .i64 ((rd_T48 l0_0 x40_2).f1), .int .i64 ((rd_T48 l0_0 x40_2).f2), .int .u8 ((rd_T48 l0_0 x40_2).f3)] 48 (0, 0))) := ⟨(by rw [hw]; exact (by (with_reducible repeat (first | refine zD ?_ _ | refine zC ?_ | refine zB ?_ _)); refine blk_put (cs := #[.int .i64 ((rd_T48 l0_0 x40_2).f0), .int .i64 ((rd_T48 l0_0 x40_2).f1), .int .i64 ((rd_T48 l0_0 x40_2).f2), .int .u8 0]) ?_ 3 _ rfl; (with_reducible repeat (first | refine zD ?_ _ | refine zC ?_ | refine zB ?_ _)); refine blk_put (cs := #[.int .i64 ((rd_T48 l0_0 x40_2).f0), .int .i64 ((rd_T48 l0_0 x40_2).f1), .int .i64 0, .int .u8 0]) ?_ 2 _ rfl; (with_reducible repeat (first | refine zD ?_ _ | refine zC ?_ | refine zB ?_ _)); refine blk_put (cs := #[.int .i64 ((rd_T48 l0_0 x40_2).f0), .int .i64 0, .int .i64 0, .int .u8 0]) ?_ 1 _ rfl; (with_reducible repeat (first | refine zD ?_ _ | refine zC ?_ | refine zB ?_ _)); refine blk_put (cs := #[.int .i64 0, .int .i64 0, .int .i64 0, .int .u8 0]) ?_ 0 _ rfl; (with_reducible repeat (first | refine zD ?_ _ | refine zC ?_ | refine zB ?_ _)); exact BK374.out))⟩; have n2_ : zA (Below w.heap.size w w24) := ⟨(by rw [hw]; exact (aL HB))⟩; clear hw; clear BK370; clear BK374; clear HB; have BK370 := n0_; have BK374 := n1_; have HB := n2_; clear n0_ n1_ n2_; obtain ⟨hcz25_0, hcz25_1, hcz25_2, hcz25_3, hfz25_0, hfz25_1, hfz25_2, hfz25_3⟩ := aC4 BK374))
    go_ret
    exact ⟨aX, aL HB⟩
   rw [if_neg c20] at H; have c20b0 : decide (((rd_T48 l0_0 x40_2).f1) < 1) = false := decide_eq_false c20
   clear c20; by_cases c26 : ((rd_T48 l0_0 x40_2).f1) > (wrap64 (4096 - x3_2))
   ·rw [if_pos c26] at H
    have c26b0 : decide ((wrap64 (4096 - x3_2)) < ((rd_T48 l0_0 x40_2).f1)) = true := decide_eq_true c26
    clear c26; obtain rfl := Option.some.inj H
    have p373 : 0 ≤ (x40_2 : Int) := aD
    have q373 : x40_2 < (l0_0.length : Int) := aD
    obtain ⟨ad373, e373, hx373_0, hx373_1, hx373_2, hx373_3⟩ := at_T48 HR0_0.out x40_2 p373 q373; cases e373
    replace hx373_0 := (HB.out.cell (World.block_lt_of_cell? w _ hx373_0)).trans hx373_0; replace hx373_1 := (HB.out.cell (World.block_lt_of_cell? w _ hx373_1)).trans hx373_1; replace hx373_2 := (HB.out.cell (World.block_lt_of_cell? w _ hx373_2)).trans hx373_2; replace hx373_3 := (HB.out.cell (World.block_lt_of_cell? w _ hx373_3)).trans hx373_3; replace p373 := eq_true p373; replace q373 := eq_true q373; go_wp2_with (first | ((with_reducible refine gate_dst (N := 5) rfl ?_); (try (refine gate_guard (by rfl) ?_; dsimp only)); refine box_event ?hg (N := 5) ?hd (cs := #[.int .i64 0, .int .i64 0, .int .i64 0, .int .u8 0]) (t := 48) ?hr ?_; (case hd => rfl); (case hg => rfl); (case hr => first | (go_simp; done) | (go_simp; rfl)); intro gb374 hg w27 hbox hb; have BK374 := zA.mk (hbox); have GW374 := zA.mk ((by rw [hg]; exact (zF (aL HB)) : w.heap.size ≤ gb374)); replace HB := zA.mk (below_step (aL HB) hb); have GE374 := GW374; have NB370_374 := zA.mk ((by rw [hg]; exact Nat.ne_of_lt (blk_lt (aB BK370)) : gb370 ≠ gb374)); have NB374_370 := zA.mk ((by rw [hg]; exact Nat.ne_of_gt (blk_lt (g := gb370) (o := .cells #[.slice (some ad373) l0_0.length c0_0, .slice A0_1 l0_1.length c0_1] 60 (0, 0)) (aB BK370)) : gb374 ≠ gb370)); replace BK370 := zA.mk (blk_below (aB BK370) hb); clear hb hbox hg; have hnb28 := NB374_370.out; have hnc28 := NB370_374.out; obtain ⟨hcz29_0, hcz29_1, hcz29_2, hcz29_3, hfz29_0, hfz29_1, hfz29_2, hfz29_3⟩ := aC4 BK374) | ((with_reducible refine gate_store (t := 48) (p := 5) rfl ?_); refine store_event (t := 48) (p := 5) (v := ?vo_w30) (w1 := ((((w27.setCell ⟨gb374, 0, none⟩ (.int .i64 ((rd_T48 l0_0 x40_2).f0))).setCell ⟨gb374, 1, none⟩ (.int .i64 ((rd_T48 l0_0 x40_2).f1))).setCell ⟨gb374, 2, none⟩ (.int .i64 ((rd_T48 l0_0 x40_2).f2))).setCell ⟨gb374, 3, none⟩ (.int .u8 ((rd_T48 l0_0 x40_2).f3)))) ?hg ?ho ?hn ?hr ?_; (case ho => rfl); (case hg => rfl); (case hn => rfl); (case hr => first | (go_simp; done) | (go_simp; rfl)); intro w30 hw; have n0_ : zA (w30.heap[gb370]? = some (.cells #[.slice (some ad373) l0_0.length c0_0, .slice A0_1 l0_1.length c0_1] 60 (0, 0))) := ⟨(by rw [hw]; exact (aB BK370))⟩; have n1_ : zA (w30.heap[gb374]? = some (.cells #[.int .i64 ((rd_T48 l0_0 x40_2).f0), .int .i64 ((rd_T48 l0_0 x40_2).f1), .int .i64 ((rd_T48 l0_0 x40_2).f2), .int .u8 ((rd_T48 l0_0 x40_2).f3)] 48 (0, 0))) := ⟨(by rw [hw]; exact (by (with_reducible repeat (first | refine zD ?_ _ | refine zC ?_ | refine zB ?_ _)); refine blk_put (cs := #[.int .i64 ((rd_T48 l0_0 x40_2).f0), .int .i64 ((rd_T48 l0_0 x40_2).f1), .int .i64 ((rd_T48 l0_0 x40_2).f2), .int .u8 0]) ?_ 3 _ rfl; (with_reducible repeat (first | refine zD ?_ _ | refine zC ?_ | refine zB ?_ _)); refine blk_put (cs := #[.int .i64 ((rd_T48 l0_0 x40_2).f0), .int .i64 ((rd_T48 l0_0 x40_2).f1), .int .i64 0, .int .u8 0]) ?_ 2 _ rfl; (with_reducible repeat (first | refine zD ?_ _ | refine zC ?_ | refine zB ?_ _)); refine blk_put (cs := #[.int .i64 ((rd_T48 l0_0 x40_2).f0), .int .i64 0, .int .i64 0, .int .u8 0]) ?_ 1 _ rfl; (with_reducible repeat (first | refine zD ?_ _ | refine zC ?_ | refine zB ?_ _)); refine blk_put (cs := #[.int .i64 0, .int .i64 0, .int .i64 0, .int .u8 0]) ?_ 0 _ rfl; (with_reducible repeat (first | refine zD ?_ _ | refine zC ?_ | refine zB ?_ _)); exact BK374.out))⟩; have n2_ : zA (Below w.heap.size w w30) := ⟨(by rw [hw]; exact (aL HB))⟩; clear hw; clear BK370; clear BK374; clear HB; have BK370 := n0_; have BK374 := n1_; have HB := n2_; clear n0_ n1_ n2_; obtain ⟨hcz31_0, hcz31_1, hcz31_2, hcz31_3, hfz31_0, hfz31_1, hfz31_2, hfz31_3⟩ := aC4 BK374))
    go_ret
    exact ⟨aX, aL HB⟩
   rw [if_neg c26] at H; have c26b0 : decide ((wrap64 (4096 - x3_2)) < ((rd_T48 l0_0 x40_2).f1)) = false := decide_eq_false c26
   clear c26; by_cases c32 : ((rd_T48 l0_0 x40_2).f2) < 0
   ·rw [if_pos c32] at H
    have c32b0 : decide (((rd_T48 l0_0 x40_2).f2) < 0) = true := decide_eq_true c32
    clear c32; obtain rfl := Option.some.inj H
    have p373 : 0 ≤ (x40_2 : Int) := aD
    have q373 : x40_2 < (l0_0.length : Int) := aD
    obtain ⟨ad373, e373, hx373_0, hx373_1, hx373_2, hx373_3⟩ := at_T48 HR0_0.out x40_2 p373 q373; cases e373
    replace hx373_0 := (HB.out.cell (World.block_lt_of_cell? w _ hx373_0)).trans hx373_0; replace hx373_1 := (HB.out.cell (World.block_lt_of_cell? w _ hx373_1)).trans hx373_1; replace hx373_2 := (HB.out.cell (World.block_lt_of_cell? w _ hx373_2)).trans hx373_2; replace hx373_3 := (HB.out.cell (World.block_lt_of_cell? w _ hx373_3)).trans hx373_3; replace p373 := eq_true p373; replace q373 := eq_true q373; go_wp2_with (first | ((with_reducible refine gate_dst (N := 5) rfl ?_); (try (refine gate_guard (by rfl) ?_; dsimp only)); refine box_event ?hg (N := 5) ?hd (cs := #[.int .i64 0, .int .i64 0, .int .i64 0, .int .u8 0]) (t := 48) ?hr ?_; (case hd => rfl); (case hg => rfl); (case hr => first | (go_simp; done) | (go_simp; rfl)); intro gb374 hg w33 hbox hb; have BK374 := zA.mk (hbox); have GW374 := zA.mk ((by rw [hg]; exact (zF (aL HB)) : w.heap.size ≤ gb374)); replace HB := zA.mk (below_step (aL HB) hb); have GE374 := GW374; have NB370_374 := zA.mk ((by rw [hg]; exact Nat.ne_of_lt (blk_lt (aB BK370)) : gb370 ≠ gb374)); have NB374_370 := zA.mk ((by rw [hg]; exact Nat.ne_of_gt (blk_lt (g := gb370) (o := .cells #[.slice (some ad373) l0_0.length c0_0, .slice A0_1 l0_1.length c0_1] 60 (0, 0)) (aB BK370)) : gb374 ≠ gb370)); replace BK370 := zA.mk (blk_below (aB BK370) hb); clear hb hbox hg; have hnb34 := NB374_370.out; have hnc34 := NB370_374.out; obtain ⟨hcz35_0, hcz35_1, hcz35_2, hcz35_3, hfz35_0, hfz35_1, hfz35_2, hfz35_3⟩ := aC4 BK374) | ((with_reducible refine gate_store (t := 48) (p := 5) rfl ?_); refine store_event (t := 48) (p := 5) (v := ?vo_w36) (w1 := ((((w33.setCell ⟨gb374, 0, none⟩ (.int .i64 ((rd_T48 l0_0 x40_2).f0))).setCell ⟨gb374, 1, none⟩ (.int .i64 ((rd_T48 l0_0 x40_2).f1))).setCell ⟨gb374, 2, none⟩ (.int .i64 ((rd_T48 l0_0 x40_2).f2))).setCell ⟨gb374, 3, none⟩ (.int .u8 ((rd_T48 l0_0 x40_2).f3)))) ?hg ?ho ?hn ?hr ?_; (case ho => rfl); (case hg => rfl); (case hn => rfl); (case hr => first | (go_simp; done) | (go_simp; rfl)); intro w36 hw; have n0_ : zA (w36.heap[gb370]? = some (.cells #[.slice (some ad373) l0_0.length c0_0, .slice A0_1 l0_1.length c0_1] 60 (0, 0))) := ⟨(by rw [hw]; exact (aB BK370))⟩; have n1_ : zA (w36.heap[gb374]? = some (.cells #[.int .i64 ((rd_T48 l0_0 x40_2).f0), .int .i64 ((rd_T48 l0_0 x40_2).f1), .int .i64 ((rd_T48 l0_0 x40_2).f2), .int .u8 ((rd_T48 l0_0 x40_2).f3)] 48 (0, 0))) := ⟨(by rw [hw]; exact (by (with_reducible repeat (first | refine zD ?_ _ | refine zC ?_ | refine zB ?_ _)); refine blk_put (cs := #[.int .i64 ((rd_T48 l0_0 x40_2).f0), .int .i64 ((rd_T48 l0_0 x40_2).f1), .int .i64 ((rd_T48 l0_0 x40_2).f2), .int .u8 0]) ?_ 3 _ rfl; (with_reducible repeat (first | refine zD ?_ _ | refine zC ?_ | refine zB ?_ _)); refine blk_put (cs := #[.int .i64 ((rd_T48 l0_0 x40_2).f0), .int .i64 ((rd_T48 l0_0 x40_2).f1), .int .i64 0, .int .u8 0]) ?_ 2 _ rfl; (with_reducible repeat (first | refine zD ?_ _ | refine zC ?_ | refine zB ?_ _)); refine blk_put (cs := #[.int .i64 ((rd_T48 l0_0 x40_2).f0), .int .i64 0, .int .i64 0, .int .u8 0]) ?_ 1 _ rfl; (with_reducible repeat (first | refine zD ?_ _ | refine zC ?_ | refine zB ?_ _)); refine blk_put (cs := #[.int .i64 0, .int .i64 0, .int .i64 0, .int .u8 0]) ?_ 0 _ rfl; (with_reducible repeat (first | refine zD ?_ _ | refine zC ?_ | refine zB ?_ _)); exact BK374.out))⟩; have n2_ : zA (Below w.heap.size w w36) := ⟨(by rw [hw]; exact (aL HB))⟩; clear hw; clear BK370; clear BK374; clear HB; have BK370 := n0_; have BK374 := n1_; have HB := n2_; clear n0_ n1_ n2_; obtain ⟨hcz37_0, hcz37_1, hcz37_2, hcz37_3, hfz37_0, hfz37_1, hfz37_2, hfz37_3⟩ := aC4 BK374))
    go_ret
    exact ⟨aX, aL HB⟩
   rw [if_neg c32] at H; have c32b0 : decide (((rd_T48 l0_0 x40_2).f2) < 0) = false := decide_eq_false c32
   clear c32; by_cases c38 : ((rd_T48 l0_0 x40_2).f2) > 2
   ·rw [if_pos c38] at H
    have c38b0 : decide (2 < ((rd_T48 l0_0 x40_2).f2)) = true := decide_eq_true c38
    clear c38; obtain rfl := Option.some.inj H
    have p373 : 0 ≤ (x40_2 : Int) := aD
    have q373 : x40_2 < (l0_0.length : Int) := aD
    obtain ⟨ad373, e373, hx373_0, hx373_1, hx373_2, hx373_3⟩ := at_T48 HR0_0.out x40_2 p373 q373; cases e373
    replace hx373_0 := (HB.out.cell (World.block_lt_of_cell? w _ hx373_0)).trans hx373_0; replace hx373_1 := (HB.out.cell (World.block_lt_of_cell? w _ hx373_1)).trans hx373_1; replace hx373_2 := (HB.out.cell (World.block_lt_of_cell? w _ hx373_2)).trans hx373_2; replace hx373_3 := (HB.out.cell (World.block_lt_of_cell? w _ hx373_3)).trans hx373_3; replace p373 := eq_true p373; replace q373 := eq_true q373; go_wp2_with (first | ((with_reducible refine gate_dst (N := 5) rfl ?_); (try (refine gate_guard (by rfl) ?_; dsimp only)); refine box_event ?hg (N := 5) ?hd (cs := #[.int .i64 0, .int .i64 0, .int .i64 0, .int .u8 0]) (t := 48) ?hr ?_; (case hd => rfl); (case hg => rfl); (case hr => first | (go_simp; done) | (go_simp; rfl)); intro gb374 hg w39 hbox hb; have BK374 := zA.mk (hbox); have GW374 := zA.mk ((by rw [hg]; exact (zF (aL HB)) : w.heap.size ≤ gb374)); replace HB := zA.mk (below_step (aL HB) hb); have GE374 := GW374; have NB370_374 := zA.mk ((by rw [hg]; exact Nat.ne_of_lt (blk_lt (aB BK370)) : gb370 ≠ gb374)); have NB374_370 := zA.mk ((by rw [hg]; exact Nat.ne_of_gt (blk_lt (g := gb370) (o := .cells #[.slice (some ad373) l0_0.length c0_0, .slice A0_1 l0_1.length c0_1] 60 (0, 0)) (aB BK370)) : gb374 ≠ gb370)); replace BK370 := zA.mk (blk_below (aB BK370) hb); clear hb hbox hg; have hnb40 := NB374_370.out; have hnc40 := NB370_374.out; obtain ⟨hcz41_0, hcz41_1, hcz41_2, hcz41_3, hfz41_0, hfz41_1, hfz41_2, hfz41_3⟩ := aC4 BK374) | ((with_reducible refine gate_store (t := 48) (p := 5) rfl ?_); refine store_event (t := 48) (p := 5) (v := ?vo_w42) (w1 := ((((w39.setCell ⟨gb374, 0, none⟩ (.int .i64 ((rd_T48 l0_0 x40_2).f0))).setCell ⟨gb374, 1, none⟩ (.int .i64 ((rd_T48 l0_0 x40_2).f1))).setCell ⟨gb374, 2, none⟩ (.int .i64 ((rd_T48 l0_0 x40_2).f2))).setCell ⟨gb374, 3, none⟩ (.int .u8 ((rd_T48 l0_0 x40_2).f3)))) ?hg ?ho ?hn ?hr ?_; (case ho => rfl); (case hg => rfl); (case hn => rfl); (case hr => first | (go_simp; done) | (go_simp; rfl)); intro w42 hw; have n0_ : zA (w42.heap[gb370]? = some (.cells #[.slice (some ad373) l0_0.length c0_0, .slice A0_1 l0_1.length c0_1] 60 (0, 0))) := ⟨(by rw [hw]; exact (aB BK370))⟩; have n1_ : zA (w42.heap[gb374]? = some (.cells #[.int .i64 ((rd_T48 l0_0 x40_2).f0), .int .i64 ((rd_T48 l0_0 x40_2).f1), .int .i64 ((rd_T48 l0_0 x40_2).f2), .int .u8 ((rd_T48 l0_0 x40_2).f3)] 48 (0, 0))) := ⟨(by rw [hw]; exact (by (with_reducible repeat (first | refine zD ?_ _ | refine zC ?_ | refine zB ?_ _)); refine blk_put (cs := #[.int .i64 ((rd_T48 l0_0 x40_2).f0), .int .i64 ((rd_T48 l0_0 x40_2).f1), .int .i64 ((rd_T48 l0_0 x40_2).f2), .int .u8 0]) ?_ 3 _ rfl; (with_reducible repeat (first | refine zD ?_ _ | refine zC ?_ | refine zB ?_ _)); refine blk_put (cs := #[.int .i64 ((rd_T48 l0_0 x40_2).f0), .int .i64 ((rd_T48 l0_0 x40_2).f1), .int .i64 0, .int .u8 0]) ?_ 2 _ rfl; (with_reducible repeat (first | refine zD ?_ _ | refine zC ?_ | refine zB ?_ _)); refine blk_put (cs := #[.int .i64 ((rd_T48 l0_0 x40_2).f0), .int .i64 0, .int .i64 0, .int .u8 0]) ?_ 1 _ rfl; (with_reducible repeat (first | refine zD ?_ _ | refine zC ?_ | refine zB ?_ _)); refine blk_put (cs := #[.int .i64 0, .int .i64 0, .int .i64 0, .int .u8 0]) ?_ 0 _ rfl; (with_reducible repeat (first | refine zD ?_ _ | refine zC ?_ | refine zB ?_ _)); exact BK374.out))⟩; have n2_ : zA (Below w.heap.size w w42) := ⟨(by rw [hw]; exact (aL HB))⟩; clear hw; clear BK370; clear BK374; clear HB; have BK370 := n0_; have BK374 := n1_; have HB := n2_; clear n0_ n1_ n2_; obtain ⟨hcz43_0, hcz43_1, hcz43_2, hcz43_3, hfz43_0, hfz43_1, hfz43_2, hfz43_3⟩ := aC4 BK374))
    go_ret
    exact ⟨aX, aL HB⟩
   rw [if_neg c38] at H; have c38b0 : decide (2 < ((rd_T48 l0_0 x40_2).f2)) = false := decide_eq_false c38
   clear c38; by_cases c44 : ((rd_T48 l0_0 x40_2).f3) > 2
   ·rw [if_pos c44] at H
    have c44b0 : decide (2 < ((rd_T48 l0_0 x40_2).f3)) = true := decide_eq_true c44
    clear c44; obtain rfl := Option.some.inj H
    have p373 : 0 ≤ (x40_2 : Int) := aD
    have q373 : x40_2 < (l0_0.length : Int) := aD
    obtain ⟨ad373, e373, hx373_0, hx373_1, hx373_2, hx373_3⟩ := at_T48 HR0_0.out x40_2 p373 q373; cases e373
    replace hx373_0 := (HB.out.cell (World.block_lt_of_cell? w _ hx373_0)).trans hx373_0; replace hx373_1 := (HB.out.cell (World.block_lt_of_cell? w _ hx373_1)).trans hx373_1; replace hx373_2 := (HB.out.cell (World.block_lt_of_cell? w _ hx373_2)).trans hx373_2; replace hx373_3 := (HB.out.cell (World.block_lt_of_cell? w _ hx373_3)).trans hx373_3; replace p373 := eq_true p373; replace q373 := eq_true q373; go_wp2_with (first | ((with_reducible refine gate_dst (N := 5) rfl ?_); (try (refine gate_guard (by rfl) ?_; dsimp only)); refine box_event ?hg (N := 5) ?hd (cs := #[.int .i64 0, .int .i64 0, .int .i64 0, .int .u8 0]) (t := 48) ?hr ?_; (case hd => rfl); (case hg => rfl); (case hr => first | (go_simp; done) | (go_simp; rfl)); intro gb374 hg w45 hbox hb; have BK374 := zA.mk (hbox); have GW374 := zA.mk ((by rw [hg]; exact (zF (aL HB)) : w.heap.size ≤ gb374)); replace HB := zA.mk (below_step (aL HB) hb); have GE374 := GW374; have NB370_374 := zA.mk ((by rw [hg]; exact Nat.ne_of_lt (blk_lt (aB BK370)) : gb370 ≠ gb374)); have NB374_370 := zA.mk ((by rw [hg]; exact Nat.ne_of_gt (blk_lt (g := gb370) (o := .cells #[.slice (some ad373) l0_0.length c0_0, .slice A0_1 l0_1.length c0_1] 60 (0, 0)) (aB BK370)) : gb374 ≠ gb370)); replace BK370 := zA.mk (blk_below (aB BK370) hb); clear hb hbox hg; have hnb46 := NB374_370.out; have hnc46 := NB370_374.out; obtain ⟨hcz47_0, hcz47_1, hcz47_2, hcz47_3, hfz47_0, hfz47_1, hfz47_2, hfz47_3⟩ := aC4 BK374) | ((with_reducible refine gate_store (t := 48) (p := 5) rfl ?_); refine store_event (t := 48) (p := 5) (v := ?vo_w48) (w1 := ((((w45.setCell ⟨gb374, 0, none⟩ (.int .i64 ((rd_T48 l0_0 x40_2).f0))).setCell ⟨gb374, 1, none⟩ (.int .i64 ((rd_T48 l0_0 x40_2).f1))).setCell ⟨gb374, 2, none⟩ (.int .i64 ((rd_T48 l0_0 x40_2).f2))).setCell ⟨gb374, 3, none⟩ (.int .u8 ((rd_T48 l0_0 x40_2).f3)))) ?hg ?ho ?hn ?hr ?_; (case ho => rfl); (case hg => rfl); (case hn => rfl); (case hr => first | (go_simp; done) | (go_simp; rfl)); intro w48 hw; have n0_ : zA (w48.heap[gb370]? = some (.cells #[.slice (some ad373) l0_0.length c0_0, .slice A0_1 l0_1.length c0_1] 60 (0, 0))) := ⟨(by rw [hw]; exact (aB BK370))⟩; have n1_ : zA (w48.heap[gb374]? = some (.cells #[.int .i64 ((rd_T48 l0_0 x40_2).f0), .int .i64 ((rd_T48 l0_0 x40_2).f1), .int .i64 ((rd_T48 l0_0 x40_2).f2), .int .u8 ((rd_T48 l0_0 x40_2).f3)] 48 (0, 0))) := ⟨(by rw [hw]; exact (by (with_reducible repeat (first | refine zD ?_ _ | refine zC ?_ | refine zB ?_ _)); refine blk_put (cs := #[.int .i64 ((rd_T48 l0_0 x40_2).f0), .int .i64 ((rd_T48 l0_0 x40_2).f1), .int .i64 ((rd_T48 l0_0 x40_2).f2), .int .u8 0]) ?_ 3 _ rfl; (with_reducible repeat (first | refine zD ?_ _ | refine zC ?_ | refine zB ?_ _)); refine blk_put (cs := #[.int .i64 ((rd_T48 l0_0 x40_2).f0), .int .i64 ((rd_T48 l0_0 x40_2).f1), .int .i64 0, .int .u8 0]) ?_ 2 _ rfl; (with_reducible repeat (first | refine zD ?_ _ | refine zC ?_ | refine zB ?_ _)); refine blk_put (cs := #[.int .i64 ((rd_T48 l0_0 x40_2).f0), .int .i64 0, .int .i64 0, .int .u8 0]) ?_ 1 _ rfl; (with_reducible repeat (first | refine zD ?_ _ | refine zC ?_ | refine zB ?_ _)); refine blk_put (cs := #[.int .i64 0, .int .i64 0, .int .i64 0, .int .u8 0]) ?_ 0 _ rfl; (with_reducible repeat (first | refine zD ?_ _ | refine zC ?_ | refine zB ?_ _)); exact BK374.out))⟩; have n2_ : zA (Below w.heap.size w w48) := ⟨(by rw [hw]; exact (aL HB))⟩; clear hw; clear BK370; clear BK374; clear HB; have BK370 := n0_; have BK374 := n1_; have HB := n2_; clear n0_ n1_ n2_; obtain ⟨hcz49_0, hcz49_1, hcz49_2, hcz49_3, hfz49_0, hfz49_1, hfz49_2, hfz49_3⟩ := aC4 BK374))
    go_ret
    exact ⟨aX, aL HB⟩
   rw [if_neg c44] at H; have c44b0 : decide (2 < ((rd_T48 l0_0 x40_2).f3)) = false := decide_eq_false c44
   clear c44; by_cases c50 : x40_2 < (l0_1.length : Int)
   rotate_left
   ·rw [if_neg c50] at H
    exact absurd H (by simp)
   rw [if_pos c50] at H; have c50b0 : decide (x40_2 < (l0_1.length : Int)) = true := decide_eq_true c50
   clear c50; by_cases c51 : (rd l0_1 x40_2) > 3
   ·rw [if_pos c51] at H
    have c51b0 : decide (3 < (rd l0_1 x40_2)) = true := decide_eq_true c51
    clear c51; obtain rfl := Option.some.inj H
    have p373 : 0 ≤ (x40_2 : Int) := aD
    have q373 : x40_2 < (l0_0.length : Int) := aD
    obtain ⟨ad373, e373, hx373_0, hx373_1, hx373_2, hx373_3⟩ := at_T48 HR0_0.out x40_2 p373 q373; cases e373
    replace hx373_0 := (HB.out.cell (World.block_lt_of_cell? w _ hx373_0)).trans hx373_0; replace hx373_1 := (HB.out.cell (World.block_lt_of_cell? w _ hx373_1)).trans hx373_1; replace hx373_2 := (HB.out.cell (World.block_lt_of_cell? w _ hx373_2)).trans hx373_2; replace hx373_3 := (HB.out.cell (World.block_lt_of_cell? w _ hx373_3)).trans hx373_3; replace p373 := eq_true p373; replace q373 := eq_true q373; go_wp2_with (first | ((with_reducible refine gate_dst (N := 5) rfl ?_); (try (refine gate_guard (by rfl) ?_; dsimp only)); refine box_event ?hg (N := 5) ?hd (cs := #[.int .i64 0, .int .i64 0, .int .i64 0, .int .u8 0]) (t := 48) ?hr ?_; (case hd => rfl); (case hg => rfl); (case hr => first | (go_simp; done) | (go_simp; rfl)); intro gb374 hg w52 hbox hb; have BK374 := zA.mk (hbox); have GW374 := zA.mk ((by rw [hg]; exact (zF (aL HB)) : w.heap.size ≤ gb374)); replace HB := zA.mk (below_step (aL HB) hb); have GE374 := GW374; have NB370_374 := zA.mk ((by rw [hg]; exact Nat.ne_of_lt (blk_lt (aB BK370)) : gb370 ≠ gb374)); have NB374_370 := zA.mk ((by rw [hg]; exact Nat.ne_of_gt (blk_lt (g := gb370) (o := .cells #[.slice (some ad373) l0_0.length c0_0, .slice A0_1 l0_1.length c0_1] 60 (0, 0)) (aB BK370)) : gb374 ≠ gb370)); replace BK370 := zA.mk (blk_below (aB BK370) hb); clear hb hbox hg; have hnb53 := NB374_370.out; have hnc53 := NB370_374.out; obtain ⟨hcz54_0, hcz54_1, hcz54_2, hcz54_3, hfz54_0, hfz54_1, hfz54_2, hfz54_3⟩ := aC4 BK374) | ((with_reducible refine gate_store (t := 48) (p := 5) rfl ?_); refine store_event (t := 48) (p := 5) (v := ?vo_w55) (w1 := ((((w52.setCell ⟨gb374, 0, none⟩ (.int .i64 ((rd_T48 l0_0 x40_2).f0))).setCell ⟨gb374, 1, none⟩ (.int .i64 ((rd_T48 l0_0 x40_2).f1))).setCell ⟨gb374, 2, none⟩ (.int .i64 ((rd_T48 l0_0 x40_2).f2))).setCell ⟨gb374, 3, none⟩ (.int .u8 ((rd_T48 l0_0 x40_2).f3)))) ?hg ?ho ?hn ?hr ?_; (case ho => rfl); (case hg => rfl); (case hn => rfl); (case hr => first | (go_simp; done) | (go_simp; rfl)); intro w55 hw; have n0_ : zA (w55.heap[gb370]? = some (.cells #[.slice (some ad373) l0_0.length c0_0, .slice A0_1 l0_1.length c0_1] 60 (0, 0))) := ⟨(by rw [hw]; exact (aB BK370))⟩; have n1_ : zA (w55.heap[gb374]? = some (.cells #[.int .i64 ((rd_T48 l0_0 x40_2).f0), .int .i64 ((rd_T48 l0_0 x40_2).f1), .int .i64 ((rd_T48 l0_0 x40_2).f2), .int .u8 ((rd_T48 l0_0 x40_2).f3)] 48 (0, 0))) := ⟨(by rw [hw]; exact (by (with_reducible repeat (first | refine zD ?_ _ | refine zC ?_ | refine zB ?_ _)); refine blk_put (cs := #[.int .i64 ((rd_T48 l0_0 x40_2).f0), .int .i64 ((rd_T48 l0_0 x40_2).f1), .int .i64 ((rd_T48 l0_0 x40_2).f2), .int .u8 0]) ?_ 3 _ rfl; (with_reducible repeat (first | refine zD ?_ _ | refine zC ?_ | refine zB ?_ _)); refine blk_put (cs := #[.int .i64 ((rd_T48 l0_0 x40_2).f0), .int .i64 ((rd_T48 l0_0 x40_2).f1), .int .i64 0, .int .u8 0]) ?_ 2 _ rfl; (with_reducible repeat (first | refine zD ?_ _ | refine zC ?_ | refine zB ?_ _)); refine blk_put (cs := #[.int .i64 ((rd_T48 l0_0 x40_2).f0), .int .i64 0, .int .i64 0, .int .u8 0]) ?_ 1 _ rfl; (with_reducible repeat (first | refine zD ?_ _ | refine zC ?_ | refine zB ?_ _)); refine blk_put (cs := #[.int .i64 0, .int .i64 0, .int .i64 0, .int .u8 0]) ?_ 0 _ rfl; (with_reducible repeat (first | refine zD ?_ _ | refine zC ?_ | refine zB ?_ _)); exact BK374.out))⟩; have n2_ : zA (Below w.heap.size w w55) := ⟨(by rw [hw]; exact (aL HB))⟩; clear hw; clear BK370; clear BK374; clear HB; have BK370 := n0_; have BK374 := n1_; have HB := n2_; clear n0_ n1_ n2_; obtain ⟨hcz56_0, hcz56_1, hcz56_2, hcz56_3, hfz56_0, hfz56_1, hfz56_2, hfz56_3⟩ := aC4 BK374; obtain ⟨hcz57_0, hcz57_1, hfz57_0, hfz57_1⟩ := aC2 BK370; have p375 : 0 ≤ (x40_2 : Int) := aD; have q375 : x40_2 < (l0_1.length : Int) := aD; obtain ⟨ad375, e375, hx375_0⟩ := Kd.at_int HR0_1.out x40_2 p375 q375; cases e375; replace hx375_0 := (HB.out.cell (World.block_lt_of_cell? w _ hx375_0)).trans hx375_0; replace p375 := eq_true p375; replace q375 := eq_true q375))
    go_ret
    exact ⟨aX, aL HB⟩
   rw [if_neg c51] at H; have c51b0 : decide (3 < (rd l0_1 x40_2)) = false := decide_eq_false c51
   clear c51; have H' := zA.mk H
   clear H; have p373 : 0 ≤ (x40_2 : Int) := aD
   have q373 : x40_2 < (l0_0.length : Int) := aD
   obtain ⟨ad373, e373, hx373_0, hx373_1, hx373_2, hx373_3⟩ := at_T48 HR0_0.out x40_2 p373 q373; cases e373
   replace hx373_0 := (HB.out.cell (World.block_lt_of_cell? w _ hx373_0)).trans hx373_0; replace hx373_1 := (HB.out.cell (World.block_lt_of_cell? w _ hx373_1)).trans hx373_1; replace hx373_2 := (HB.out.cell (World.block_lt_of_cell? w _ hx373_2)).trans hx373_2; replace hx373_3 := (HB.out.cell (World.block_lt_of_cell? w _ hx373_3)).trans hx373_3; replace p373 := eq_true p373; replace q373 := eq_true q373; go_wp2_with (first | ((with_reducible refine gate_dst (N := 5) rfl ?_); (try (refine gate_guard (by rfl) ?_; dsimp only)); refine box_event ?hg (N := 5) ?hd (cs := #[.int .i64 0, .int .i64 0, .int .i64 0, .int .u8 0]) (t := 48) ?hr ?_; (case hd => rfl); (case hg => rfl); (case hr => first | (go_simp; done) | (go_simp; rfl)); intro gb374 hg w58 hbox hb; have BK374 := zA.mk (hbox); have GW374 := zA.mk ((by rw [hg]; exact (zF (aL HB)) : w.heap.size ≤ gb374)); replace HB := zA.mk (below_step (aL HB) hb); have GE374 := GW374; have NB370_374 := zA.mk ((by rw [hg]; exact Nat.ne_of_lt (blk_lt (aB BK370)) : gb370 ≠ gb374)); have NB374_370 := zA.mk ((by rw [hg]; exact Nat.ne_of_gt (blk_lt (g := gb370) (o := .cells #[.slice (some ad373) l0_0.length c0_0, .slice A0_1 l0_1.length c0_1] 60 (0, 0)) (aB BK370)) : gb374 ≠ gb370)); replace BK370 := zA.mk (blk_below (aB BK370) hb); clear hb hbox hg; have hnb59 := NB374_370.out; have hnc59 := NB370_374.out; obtain ⟨hcz60_0, hcz60_1, hcz60_2, hcz60_3, hfz60_0, hfz60_1, hfz60_2, hfz60_3⟩ := aC4 BK374) | ((with_reducible refine gate_store (t := 48) (p := 5) rfl ?_); refine store_event (t := 48) (p := 5) (v := ?vo_w61) (w1 := ((((w58.setCell ⟨gb374, 0, none⟩ (.int .i64 ((rd_T48 l0_0 x40_2).f0))).setCell ⟨gb374, 1, none⟩ (.int .i64 ((rd_T48 l0_0 x40_2).f1))).setCell ⟨gb374, 2, none⟩ (.int .i64 ((rd_T48 l0_0 x40_2).f2))).setCell ⟨gb374, 3, none⟩ (.int .u8 ((rd_T48 l0_0 x40_2).f3)))) ?hg ?ho ?hn ?hr ?_; (case ho => rfl); (case hg => rfl); (case hn => rfl); (case hr => first | (go_simp; done) | (go_simp; rfl)); intro w61 hw; have n0_ : zA (w61.heap[gb370]? = some (.cells #[.slice (some ad373) l0_0.length c0_0, .slice A0_1 l0_1.length c0_1] 60 (0, 0))) := ⟨(by rw [hw]; exact (aB BK370))⟩; have n1_ : zA (w61.heap[gb374]? = some (.cells #[.int .i64 ((rd_T48 l0_0 x40_2).f0), .int .i64 ((rd_T48 l0_0 x40_2).f1), .int .i64 ((rd_T48 l0_0 x40_2).f2), .int .u8 ((rd_T48 l0_0 x40_2).f3)] 48 (0, 0))) := ⟨(by rw [hw]; exact (by (with_reducible repeat (first | refine zD ?_ _ | refine zC ?_ | refine zB ?_ _)); refine blk_put (cs := #[.int .i64 ((rd_T48 l0_0 x40_2).f0), .int .i64 ((rd_T48 l0_0 x40_2).f1), .int .i64 ((rd_T48 l0_0 x40_2).f2), .int .u8 0]) ?_ 3 _ rfl; (with_reducible repeat (first | refine zD ?_ _ | refine zC ?_ | refine zB ?_ _)); refine blk_put (cs := #[.int .i64 ((rd_T48 l0_0 x40_2).f0), .int .i64 ((rd_T48 l0_0 x40_2).f1), .int .i64 0, .int .u8 0]) ?_ 2 _ rfl; (with_reducible repeat (first | refine zD ?_ _ | refine zC ?_ | refine zB ?_ _)); refine blk_put (cs := #[.int .i64 ((rd_T48 l0_0 x40_2).f0), .int .i64 0, .int .i64 0, .int .u8 0]) ?_ 1 _ rfl; (with_reducible repeat (first | refine zD ?_ _ | refine zC ?_ | refine zB ?_ _)); refine blk_put (cs := #[.int .i64 0, .int .i64 0, .int .i64 0, .int .u8 0]) ?_ 0 _ rfl; (with_reducible repeat (first | refine zD ?_ _ | refine zC ?_ | refine zB ?_ _)); exact BK374.out))⟩; have n2_ : zA (Below w.heap.size w w61) := ⟨(by rw [hw]; exact (aL HB))⟩; clear hw; clear BK370; clear BK374; clear HB; have BK370 := n0_; have BK374 := n1_; have HB := n2_; clear n0_ n1_ n2_; obtain ⟨hcz62_0, hcz62_1, hcz62_2, hcz62_3, hfz62_0, hfz62_1, hfz62_2, hfz62_3⟩ := aC4 BK374; obtain ⟨hcz63_0, hcz63_1, hfz63_0, hfz63_1⟩ := aC2 BK370; have p375 : 0 ≤ (x40_2 : Int) := aD; have q375 : x40_2 < (l0_1.length : Int) := aD; obtain ⟨ad375, e375, hx375_0⟩ := Kd.at_int HR0_1.out x40_2 p375 q375; cases e375; replace hx375_0 := (HB.out.cell (World.block_lt_of_cell? w _ hx375_0)).trans hx375_0; replace p375 := eq_true p375; replace q375 := eq_true q375))
   go_roundg k2
   case measure => have := HJ1.out; have := HK2.out; omega
   case rel => exact ⟨(wrap64 (x3_2 + ((rd_T48 l0_0 x40_2).f1))), (wrap64 (x40_2 + 1)), aZ, aZ, H', ⟨by have := HJ1.out; have := HK2.out; omega⟩, ⟨aB BK370⟩, ⟨aL HB⟩⟩
def items_Parts.l0 : Nat → List Int → List Int → Int → Int → Option (List Int)
 | 0, _, _, _, _ => none
 | k + 1, x3, x7, x8, x9 => if x9 < x8 then (if 0 ≤ x9 then (if x9 < (x7.length : Int) then (if (rd x7 x9) = 2 then (if x3.length < 17592186044416 then (items_Parts.l0 k (x3 ++ [x9]) x7 x8 (wrap64 (x9 + 1))) else (none)) else (items_Parts.l0 k x3 x7 x8 (wrap64 (x9 + 1)))) else (none)) else (none)) else (some x3)
def items_Parts.f (k : Nat) (l0_0 : List (S48)) (l0_1 : List Int) : Option (List Int) := items_Parts.l0 k ([] : List Int) l0_1 (l0_1.length : Int) 0
theorem items_Parts.mono_l : ∀ k, (∀ y0 y1 y2 y3, LeO (items_Parts.l0 k y0 y1 y2 y3) (items_Parts.l0 (k + 1) y0 y1 y2 y3))
 | 0 => fun _ _ _ _ r h => by simp [items_Parts.l0] at h
 | k + 1 => by
  have ih0 := items_Parts.mono_l k
  ·intro y0 y1 y2 y3
   unfold items_Parts.l0
   repeat' (with_reducible first | exact ih0 _ _ _ _ | exact LeO.refl _ | exact LeO.none _ | refine LeO.ite ?_ ?_ | refine LeO.bind ?_ (fun _ => ?_))
theorem items_Parts.mono : ∀ a0 a1 k, LeO (items_Parts.f k a0 a1) (items_Parts.f (k + 1) a0 a1) := by
 intro a0 a1 k
 have ih0 := items_Parts.mono_l k; unfold items_Parts.f
 repeat' (with_reducible first | exact ih0 _ _ _ _ | exact LeO.refl _ | exact LeO.none _ | refine LeO.ite ?_ ?_ | refine LeO.bind ?_ (fun _ => ?_))
set_option maxHeartbeats 8000000 in
set_option maxRecDepth 100000 in
theorem items_Parts.calls (k : Nat) (A0_0 : Option Addr) (c0_0 : Nat) (l0_0 : List (S48)) (A0_1 : Option Addr) (c0_1 : Nat) (l0_1 : List Int) (r : List Int) (w : World) (hr0_0 : Kd.C k48 w A0_0 l0_0.length l0_0) (hc0_0 : l0_0.length ≤ c0_0) (hr0_1 : Kd.C (Kd.int .u8) w A0_1 l0_1.length l0_1) (hc0_1 : l0_1.length ≤ c0_1) (h : items_Parts.f k l0_0 l0_1 = some r) :
  Calls Try.prog 30 #[.agg #[.slice A0_0 l0_0.length c0_0, .slice A0_1 l0_1.length c0_1]] w fun e w' => ∃ v0_ : Value, e = .returned (v0_) ∧ Kd.R (Kd.int .i64) 3 w' w.heap.size (fun _ => True) v0_ r ∧ Below w.heap.size w w' := by
 have hu60 := Try.underlying60; have HR0_0 := zA.mk hr0_0; have HC0_0 := zA.mk hc0_0; clear hr0_0 hc0_0; have HR0_1 := zA.mk hr0_1; have HC0_1 := zA.mk hc0_1; clear hr0_1 hc0_1; have HB := zA.mk (Below.refl w.heap.size w); have H : (items_Parts.l0 k ([] : List Int) l0_1 (l0_1.length : Int) 0) = some r := h
 clear h; have H' := zA.mk H
 clear H; go_enter Try.func30, Try.ntmps30
 go_wp2_with (first | ((with_reducible refine gate_dst (N := 1) rfl ?_); refine box_event ?hg (N := 1) ?hd (cs := #[.slice A0_0 l0_0.length c0_0, .slice A0_1 l0_1.length c0_1]) (t := 60) ?hr ?_; (case hd => rfl); (case hg => rfl); (case hr => first | (go_simp; done) | (go_simp; rfl)); intro gb376 hg w2 hbox hb; have BK376 := zA.mk (hbox); have GW376 := zA.mk ((by rw [hg]; exact (zF (aL HB)) : w.heap.size ≤ gb376)); replace HB := zA.mk (below_step (aL HB) hb); have GE376 := GW376; clear hb hbox hg; obtain ⟨hcz3_0, hcz3_1, hfz3_0, hfz3_1⟩ := aC2 BK376))
 go_loopg [3, 9] k (fun kq v3 v9 w' => ∃ (x3_1 : List Int) (x9_1 : Int), v9 = .int .i64 x9_1 ∧ zA (items_Parts.l0 kq x3_1 l0_1 (l0_1.length : Int) x9_1 = some r) ∧ zA (kq ≤ k) ∧ zA (Kd.R (Kd.int .i64) 3 w' w.heap.size (fun _ => True) v3 x3_1) ∧ zA (w'.heap[gb376]? = some (.cells #[(.slice A0_0 l0_0.length c0_0), (.slice A0_1 l0_1.length c0_1)] 60 (0, 0))) ∧ zA (Below w.heap.size w w'))
 case atStart => exact ⟨(([] : List Int)), (0), aZ, H', ⟨Nat.le_refl _⟩, ⟨by first | exact Kd.R_nil _ _ _ _ _ | exact Kd.N_nil _ _ _ _ _ | exact Kd.V_nil _ _ _ _ _ | exact Kd.Q_nil _ _ _ _ _ | exact Kd.S_nil _ _ _ _ _⟩, ⟨aB BK376⟩, ⟨aL HB⟩⟩
 clear H'; obtain ⟨x3_1, x9_1, rfl, HA, HK1, HO_3, BK376, HB⟩ := hrel; cases gk with
 | zero => exact absurd HA.out (by simp [items_Parts.l0])
 | succ k1 =>
  have H := HA.out; clear HA; simp only [items_Parts.l0] at H; by_cases c4 : x9_1 < (l0_1.length : Int)
  rotate_left
  ·rw [if_neg c4] at H
   have c4b0 : decide (x9_1 < (l0_1.length : Int)) = false := decide_eq_false c4
   clear c4; obtain rfl := Option.some.inj H
   go_wp2
   go_ret
   exact ⟨_, aX, aR HO_3, aL HB⟩
  rw [if_pos c4] at H; have c4b0 : decide (x9_1 < (l0_1.length : Int)) = true := decide_eq_true c4
  clear c4; by_cases c5 : 0 ≤ x9_1
  rotate_left
  ·rw [if_neg c5] at H
   exact absurd H (by simp)
  rw [if_pos c5] at H; have c5b0 : decide (0 ≤ x9_1) = true := decide_eq_true c5
  clear c5; by_cases c6 : x9_1 < (l0_1.length : Int)
  rotate_left
  ·rw [if_neg c6] at H
   exact absurd H (by simp)
  rw [if_pos c6] at H; have c6b0 : decide (x9_1 < (l0_1.length : Int)) = true := decide_eq_true c6
  clear c6; by_cases c7 : (rd l0_1 x9_1) = 2
  rotate_left
  ·rw [if_neg c7] at H
   have c7b0 : ((rd l0_1 x9_1) == 2) = false := beq_eq_false_iff_ne.mpr c7
   have c7b1 : ((rd l0_1 x9_1) != 2) = true := bne_iff_ne.mpr c7
   have H' := zA.mk H
   clear H; have p377 : 0 ≤ (x9_1 : Int) := aD
   have q377 : x9_1 < (l0_1.length : Int) := aD
   obtain ⟨ad377, e377, hx377_0⟩ := Kd.at_int HR0_1.out x9_1 p377 q377; cases e377
   replace hx377_0 := (HB.out.cell (World.block_lt_of_cell? w _ hx377_0)).trans hx377_0; replace p377 := eq_true p377; replace q377 := eq_true q377; go_wp2
   go_roundg k1
   case measure => have := HK1.out; omega
   case rel => exact ⟨(x3_1), (wrap64 (x9_1 + 1)), aZ, H', ⟨by have := HK1.out; omega⟩, ⟨aR HO_3⟩, ⟨aB BK376⟩, ⟨aL HB⟩⟩
  rw [if_pos c7] at H; have c7b0 : ((rd l0_1 x9_1) == 2) = true := beq_iff_eq.mpr c7
  have c7b1 : ((rd l0_1 x9_1) != 2) = false := bne_eq_false_iff_eq.mpr c7
  clear c7; by_cases c8 : x3_1.length < 17592186044416
  rotate_left
  ·rw [if_neg c8] at H
   exact absurd H (by simp)
  rw [if_pos c8] at H; have LMc8 := zA.mk c8; clear c8; obtain ⟨y378, hy378⟩ : ∃ y_ : List Int, y_ = (x3_1 ++ [x9_1]) := ⟨_, rfl⟩; replace H : (items_Parts.l0 k1 y378 l0_1 (l0_1.length : Int) (wrap64 (x9_1 + 1))) = some r := by first | (rw [hy378]; with_reducible exact H) | (have H2_ := (Option.bind_some _ _).symm.trans H; rw [hy378]; with_reducible exact H2_) | (have H2_ := (Option.bind_some _ _).symm.trans H; with_reducible exact H2_) | with_reducible exact H | (rw [hy378]; exact H) | exact H
  have Ny378 := zA.mk hy378; clear hy378; have H' := zA.mk H
  clear H; have p377 : 0 ≤ (x9_1 : Int) := aD
  have q377 : x9_1 < (l0_1.length : Int) := aD
  obtain ⟨ad377, e377, hx377_0⟩ := Kd.at_int HR0_1.out x9_1 p377 q377; cases e377
  replace hx377_0 := (HB.out.cell (World.block_lt_of_cell? w _ hx377_0)).trans hx377_0; replace p377 := eq_true p377; replace q377 := eq_true q377; go_wp2_with (first | ((with_reducible refine gate_builtin (b := .append) (xs := #[.tmp 16, .tmp 18]) rfl ?_); at_builtin; refine Kd.R_append (Kd.int .i64) (w0 := w) w.heap.size rfl (.tmp 16) (.tmp 18) 35 3 (.int .i64 0) 8 rfl Try.underlying35 info3 rfl (by decide) (by omega) u3 x3_1 x9_1 [.int .i64 x9_1] (fun _ => True) (fun _ => False) rfl rfl ?aP (fun _ hk => hk.elim) ?aF ?aO ?aB ?aS ?aL ?_; (case aP => exact rfl); (case aB => exact (aL HB)); (case aF => exact (fun _ _ => trivial)); (case aO => exact (aR HO_3)); (case aS => exact (zF (aL HB))); (case aL => have := LMc8.out; omega); intro v379 w9 ho hb hg hat; rw [← Ny378.out] at ho; replace BK376 := zA.mk (blk_grown (g := gb376) (o := .cells #[.slice A0_0 l0_0.length c0_0, .slice (some ad377) l0_1.length c0_1] 60 (0, 0)) (aB BK376) hg (Kd.R_ne HO_3.out BK376.out (by decide))); replace HB := zA.mk (hb); have HO380 := zA.mk (ho); clear HO_3; clear ho hb hg hat))
  go_roundg k1
  case measure => have := HK1.out; omega
  case rel => exact ⟨(y378), (wrap64 (x9_1 + 1)), aZ, H', ⟨by have := HK1.out; omega⟩, ⟨aR HO380⟩, ⟨aB BK376⟩, ⟨aL HB⟩⟩
def stanzalaw11_Awake.f (k : Nat)  : Option (Bool) := if prop_Make.c ([] : List (S45)) 1 = true then ((prop_MakeY.f ([] : List (S45)) 1).bind fun t383 => ((items_Make.f k ([] : List (S50)) ([] : List Int) ([] : List Int) ([] : List Bool) t383).bind fun bt384 => ((items_Make.f k (([(⟨97, 0, 1⟩ : S50), (⟨98, 1, 1⟩ : S50)] : List (S50))) (([0, 1, 2] : List Int)) (([0, 0, 2] : List Int)) (([false, true, false] : List Bool)) t383).bind fun bt403 => (if (bt384.2.length : Int) = 1 then (if 0 < (bt384.2.length : Int) then (if (rd bt384.2 0) = 2 then ((items_Check.f k bt384.1 bt384.2).bind fun t411 => (if t411 = true then (if (bt403.2.length : Int) = 3 then (if 1 < (bt403.2.length : Int) then (if (rd bt403.2 1) = 3 then ((items_Parts.f k bt403.1 bt403.2).bind fun t413 => (some ((t413.length : Int) == 1))) else (some false)) else (none)) else (some false)) else (some false))) else (some false)) else (none)) else (some false))))) else ((prop_MakeN.f ([] : List (S45)) 1).bind fun _ => (some false))
theorem stanzalaw11_Awake.mono : ∀ k, LeO (stanzalaw11_Awake.f k ) (stanzalaw11_Awake.f (k + 1) ) := by
 intro  k
 unfold stanzalaw11_Awake.f
 repeat' (with_reducible first | exact items_Check.mono _ _ _ | exact items_Make.mono _ _ _ _ _ _ | exact items_Parts.mono _ _ _ | exact LeO.refl _ | exact LeO.none _ | refine LeO.ite ?_ ?_ | refine LeO.bind ?_ (fun _ => ?_))
set_option maxHeartbeats 8000000 in
set_option maxRecDepth 100000 in
theorem stanzalaw11_Awake.calls (k : Nat)  (r : Bool) (w : World) (h : stanzalaw11_Awake.f k  = some r) (hrt_ : zA (r = true)) :
  Calls Try.prog 23 #[] w fun e w' => e = .returned (.bool r) ∧ Below w.heap.size w w' := by
 have hu60 := Try.underlying60; have hu50 := Try.underlying50; have HB := zA.mk (Below.refl w.heap.size w); have H : (if prop_Make.c ([] : List (S45)) 1 = true then ((prop_MakeY.f ([] : List (S45)) 1).bind fun t383 => ((items_Make.f k ([] : List (S50)) ([] : List Int) ([] : List Int) ([] : List Bool) t383).bind fun bt384 => ((items_Make.f k (([(⟨97, 0, 1⟩ : S50), (⟨98, 1, 1⟩ : S50)] : List (S50))) (([0, 1, 2] : List Int)) (([0, 0, 2] : List Int)) (([false, true, false] : List Bool)) t383).bind fun bt403 => (if (bt384.2.length : Int) = 1 then (if 0 < (bt384.2.length : Int) then (if (rd bt384.2 0) = 2 then ((items_Check.f k bt384.1 bt384.2).bind fun t411 => (if t411 = true then (if (bt403.2.length : Int) = 3 then (if 1 < (bt403.2.length : Int) then (if (rd bt403.2 1) = 3 then ((items_Parts.f k bt403.1 bt403.2).bind fun t413 => (some ((t413.length : Int) == 1))) else (some false)) else (none)) else (some false)) else (some false))) else (some false)) else (none)) else (some false))))) else ((prop_MakeN.f ([] : List (S45)) 1).bind fun _ => (some false))) = some r := h
 clear h; by_cases c1 : prop_Make.c ([] : List (S45)) 1 = true
 rotate_left
 ·rw [if_neg c1] at H
  have c1b0 : prop_Make.c ([] : List (S45)) 1 = false := by simpa using c1
  clear c1; replace H := Option.bind_eq_some_iff.mp H; obtain ⟨_, A490, H⟩ := H; replace H : (some false) = some r := H; have A49 := zA.mk A490; clear A490; exact absurd ((Option.some.inj H).trans hrt_.out) (by decide)
 rw [if_pos c1] at H; have c1b0 : prop_Make.c ([] : List (S45)) 1 = true := c1
 clear c1; replace H := Option.bind_eq_some_iff.mp H; obtain ⟨t383, A20, H⟩ := H; replace H : ((items_Make.f k ([] : List (S50)) ([] : List Int) ([] : List Int) ([] : List Bool) t383).bind fun bt384 => ((items_Make.f k (([(⟨97, 0, 1⟩ : S50), (⟨98, 1, 1⟩ : S50)] : List (S50))) (([0, 1, 2] : List Int)) (([0, 0, 2] : List Int)) (([false, true, false] : List Bool)) t383).bind fun bt403 => (if (bt384.2.length : Int) = 1 then (if 0 < (bt384.2.length : Int) then (if (rd bt384.2 0) = 2 then ((items_Check.f k bt384.1 bt384.2).bind fun t411 => (if t411 = true then (if (bt403.2.length : Int) = 3 then (if 1 < (bt403.2.length : Int) then (if (rd bt403.2 1) = 3 then ((items_Parts.f k bt403.1 bt403.2).bind fun t413 => (some ((t413.length : Int) == 1))) else (some false)) else (none)) else (some false)) else (some false))) else (some false)) else (none)) else (some false)))) = some r := H
 have A2 := zA.mk A20; clear A20; replace H := Option.bind_eq_some_iff.mp H; obtain ⟨⟨t384, t387⟩, A30, H⟩ := H; replace H : ((items_Make.f k (([(⟨97, 0, 1⟩ : S50), (⟨98, 1, 1⟩ : S50)] : List (S50))) (([0, 1, 2] : List Int)) (([0, 0, 2] : List Int)) (([false, true, false] : List Bool)) t383).bind fun bt403 => (if (t387.length : Int) = 1 then (if 0 < (t387.length : Int) then (if (rd t387 0) = 2 then ((items_Check.f k t384 t387).bind fun t411 => (if t411 = true then (if (bt403.2.length : Int) = 3 then (if 1 < (bt403.2.length : Int) then (if (rd bt403.2 1) = 3 then ((items_Parts.f k bt403.1 bt403.2).bind fun t413 => (some ((t413.length : Int) == 1))) else (some false)) else (none)) else (some false)) else (some false))) else (some false)) else (none)) else (some false))) = some r := H
 have A3 := zA.mk A30; clear A30; obtain ⟨y391, hy391⟩ : ∃ y_ : List (S50), y_ = (([(⟨97, 0, 1⟩ : S50), (⟨98, 1, 1⟩ : S50)] : List (S50))) := ⟨_, rfl⟩; replace H : ((items_Make.f k y391 (([0, 1, 2] : List Int)) (([0, 0, 2] : List Int)) (([false, true, false] : List Bool)) t383).bind fun bt403 => (if (t387.length : Int) = 1 then (if 0 < (t387.length : Int) then (if (rd t387 0) = 2 then ((items_Check.f k t384 t387).bind fun t411 => (if t411 = true then (if (bt403.2.length : Int) = 3 then (if 1 < (bt403.2.length : Int) then (if (rd bt403.2 1) = 3 then ((items_Parts.f k bt403.1 bt403.2).bind fun t413 => (some ((t413.length : Int) == 1))) else (some false)) else (none)) else (some false)) else (some false))) else (some false)) else (none)) else (some false))) = some r := by first | (rw [hy391]; with_reducible exact H) | (have H2_ := (Option.bind_some _ _).symm.trans H; rw [hy391]; with_reducible exact H2_) | (have H2_ := (Option.bind_some _ _).symm.trans H; with_reducible exact H2_) | with_reducible exact H | (rw [hy391]; exact H) | exact H
 have Ny391 := zA.mk hy391; clear hy391; obtain ⟨y394, hy394⟩ : ∃ y_ : List Int, y_ = (([0, 1, 2] : List Int)) := ⟨_, rfl⟩; replace H : ((items_Make.f k y391 y394 (([0, 0, 2] : List Int)) (([false, true, false] : List Bool)) t383).bind fun bt403 => (if (t387.length : Int) = 1 then (if 0 < (t387.length : Int) then (if (rd t387 0) = 2 then ((items_Check.f k t384 t387).bind fun t411 => (if t411 = true then (if (bt403.2.length : Int) = 3 then (if 1 < (bt403.2.length : Int) then (if (rd bt403.2 1) = 3 then ((items_Parts.f k bt403.1 bt403.2).bind fun t413 => (some ((t413.length : Int) == 1))) else (some false)) else (none)) else (some false)) else (some false))) else (some false)) else (none)) else (some false))) = some r := by first | (rw [hy394]; with_reducible exact H) | (have H2_ := (Option.bind_some _ _).symm.trans H; rw [hy394]; with_reducible exact H2_) | (have H2_ := (Option.bind_some _ _).symm.trans H; with_reducible exact H2_) | with_reducible exact H | (rw [hy394]; exact H) | exact H
 have Ny394 := zA.mk hy394; clear hy394; obtain ⟨y397, hy397⟩ : ∃ y_ : List Int, y_ = (([0, 0, 2] : List Int)) := ⟨_, rfl⟩; replace H : ((items_Make.f k y391 y394 y397 (([false, true, false] : List Bool)) t383).bind fun bt403 => (if (t387.length : Int) = 1 then (if 0 < (t387.length : Int) then (if (rd t387 0) = 2 then ((items_Check.f k t384 t387).bind fun t411 => (if t411 = true then (if (bt403.2.length : Int) = 3 then (if 1 < (bt403.2.length : Int) then (if (rd bt403.2 1) = 3 then ((items_Parts.f k bt403.1 bt403.2).bind fun t413 => (some ((t413.length : Int) == 1))) else (some false)) else (none)) else (some false)) else (some false))) else (some false)) else (none)) else (some false))) = some r := by first | (rw [hy397]; with_reducible exact H) | (have H2_ := (Option.bind_some _ _).symm.trans H; rw [hy397]; with_reducible exact H2_) | (have H2_ := (Option.bind_some _ _).symm.trans H; with_reducible exact H2_) | with_reducible exact H | (rw [hy397]; exact H) | exact H
 have Ny397 := zA.mk hy397; clear hy397; obtain ⟨y400, hy400⟩ : ∃ y_ : List Bool, y_ = (([false, true, false] : List Bool)) := ⟨_, rfl⟩; replace H : ((items_Make.f k y391 y394 y397 y400 t383).bind fun bt403 => (if (t387.length : Int) = 1 then (if 0 < (t387.length : Int) then (if (rd t387 0) = 2 then ((items_Check.f k t384 t387).bind fun t411 => (if t411 = true then (if (bt403.2.length : Int) = 3 then (if 1 < (bt403.2.length : Int) then (if (rd bt403.2 1) = 3 then ((items_Parts.f k bt403.1 bt403.2).bind fun t413 => (some ((t413.length : Int) == 1))) else (some false)) else (none)) else (some false)) else (some false))) else (some false)) else (none)) else (some false))) = some r := by first | (rw [hy400]; with_reducible exact H) | (have H2_ := (Option.bind_some _ _).symm.trans H; rw [hy400]; with_reducible exact H2_) | (have H2_ := (Option.bind_some _ _).symm.trans H; with_reducible exact H2_) | with_reducible exact H | (rw [hy400]; exact H) | exact H
 have Ny400 := zA.mk hy400; clear hy400; replace H := Option.bind_eq_some_iff.mp H; obtain ⟨⟨t403, t406⟩, A40, H⟩ := H; replace H : (if (t387.length : Int) = 1 then (if 0 < (t387.length : Int) then (if (rd t387 0) = 2 then ((items_Check.f k t384 t387).bind fun t411 => (if t411 = true then (if (t406.length : Int) = 3 then (if 1 < (t406.length : Int) then (if (rd t406 1) = 3 then ((items_Parts.f k t403 t406).bind fun t413 => (some ((t413.length : Int) == 1))) else (some false)) else (none)) else (some false)) else (some false))) else (some false)) else (none)) else (some false)) = some r := H
 have A4 := zA.mk A40; clear A40; by_cases c5 : (t387.length : Int) = 1
 rotate_left
 ·rw [if_neg c5] at H
  have c5b0 : ((t387.length : Int) == 1) = false := beq_eq_false_iff_ne.mpr c5
  have c5b1 : ((t387.length : Int) != 1) = true := bne_iff_ne.mpr c5
  exact absurd ((Option.some.inj H).trans hrt_.out) (by decide)
 rw [if_pos c5] at H; have c5b0 : ((t387.length : Int) == 1) = true := beq_iff_eq.mpr c5
 have c5b1 : ((t387.length : Int) != 1) = false := bne_eq_false_iff_eq.mpr c5
 clear c5; by_cases c6 : 0 < (t387.length : Int)
 rotate_left
 ·rw [if_neg c6] at H
  exact absurd H (by simp)
 rw [if_pos c6] at H; have c6b0 : decide (0 < (t387.length : Int)) = true := decide_eq_true c6
 have c6b1 : decide (0 < t387.length) = true := decide_eq_true (by omega)
 clear c6; by_cases c7 : (rd t387 0) = 2
 rotate_left
 ·rw [if_neg c7] at H
  have c7b0 : ((rd t387 0) == 2) = false := beq_eq_false_iff_ne.mpr c7
  have c7b1 : ((rd t387 0) != 2) = true := bne_iff_ne.mpr c7
  exact absurd ((Option.some.inj H).trans hrt_.out) (by decide)
 rw [if_pos c7] at H; have c7b0 : ((rd t387 0) == 2) = true := beq_iff_eq.mpr c7
 have c7b1 : ((rd t387 0) != 2) = false := bne_eq_false_iff_eq.mpr c7
 clear c7; replace H := Option.bind_eq_some_iff.mp H; obtain ⟨t411, A80, H⟩ := H; replace H : (if t411 = true then (if (t406.length : Int) = 3 then (if 1 < (t406.length : Int) then (if (rd t406 1) = 3 then ((items_Parts.f k t403 t406).bind fun t413 => (some ((t413.length : Int) == 1))) else (some false)) else (none)) else (some false)) else (some false)) = some r := H
 have A8 := zA.mk A80; clear A80; by_cases c9 : t411 = true
 rotate_left
 ·replace c9 := Bool.eq_false_iff.mpr c9
  subst c9; have H1 : (some false) = some r := by rw [if_neg (show ¬ (false = true) by decide)] at H; exact H
  clear H; have H := H1; clear H1; exact absurd ((Option.some.inj H).trans hrt_.out) (by decide)
 subst c9; have H1 : (if (t406.length : Int) = 3 then (if 1 < (t406.length : Int) then (if (rd t406 1) = 3 then ((items_Parts.f k t403 t406).bind fun t413 => (some ((t413.length : Int) == 1))) else (some false)) else (none)) else (some false)) = some r := by rw [if_pos rfl] at H; exact H
 clear H; have H := H1; clear H1; by_cases c10 : (t406.length : Int) = 3
 rotate_left
 ·rw [if_neg c10] at H
  have c10b0 : ((t406.length : Int) == 3) = false := beq_eq_false_iff_ne.mpr c10
  have c10b1 : ((t406.length : Int) != 3) = true := bne_iff_ne.mpr c10
  exact absurd ((Option.some.inj H).trans hrt_.out) (by decide)
 rw [if_pos c10] at H; have c10b0 : ((t406.length : Int) == 3) = true := beq_iff_eq.mpr c10
 have c10b1 : ((t406.length : Int) != 3) = false := bne_eq_false_iff_eq.mpr c10
 clear c10; by_cases c11 : 1 < (t406.length : Int)
 rotate_left
 ·rw [if_neg c11] at H
  exact absurd H (by simp)
 rw [if_pos c11] at H; have c11b0 : decide (1 < (t406.length : Int)) = true := decide_eq_true c11
 have c11b1 : decide (1 < t406.length) = true := decide_eq_true (by omega)
 clear c11; by_cases c12 : (rd t406 1) = 3
 rotate_left
 ·rw [if_neg c12] at H
  have c12b0 : ((rd t406 1) == 3) = false := beq_eq_false_iff_ne.mpr c12
  have c12b1 : ((rd t406 1) != 3) = true := bne_iff_ne.mpr c12
  exact absurd ((Option.some.inj H).trans hrt_.out) (by decide)
 rw [if_pos c12] at H; have c12b0 : ((rd t406 1) == 3) = true := beq_iff_eq.mpr c12
 have c12b1 : ((rd t406 1) != 3) = false := bne_eq_false_iff_eq.mpr c12
 clear c12; replace H := Option.bind_eq_some_iff.mp H; obtain ⟨t413, A130, H⟩ := H; replace H : (some ((t413.length : Int) == 1)) = some r := H; have A13 := zA.mk A130; clear A130; obtain rfl := Option.some.inj H
 go_enter Try.func23, Try.ntmps23
 go_wp2_with (first | ((with_reducible refine gate_callee (f := 14) rfl ?_); refine goesL_ (some 6) rfl rfl Try.func14 (by kernel_rfl) rfl #[.slice none 0 0, .int .i64 1] rfl aT ?_; (refine (prop_MakeY.calls _ _ ([] : List (S45)) 1 t383 _ ?side1 ?side2 A2.out).mono ?_); (case side1 => exact Kd.C_nil _ _); (case side2 => exact Nat.le_refl _); rintro e w14 ⟨gb382, ob382, gb383, ob383, rfl, hx1, hx2, hg1, hg2, hne, htb, hb⟩; refine ⟨_, rfl, ?_⟩; have BK382 := zA.mk (hx1); have GW382 := zA.mk ((Nat.le_trans (zF (aL HB)) hg1 : w.heap.size ≤ gb382)); have GE382 := zA.mk ((Nat.le_trans (zF (aL HB)) hg1 : w.heap.size ≤ gb382)); have NB382_383 := zA.mk (hne); have BK383 := zA.mk (hx2); have GW383 := zA.mk ((Nat.le_trans (zF (aL HB)) hg2 : w.heap.size ≤ gb383)); have GE383 := zA.mk ((Nat.le_trans (zF (aL HB)) hg2 : w.heap.size ≤ gb383)); replace HB := zA.mk (below_step (aL HB) hb); have NB383_382 := zA.mk (Ne.symm hne); have HTt383 := zA.mk (htb); clear hb hx1 hx2 hg1 hg2 hne htb) | ((with_reducible refine gate_callee (f := 24) rfl ?_); refine goesL_ (some 12) rfl rfl Try.func24 (by kernel_rfl) rfl #[.slice none 0 0, .slice none 0 0, .slice none 0 0, .slice none 0 0, .pointer (some ⟨gb382, 0, none⟩)] rfl aT ?_; (refine (items_Make.calls k _ _ ([] : List (S50)) _ _ ([] : List Int) _ _ ([] : List Int) _ _ ([] : List Bool) (.pointer (some ⟨gb382, 0, none⟩)) t383 t384 t387 _ ?side1 ?side2 ?side3 ?side4 ?side5 ?side6 ?side7 ?side8 ?side9 A3.out).mono ?_); (case side1 => exact Kd.C_nil _ _); (case side2 => exact Nat.le_refl _); (case side3 => exact Kd.C_nil _ _); (case side4 => exact Nat.le_refl _); (case side5 => exact Kd.C_nil _ _); (case side6 => exact Nat.le_refl _); (case side7 => exact Kd.C_nil _ _); (case side8 => exact Nat.le_refl _); (case side9 => exact TabO.at HTt383.out (aB BK382) (aB BK383)); rintro e w15 ⟨v385, v388, rfl, ho0, ho1, hb⟩; refine ⟨_, rfl, ?_⟩; have HO386 := zA.mk (Kd.zR (Kd.R_newB (Kd.R_newB ho0 (g := gb382) (o := ob382) (aB BK382)) (g := gb383) (o := ob383) (aB BK383)) (zF (aL HB))); have HO389 := zA.mk (Kd.zR (Kd.R_newB (Kd.R_newB ho1 (g := gb382) (o := ob382) (aB BK382)) (g := gb383) (o := ob383) (aB BK383)) (zF (aL HB))); replace BK382 := zA.mk (blk_below (aB BK382) hb); replace BK383 := zA.mk (blk_below (aB BK383) hb); replace HB := zA.mk (below_step (aL HB) hb); (try clear hb); (try clear hb2); (try clear hk); (try clear hi); (try clear ho0); (try clear ho1)) | ((with_reducible refine gate_dst (N := 3) rfl ?_); (try (refine gate_guard (by rfl) ?_; dsimp only)); refine box_event ?hg (N := 3) ?hd (cs := #[.slice none 0 0, .slice none 0 0]) (t := 60) ?hr ?_; (case hd => rfl); (case hg => rfl); (case hr => first | (go_simp; done) | (go_simp; rfl)); intro gb390 hg w16 hbox hb; replace HO386 := zA.mk (Kd.zO (aR HO386) hb); replace HO389 := zA.mk (Kd.zO (aR HO389) hb); have BK390 := zA.mk (hbox); have GW390 := zA.mk ((by rw [hg]; exact (zF (aL HB)) : w.heap.size ≤ gb390)); replace HB := zA.mk (below_step (aL HB) hb); have GE390 := GW390; have NB382_390 := zA.mk ((by rw [hg]; exact Nat.ne_of_lt (blk_lt (aB BK382)) : gb382 ≠ gb390)); have NB390_382 := zA.mk ((by rw [hg]; exact Nat.ne_of_gt (blk_lt (g := gb382) (o := ob382) (aB BK382)) : gb390 ≠ gb382)); replace BK382 := zA.mk (blk_below (aB BK382) hb); have NB383_390 := zA.mk ((by rw [hg]; exact Nat.ne_of_lt (blk_lt (aB BK383)) : gb383 ≠ gb390)); have NB390_383 := zA.mk ((by rw [hg]; exact Nat.ne_of_gt (blk_lt (g := gb383) (o := ob383) (aB BK383)) : gb390 ≠ gb383)); replace BK383 := zA.mk (blk_below (aB BK383) hb); clear hb hbox hg; obtain ⟨Ao17, co17, eo17⟩ := Kd.zQ HO386.out; subst eo17; have hnb18 := NB390_382.out; have hnc18 := NB382_390.out; have hnb19 := NB390_383.out; have hnc19 := NB383_390.out; obtain ⟨hcz20_0, hcz20_1, hfz20_0, hfz20_1⟩ := aC2 BK390; obtain ⟨Ao21, co21, eo21⟩ := Kd.zQ HO389.out; subst eo21) | ((with_reducible refine gate_store (t := 60) (p := 3) rfl ?_); refine store_event (t := 60) (p := 3) (v := ?vo_w22) (w1 := ((w16.setCell ⟨gb390, 0, none⟩ (.slice Ao17 t384.length co17)).setCell ⟨gb390, 1, none⟩ (.slice Ao21 t387.length co21))) ?hg ?ho ?hn ?hr ?_; (case ho => rfl); (case hg => rfl); (case hn => rfl); (case hr => first | (go_simp; done) | (go_simp; rfl)); intro w22 hw; have n0_ : zA (Kd.R k48 48 w22 w.heap.size (fun k_ => k_ ≠ gb382 ∧ k_ ≠ gb383) (.slice Ao17 t384.length co17) t384) := ⟨(by rw [hw]; exact (by (with_reducible repeat (first | apply Kd.zG | apply Kd.zH | apply Kd.zI)); exact Kd.zS (Kd.zP (p := ⟨gb390, 1, none⟩) (Kd.zP (p := ⟨gb390, 0, none⟩) (Kd.zT HO386.out BK390.out (by decide)) (fun _ hk => hk.2) (.slice Ao17 t384.length co17)) (fun _ hk => hk.2) (.slice Ao21 t387.length co21)) (fun _ hk => ⟨hk.1.1.2, hk.1.2⟩)))⟩; have n1_ : zA (Kd.R (Kd.int .u8) 53 w22 w.heap.size (fun k_ => k_ ≠ gb382 ∧ k_ ≠ gb383) (.slice Ao21 t387.length co21) t387) := ⟨(by rw [hw]; exact (by (with_reducible repeat (first | apply Kd.zG | apply Kd.zH | apply Kd.zI)); exact Kd.zS (Kd.zP (p := ⟨gb390, 1, none⟩) (Kd.zP (p := ⟨gb390, 0, none⟩) (Kd.zT HO389.out BK390.out (by decide)) (fun _ hk => hk.2) (.slice Ao17 t384.length co17)) (fun _ hk => hk.2) (.slice Ao21 t387.length co21)) (fun _ hk => ⟨hk.1.1.2, hk.1.2⟩)))⟩; have n2_ : zA (w22.heap[gb382]? = some (ob382)) := ⟨(by rw [hw]; exact (by (with_reducible repeat (first | refine zD ?_ _ | refine zC ?_ | refine zB ?_ _)); refine blk_farO ?_ NB382_390.out _; (with_reducible repeat (first | refine zD ?_ _ | refine zC ?_ | refine zB ?_ _)); refine blk_farO ?_ NB382_390.out _; (with_reducible repeat (first | refine zD ?_ _ | refine zC ?_ | refine zB ?_ _)); exact BK382.out))⟩; have n3_ : zA (w22.heap[gb383]? = some (ob383)) := ⟨(by rw [hw]; exact (by (with_reducible repeat (first | refine zD ?_ _ | refine zC ?_ | refine zB ?_ _)); refine blk_farO ?_ NB383_390.out _; (with_reducible repeat (first | refine zD ?_ _ | refine zC ?_ | refine zB ?_ _)); refine blk_farO ?_ NB383_390.out _; (with_reducible repeat (first | refine zD ?_ _ | refine zC ?_ | refine zB ?_ _)); exact BK383.out))⟩; have n4_ : zA (w22.heap[gb390]? = some (.cells #[.slice Ao17 t384.length co17, .slice Ao21 t387.length co21] 60 (0, 0))) := ⟨(by rw [hw]; exact (by (with_reducible repeat (first | refine zD ?_ _ | refine zC ?_ | refine zB ?_ _)); refine blk_put (cs := #[.slice Ao17 t384.length co17, .slice none 0 0]) ?_ 1 _ rfl; (with_reducible repeat (first | refine zD ?_ _ | refine zC ?_ | refine zB ?_ _)); refine blk_put (cs := #[.slice none 0 0, .slice none 0 0]) ?_ 0 _ rfl; (with_reducible repeat (first | refine zD ?_ _ | refine zC ?_ | refine zB ?_ _)); exact BK390.out))⟩; have n5_ : zA (Below w.heap.size w w22) := ⟨(by rw [hw]; exact (aL HB))⟩; clear hw; clear HO386; clear HO389; clear BK382; clear BK383; clear BK390; clear HB; have HO386 := n0_; have HO389 := n1_; have BK382 := n2_; have BK383 := n3_; have BK390 := n4_; have HB := n5_; clear n0_ n1_ n2_ n3_ n4_ n5_) | ((with_reducible refine gate_dst (N := 15) rfl ?_); (try (refine gate_guard (by rfl) ?_; dsimp only)); refine Kd.R_lit k50 _ 50 ?hg (N := 15) ?hd (xs := ([(⟨97, 0, 1⟩ : S50), (⟨98, 1, 1⟩ : S50)] : List (S50))) (inner := [.int .i32 97, .int .i64 0, .int .i64 1, .int .i32 98, .int .i64 1, .int .i64 1]) (ok := fun _ => True) (okp := fun _ => True) ?hr ?hp (fun _ hk => hk) trivial (Below.refl _ _) (Nat.le_refl _) (by simp) ?_; (case hd => rfl); (case hg => rfl); (case hr => first | (go_simp; done) | (go_simp; rfl)); (case hp => exact (Reps.c3 (show Kd.M k50 _ _ _ (⟨97, 0, 1⟩ : S50) [.int .i32 97, .int .i64 0, .int .i64 1] from (k50_mkM _ _ _ (⟨97, 0, 1⟩ : S50) )) (Reps.c3 (show Kd.M k50 _ _ _ (⟨98, 1, 1⟩ : S50) [.int .i32 98, .int .i64 1, .int .i64 1] from (k50_mkM _ _ _ (⟨98, 1, 1⟩ : S50) )) (Reps.none _ _)))); intro v392 w23 ho24 hb hg_ hnew_; clear hg_ hnew_; (first | rw [← Ny391.out] at ho24 | (simp only [Int.reduceToNat] at ho24; rw [← Ny391.out] at ho24)); replace HO386 := zA.mk (Kd.zO (aR HO386) hb); replace HO389 := zA.mk (Kd.zO (aR HO389) hb); have HO393 := zA.mk (Kd.zR (Kd.R_newB (Kd.R_newB ho24 (g := gb382) (o := ob382) (aB BK382)) (g := gb383) (o := ob383) (aB BK383)) (zF (aL HB))); replace BK382 := zA.mk (blk_below (aB BK382) hb); replace BK383 := zA.mk (blk_below (aB BK383) hb); replace BK390 := zA.mk (blk_below (aB BK390) hb); replace HB := zA.mk (below_step (aL HB) hb); clear hb ho24) | ((with_reducible refine gate_dst (N := 16) rfl ?_); (try (refine gate_guard (by rfl) ?_; dsimp only)); refine Kd.R_lit (Kd.int .u8) _ 53 ?hg (N := 16) ?hd (xs := ([0, 1, 2] : List Int)) (inner := [.int .u8 0, .int .u8 1, .int .u8 2]) (ok := fun _ => True) (okp := fun _ => True) ?hr ?hp (fun _ hk => hk) trivial (Below.refl _ _) (Nat.le_refl _) (by simp) ?_; (case hd => rfl); (case hg => rfl); (case hr => first | (go_simp; done) | (go_simp; rfl)); (case hp => exact (Reps.one (show Kd.M (Kd.int .u8) _ _ _ 0 [.int .u8 0] from rfl) (Reps.one (show Kd.M (Kd.int .u8) _ _ _ 1 [.int .u8 1] from rfl) (Reps.one (show Kd.M (Kd.int .u8) _ _ _ 2 [.int .u8 2] from rfl) (Reps.none _ _))))); intro v395 w25 ho26 hb hg_ hnew_; clear hg_ hnew_; (first | rw [← Ny394.out] at ho26 | (simp only [Int.reduceToNat] at ho26; rw [← Ny394.out] at ho26)); replace HO386 := zA.mk (Kd.zO (aR HO386) hb); replace HO393 := zA.mk (Kd.zO (aR HO393) hb); have HO396 := zA.mk (Kd.zR (Kd.R_newB (Kd.R_newB (Kd.R_new' ho26 (Kd.R_lt (aR HO389))) (g := gb382) (o := ob382) (aB BK382)) (g := gb383) (o := ob383) (aB BK383)) (zF (aL HB))); replace HO389 := zA.mk (Kd.R_elder' (aR HO389) (Kd.R_base ho26) hb); replace BK382 := zA.mk (blk_below (aB BK382) hb); replace BK383 := zA.mk (blk_below (aB BK383) hb); replace BK390 := zA.mk (blk_below (aB BK390) hb); replace HB := zA.mk (below_step (aL HB) hb); clear hb ho26) | ((with_reducible refine gate_dst (N := 17) rfl ?_); (try (refine gate_guard (by rfl) ?_; dsimp only)); refine Kd.R_lit (Kd.int .u8) _ 53 ?hg (N := 17) ?hd (xs := ([0, 0, 2] : List Int)) (inner := [.int .u8 0, .int .u8 0, .int .u8 2]) (ok := fun _ => True) (okp := fun _ => True) ?hr ?hp (fun _ hk => hk) trivial (Below.refl _ _) (Nat.le_refl _) (by simp) ?_; (case hd => rfl); (case hg => rfl); (case hr => first | (go_simp; done) | (go_simp; rfl)); (case hp => exact (Reps.one (show Kd.M (Kd.int .u8) _ _ _ 0 [.int .u8 0] from rfl) (Reps.one (show Kd.M (Kd.int .u8) _ _ _ 0 [.int .u8 0] from rfl) (Reps.one (show Kd.M (Kd.int .u8) _ _ _ 2 [.int .u8 2] from rfl) (Reps.none _ _))))); intro v398 w27 ho28 hb hg_ hnew_; clear hg_ hnew_; (first | rw [← Ny397.out] at ho28 | (simp only [Int.reduceToNat] at ho28; rw [← Ny397.out] at ho28)); replace HO386 := zA.mk (Kd.zO (aR HO386) hb); replace HO393 := zA.mk (Kd.zO (aR HO393) hb); have HO399 := zA.mk (Kd.zR (Kd.R_newB (Kd.R_newB (Kd.R_new' (Kd.R_new' ho28 (Kd.R_lt (aR HO389))) (Kd.R_lt (aR HO396))) (g := gb382) (o := ob382) (aB BK382)) (g := gb383) (o := ob383) (aB BK383)) (zF (aL HB))); replace HO389 := zA.mk (Kd.R_elder' (aR HO389) (Kd.R_base ho28) hb); replace HO396 := zA.mk (Kd.R_elder' (aR HO396) (Kd.R_base ho28) hb); replace BK382 := zA.mk (blk_below (aB BK382) hb); replace BK383 := zA.mk (blk_below (aB BK383) hb); replace BK390 := zA.mk (blk_below (aB BK390) hb); replace HB := zA.mk (below_step (aL HB) hb); clear hb ho28) | ((with_reducible refine gate_dst (N := 18) rfl ?_); (try (refine gate_guard (by rfl) ?_; dsimp only)); refine Kd.R_lit Kd.bool _ 4 ?hg (N := 18) ?hd (xs := ([false, true, false] : List Bool)) (inner := [.bool false, .bool true, .bool false]) (ok := fun _ => True) (okp := fun _ => True) ?hr ?hp (fun _ hk => hk) trivial (Below.refl _ _) (Nat.le_refl _) (by simp) ?_; (case hd => rfl); (case hg => rfl); (case hr => first | (go_simp; done) | (go_simp; rfl)); (case hp => exact (Reps.one (show Kd.M Kd.bool _ _ _ false [.bool false] from rfl) (Reps.one (show Kd.M Kd.bool _ _ _ true [.bool true] from rfl) (Reps.one (show Kd.M Kd.bool _ _ _ false [.bool false] from rfl) (Reps.none _ _))))); intro v401 w29 ho30 hb hg_ hnew_; clear hg_ hnew_; (first | rw [← Ny400.out] at ho30 | (simp only [Int.reduceToNat] at ho30; rw [← Ny400.out] at ho30)); replace HO386 := zA.mk (Kd.zO (aR HO386) hb); replace HO389 := zA.mk (Kd.zO (aR HO389) hb); replace HO393 := zA.mk (Kd.zO (aR HO393) hb); replace HO396 := zA.mk (Kd.zO (aR HO396) hb); replace HO399 := zA.mk (Kd.zO (aR HO399) hb); have HO402 := zA.mk (Kd.zR (Kd.R_newB (Kd.R_newB ho30 (g := gb382) (o := ob382) (aB BK382)) (g := gb383) (o := ob383) (aB BK383)) (zF (aL HB))); replace BK382 := zA.mk (blk_below (aB BK382) hb); replace BK383 := zA.mk (blk_below (aB BK383) hb); replace BK390 := zA.mk (blk_below (aB BK390) hb); replace HB := zA.mk (below_step (aL HB) hb); clear hb ho30; obtain ⟨Ao31, co31, eo31⟩ := Kd.zQ HO393.out; subst eo31; obtain ⟨Ao32, co32, eo32⟩ := Kd.zQ HO396.out; subst eo32; obtain ⟨Ao33, co33, eo33⟩ := Kd.zQ HO399.out; subst eo33; obtain ⟨Ao34, co34, eo34⟩ := Kd.zQ HO402.out; subst eo34) | ((with_reducible refine gate_callee (f := 24) rfl ?_); refine goesL_ (some 20) rfl rfl Try.func24 (by kernel_rfl) rfl #[.slice Ao31 y391.length co31, .slice Ao32 y394.length co32, .slice Ao33 y397.length co33, .slice Ao34 y400.length co34, .pointer (some ⟨gb382, 0, none⟩)] rfl aT ?_; (with_reducible refine (items_Make.calls k _ _ y391 _ _ y394 _ _ y397 _ _ y400 (.pointer (some ⟨gb382, 0, none⟩)) t383 t403 t406 _ ?side1 ?side2 ?side3 ?side4 ?side5 ?side6 ?side7 ?side8 ?side9 A4.out).mono ?_); (case side1 => exact aF HO393); (case side2 => exact (Kd.zN HO393.out).2.1); (case side3 => exact aF HO396); (case side4 => exact (Kd.zN HO396.out).2.1); (case side5 => exact aF HO399); (case side6 => exact (Kd.zN HO399.out).2.1); (case side7 => exact aF HO402); (case side8 => exact (Kd.zN HO402.out).2.1); (case side9 => exact TabO.at HTt383.out (aB BK382) (aB BK383)); rintro e w35 ⟨v404, v407, rfl, ho0, ho1, hb⟩; refine ⟨_, rfl, ?_⟩; replace HO393 := zA.mk (Kd.zO (aR HO393) hb); replace HO402 := zA.mk (Kd.zO (aR HO402) hb); have HO405 := zA.mk (Kd.zR (Kd.R_newB (Kd.R_newB (Kd.R_new' ho0 (Kd.R_lt (aR HO386))) (g := gb382) (o := ob382) (aB BK382)) (g := gb383) (o := ob383) (aB BK383)) (zF (aL HB))); replace HO386 := zA.mk (Kd.R_elder' (aR HO386) (Kd.R_base ho0) hb); have HO408 := zA.mk (Kd.zR (Kd.R_newB (Kd.R_newB (Kd.R_new' (Kd.R_new' (Kd.R_new' ho1 (Kd.R_lt (aR HO389))) (Kd.R_lt (aR HO396))) (Kd.R_lt (aR HO399))) (g := gb382) (o := ob382) (aB BK382)) (g := gb383) (o := ob383) (aB BK383)) (zF (aL HB))); replace HO389 := zA.mk (Kd.R_elder' (aR HO389) (Kd.R_base ho1) hb); replace HO396 := zA.mk (Kd.R_elder' (aR HO396) (Kd.R_base ho1) hb); replace HO399 := zA.mk (Kd.R_elder' (aR HO399) (Kd.R_base ho1) hb); replace BK382 := zA.mk (blk_below (aB BK382) hb); replace BK383 := zA.mk (blk_below (aB BK383) hb); replace BK390 := zA.mk (blk_below (aB BK390) hb); replace HB := zA.mk (below_step (aL HB) hb); (try clear hb); (try clear hb2); (try clear hk); (try clear hi); (try clear ho0); (try clear ho1)) | ((with_reducible refine gate_dst (N := 4) rfl ?_); (try (refine gate_guard (by rfl) ?_; dsimp only)); refine box_event ?hg (N := 4) ?hd (cs := #[.slice none 0 0, .slice none 0 0]) (t := 60) ?hr ?_; (case hd => rfl); (case hg => rfl); (case hr => first | (go_simp; done) | (go_simp; rfl)); intro gb409 hg w36 hbox hb; replace HO386 := zA.mk (Kd.zO (aR HO386) hb); replace HO389 := zA.mk (Kd.zO (aR HO389) hb); replace HO393 := zA.mk (Kd.zO (aR HO393) hb); replace HO396 := zA.mk (Kd.zO (aR HO396) hb); replace HO399 := zA.mk (Kd.zO (aR HO399) hb); replace HO402 := zA.mk (Kd.zO (aR HO402) hb); replace HO405 := zA.mk (Kd.zO (aR HO405) hb); replace HO408 := zA.mk (Kd.zO (aR HO408) hb); have BK409 := zA.mk (hbox); have GW409 := zA.mk ((by rw [hg]; exact (zF (aL HB)) : w.heap.size ≤ gb409)); replace HB := zA.mk (below_step (aL HB) hb); have GE409 := GW409; have NB382_409 := zA.mk ((by rw [hg]; exact Nat.ne_of_lt (blk_lt (aB BK382)) : gb382 ≠ gb409)); have NB409_382 := zA.mk ((by rw [hg]; exact Nat.ne_of_gt (blk_lt (g := gb382) (o := ob382) (aB BK382)) : gb409 ≠ gb382)); replace BK382 := zA.mk (blk_below (aB BK382) hb); have NB383_409 := zA.mk ((by rw [hg]; exact Nat.ne_of_lt (blk_lt (aB BK383)) : gb383 ≠ gb409)); have NB409_383 := zA.mk ((by rw [hg]; exact Nat.ne_of_gt (blk_lt (g := gb383) (o := ob383) (aB BK383)) : gb409 ≠ gb383)); replace BK383 := zA.mk (blk_below (aB BK383) hb); have NB390_409 := zA.mk ((by rw [hg]; exact Nat.ne_of_lt (blk_lt (aB BK390)) : gb390 ≠ gb409)); have NB409_390 := zA.mk ((by rw [hg]; exact Nat.ne_of_gt (blk_lt (g := gb390) (o := .cells #[.slice Ao17 t384.length co17, .slice Ao21 t387.length co21] 60 (0, 0)) (aB BK390)) : gb409 ≠ gb390)); replace BK390 := zA.mk (blk_below (aB BK390) hb); clear hb hbox hg; obtain ⟨Ao37, co37, eo37⟩ := Kd.zQ HO405.out; subst eo37; have hnb38 := NB409_382.out; have hnc38 := NB382_409.out; have hnb39 := NB409_383.out; have hnc39 := NB383_409.out; have hnb40 := NB409_390.out; have hnc40 := NB390_409.out; obtain ⟨hcz41_0, hcz41_1, hfz41_0, hfz41_1⟩ := aC2 BK409; obtain ⟨Ao42, co42, eo42⟩ := Kd.zQ HO408.out; subst eo42) | ((with_reducible refine gate_store (t := 60) (p := 4) rfl ?_); refine store_event (t := 60) (p := 4) (v := ?vo_w43) (w1 := ((w36.setCell ⟨gb409, 0, none⟩ (.slice Ao37 t403.length co37)).setCell ⟨gb409, 1, none⟩ (.slice Ao42 t406.length co42))) ?hg ?ho ?hn ?hr ?_; (case ho => rfl); (case hg => rfl); (case hn => rfl); (case hr => first | (go_simp; done) | (go_simp; rfl)); intro w43 hw; have n0_ : zA (Kd.R k48 48 w43 w.heap.size (fun k_ => some k_ ≠ (.slice Ao37 t403.length co37 : Value).ownBlock ∧ k_ ≠ gb382 ∧ k_ ≠ gb383) (.slice Ao17 t384.length co17) t384) := ⟨(by rw [hw]; exact (by (with_reducible repeat (first | apply Kd.zG | apply Kd.zH | apply Kd.zI)); exact Kd.zS (Kd.zP (p := ⟨gb409, 1, none⟩) (Kd.zP (p := ⟨gb409, 0, none⟩) (Kd.zT HO386.out BK409.out (by decide)) (fun _ hk => hk.2) (.slice Ao37 t403.length co37)) (fun _ hk => hk.2) (.slice Ao42 t406.length co42)) (fun _ hk => ⟨hk.1.2, ⟨hk.1.1.1, hk.1.1.2⟩⟩)))⟩; have n1_ : zA (Kd.R (Kd.int .u8) 53 w43 w.heap.size (fun k_ => some k_ ≠ (.slice Ao32 y394.length co32 : Value).ownBlock ∧ some k_ ≠ (.slice Ao33 y397.length co33 : Value).ownBlock ∧ some k_ ≠ (.slice Ao42 t406.length co42 : Value).ownBlock ∧ k_ ≠ gb382 ∧ k_ ≠ gb383) (.slice Ao21 t387.length co21) t387) := ⟨(by rw [hw]; exact (by (with_reducible repeat (first | apply Kd.zG | apply Kd.zH | apply Kd.zI)); exact Kd.zS (Kd.zP (p := ⟨gb409, 1, none⟩) (Kd.zP (p := ⟨gb409, 0, none⟩) (Kd.zT HO389.out BK409.out (by decide)) (fun _ hk => hk.2) (.slice Ao37 t403.length co37)) (fun _ hk => hk.2) (.slice Ao42 t406.length co42)) (fun _ hk => ⟨hk.1.1.1.2, ⟨hk.1.1.2, ⟨hk.1.2, ⟨hk.1.1.1.1.1, hk.1.1.1.1.2⟩⟩⟩⟩)))⟩; have n2_ : zA (Kd.R k50 50 w43 w.heap.size (fun k_ => k_ ≠ gb382 ∧ k_ ≠ gb383) (.slice Ao31 y391.length co31) y391) := ⟨(by rw [hw]; exact (by (with_reducible repeat (first | apply Kd.zG | apply Kd.zH | apply Kd.zI)); exact Kd.zS (Kd.zP (p := ⟨gb409, 1, none⟩) (Kd.zP (p := ⟨gb409, 0, none⟩) (Kd.zT HO393.out BK409.out (by decide)) (fun _ hk => hk.2) (.slice Ao37 t403.length co37)) (fun _ hk => hk.2) (.slice Ao42 t406.length co42)) (fun _ hk => ⟨hk.1.1.2, hk.1.2⟩)))⟩; have n3_ : zA (Kd.R (Kd.int .u8) 53 w43 w.heap.size (fun k_ => some k_ ≠ (.slice Ao21 t387.length co21 : Value).ownBlock ∧ some k_ ≠ (.slice Ao33 y397.length co33 : Value).ownBlock ∧ some k_ ≠ (.slice Ao42 t406.length co42 : Value).ownBlock ∧ k_ ≠ gb382 ∧ k_ ≠ gb383) (.slice Ao32 y394.length co32) y394) := ⟨(by rw [hw]; exact (by (with_reducible repeat (first | apply Kd.zG | apply Kd.zH | apply Kd.zI)); exact Kd.zS (Kd.zP (p := ⟨gb409, 1, none⟩) (Kd.zP (p := ⟨gb409, 0, none⟩) (Kd.zT HO396.out BK409.out (by decide)) (fun _ hk => hk.2) (.slice Ao37 t403.length co37)) (fun _ hk => hk.2) (.slice Ao42 t406.length co42)) (fun _ hk => ⟨hk.1.1.1.1.1.2, ⟨hk.1.1.2, ⟨hk.1.2, ⟨hk.1.1.1.1.2, hk.1.1.1.2⟩⟩⟩⟩)))⟩; have n4_ : zA (Kd.R (Kd.int .u8) 53 w43 w.heap.size (fun k_ => some k_ ≠ (.slice Ao21 t387.length co21 : Value).ownBlock ∧ some k_ ≠ (.slice Ao32 y394.length co32 : Value).ownBlock ∧ some k_ ≠ (.slice Ao42 t406.length co42 : Value).ownBlock ∧ k_ ≠ gb382 ∧ k_ ≠ gb383) (.slice Ao33 y397.length co33) y397) := ⟨(by rw [hw]; exact (by (with_reducible repeat (first | apply Kd.zG | apply Kd.zH | apply Kd.zI)); exact Kd.zS (Kd.zP (p := ⟨gb409, 1, none⟩) (Kd.zP (p := ⟨gb409, 0, none⟩) (Kd.zT HO399.out BK409.out (by decide)) (fun _ hk => hk.2) (.slice Ao37 t403.length co37)) (fun _ hk => hk.2) (.slice Ao42 t406.length co42)) (fun _ hk => ⟨hk.1.1.1.1.1.2, ⟨hk.1.1.1.1.2, ⟨hk.1.2, ⟨hk.1.1.1.2, hk.1.1.2⟩⟩⟩⟩)))⟩; have n5_ : zA (Kd.R Kd.bool 4 w43 w.heap.size (fun k_ => k_ ≠ gb382 ∧ k_ ≠ gb383) (.slice Ao34 y400.length co34) y400) := ⟨(by rw [hw]; exact (by (with_reducible repeat (first | apply Kd.zG | apply Kd.zH | apply Kd.zI)); exact Kd.zS (Kd.zP (p := ⟨gb409, 1, none⟩) (Kd.zP (p := ⟨gb409, 0, none⟩) (Kd.zT HO402.out BK409.out (by decide)) (fun _ hk => hk.2) (.slice Ao37 t403.length co37)) (fun _ hk => hk.2) (.slice Ao42 t406.length co42)) (fun _ hk => ⟨hk.1.1.2, hk.1.2⟩)))⟩; have n6_ : zA (Kd.R k48 48 w43 w.heap.size (fun k_ => some k_ ≠ (.slice Ao17 t384.length co17 : Value).ownBlock ∧ k_ ≠ gb382 ∧ k_ ≠ gb383) (.slice Ao37 t403.length co37) t403) := ⟨(by rw [hw]; exact (by (with_reducible repeat (first | apply Kd.zG | apply Kd.zH | apply Kd.zI)); exact Kd.zS (Kd.zP (p := ⟨gb409, 1, none⟩) (Kd.zP (p := ⟨gb409, 0, none⟩) (Kd.zT HO405.out BK409.out (by decide)) (fun _ hk => hk.2) (.slice Ao37 t403.length co37)) (fun _ hk => hk.2) (.slice Ao42 t406.length co42)) (fun _ hk => ⟨hk.1.1.1.2, ⟨hk.1.1.2, hk.1.2⟩⟩)))⟩; have n7_ : zA (Kd.R (Kd.int .u8) 53 w43 w.heap.size (fun k_ => some k_ ≠ (.slice Ao21 t387.length co21 : Value).ownBlock ∧ some k_ ≠ (.slice Ao32 y394.length co32 : Value).ownBlock ∧ some k_ ≠ (.slice Ao33 y397.length co33 : Value).ownBlock ∧ k_ ≠ gb382 ∧ k_ ≠ gb383) (.slice Ao42 t406.length co42) t406) := ⟨(by rw [hw]; exact (by (with_reducible repeat (first | apply Kd.zG | apply Kd.zH | apply Kd.zI)); exact Kd.zS (Kd.zP (p := ⟨gb409, 1, none⟩) (Kd.zP (p := ⟨gb409, 0, none⟩) (Kd.zT HO408.out BK409.out (by decide)) (fun _ hk => hk.2) (.slice Ao37 t403.length co37)) (fun _ hk => hk.2) (.slice Ao42 t406.length co42)) (fun _ hk => ⟨hk.1.1.1.1.1.2, ⟨hk.1.1.1.1.2, ⟨hk.1.1.1.2, ⟨hk.1.1.2, hk.1.2⟩⟩⟩⟩)))⟩; have n8_ : zA (w43.heap[gb382]? = some (ob382)) := ⟨(by rw [hw]; exact (by (with_reducible repeat (first | refine zD ?_ _ | refine zC ?_ | refine zB ?_ _)); refine blk_farO ?_ NB382_409.out _; (with_reducible repeat (first | refine zD ?_ _ | refine zC ?_ | refine zB ?_ _)); refine blk_farO ?_ NB382_409.out _; (with_reducible repeat (first | refine zD ?_ _ | refine zC ?_ | refine zB ?_ _)); exact BK382.out))⟩; have n9_ : zA (w43.heap[gb383]? = some (ob383)) := ⟨(by rw [hw]; exact (by (with_reducible repeat (first | refine zD ?_ _ | refine zC ?_ | refine zB ?_ _)); refine blk_farO ?_ NB383_409.out _; (with_reducible repeat (first | refine zD ?_ _ | refine zC ?_ | refine zB ?_ _)); refine blk_farO ?_ NB383_409.out _; (with_reducible repeat (first | refine zD ?_ _ | refine zC ?_ | refine zB ?_ _)); exact BK383.out))⟩; have n10_ : zA (w43.heap[gb390]? = some (.cells #[.slice Ao17 t384.length co17, .slice Ao21 t387.length co21] 60 (0, 0))) := ⟨(by rw [hw]; exact (aB BK390))⟩; have n11_ : zA (w43.heap[gb409]? = some (.cells #[.slice Ao37 t403.length co37, .slice Ao42 t406.length co42] 60 (0, 0))) := ⟨(by rw [hw]; exact (by (with_reducible repeat (first | refine zD ?_ _ | refine zC ?_ | refine zB ?_ _)); refine blk_put (cs := #[.slice Ao37 t403.length co37, .slice none 0 0]) ?_ 1 _ rfl; (with_reducible repeat (first | refine zD ?_ _ | refine zC ?_ | refine zB ?_ _)); refine blk_put (cs := #[.slice none 0 0, .slice none 0 0]) ?_ 0 _ rfl; (with_reducible repeat (first | refine zD ?_ _ | refine zC ?_ | refine zB ?_ _)); exact BK409.out))⟩; have n12_ : zA (Below w.heap.size w w43) := ⟨(by rw [hw]; exact (aL HB))⟩; clear hw; clear HO386; clear HO389; clear HO393; clear HO396; clear HO399; clear HO402; clear HO405; clear HO408; clear BK382; clear BK383; clear BK390; clear BK409; clear HB; have HO386 := n0_; have HO389 := n1_; have HO393 := n2_; have HO396 := n3_; have HO399 := n4_; have HO402 := n5_; have HO405 := n6_; have HO408 := n7_; have BK382 := n8_; have BK383 := n9_; have BK390 := n10_; have BK409 := n11_; have HB := n12_; clear n0_ n1_ n2_ n3_ n4_ n5_ n6_ n7_ n8_ n9_ n10_ n11_ n12_; obtain ⟨hcz44_0, hcz44_1, hfz44_0, hfz44_1⟩ := aC2 BK390; have p410 : 0 ≤ (0 : Int) := (by omega); have q410 : 0 < (t387.length : Int) := aD; obtain ⟨ad410, e410, hx410_0⟩ := Kd.at_int (Kd.zN HO389.out).2.2 0 p410 q410; cases e410; have qi410 : (0 < t387.length) = True := eq_true (by omega); (try rw [show ((0 : Int)).toNat = 0 from rfl] at hx410_0); (try rw [Addr.add_zero'] at hx410_0); replace p410 := eq_true p410; replace q410 := eq_true q410) | (go_at_call 28; (with_reducible refine (items_Check.calls k _ _ t384 _ _ t387 true _ ?side1 ?side2 ?side3 ?side4 A8.out).mono ?_); (case side1 => exact aF HO386); (case side2 => exact (Kd.zN HO386.out).2.1); (case side3 => exact aF HO389); (case side4 => exact (Kd.zN HO389.out).2.1); rintro e w45 ⟨rfl, hb⟩; replace HO386 := zA.mk (Kd.zO (aR HO386) hb); replace HO389 := zA.mk (Kd.zO (aR HO389) hb); replace HO393 := zA.mk (Kd.zO (aR HO393) hb); replace HO396 := zA.mk (Kd.zO (aR HO396) hb); replace HO399 := zA.mk (Kd.zO (aR HO399) hb); replace HO402 := zA.mk (Kd.zO (aR HO402) hb); replace HO405 := zA.mk (Kd.zO (aR HO405) hb); replace HO408 := zA.mk (Kd.zO (aR HO408) hb); replace BK382 := zA.mk (blk_below (aB BK382) hb); replace BK383 := zA.mk (blk_below (aB BK383) hb); replace BK390 := zA.mk (blk_below (aB BK390) hb); replace BK409 := zA.mk (blk_below (aB BK409) hb); replace HB := zA.mk (below_step (aL HB) hb); (try clear hb); (try clear hb2); (try clear hk); (try clear hi); obtain ⟨hcz46_0, hcz46_1, hfz46_0, hfz46_1⟩ := aC2 BK409; have p412 : 0 ≤ (1 : Int) := (by omega); have q412 : 1 < (t406.length : Int) := aD; obtain ⟨ad412, e412, hx412_0⟩ := Kd.at_int (Kd.zN HO408.out).2.2 1 p412 q412; cases e412; (try simp only [show (1 : Int).toNat = 1 from rfl, Nat.reduceMul, Nat.reduceEqDiff, Go.Addr.add, ↓reduceIte] at hx412_0); have qi412 : (1 < t406.length) = True := eq_true (by omega); (try rw [show ((1 : Int)).toNat = 1 from rfl] at hx412_0); replace p412 := eq_true p412; replace q412 := eq_true q412) | (go_at_call 30; (with_reducible refine (items_Parts.calls k _ _ t403 _ _ t406 t413 _ ?side1 ?side2 ?side3 ?side4 A13.out).mono ?_); (case side1 => exact aF HO405); (case side2 => exact (Kd.zN HO405.out).2.1); (case side3 => exact aF HO408); (case side4 => exact (Kd.zN HO408.out).2.1); rintro e w47 ⟨v414, rfl, ho0, hb⟩; replace HO386 := zA.mk (Kd.zO (aR HO386) hb); replace HO389 := zA.mk (Kd.zO (aR HO389) hb); replace HO393 := zA.mk (Kd.zO (aR HO393) hb); replace HO396 := zA.mk (Kd.zO (aR HO396) hb); replace HO399 := zA.mk (Kd.zO (aR HO399) hb); replace HO402 := zA.mk (Kd.zO (aR HO402) hb); replace HO405 := zA.mk (Kd.zO (aR HO405) hb); replace HO408 := zA.mk (Kd.zO (aR HO408) hb); have HO415 := zA.mk (Kd.zR (Kd.R_newB (Kd.R_newB ho0 (g := gb382) (o := ob382) (aB BK382)) (g := gb383) (o := ob383) (aB BK383)) (zF (aL HB))); replace BK382 := zA.mk (blk_below (aB BK382) hb); replace BK383 := zA.mk (blk_below (aB BK383) hb); replace BK390 := zA.mk (blk_below (aB BK390) hb); replace BK409 := zA.mk (blk_below (aB BK409) hb); replace HB := zA.mk (below_step (aL HB) hb); (try clear hb); (try clear hb2); (try clear hk); (try clear hi); (try clear ho0); obtain ⟨Ao48, co48, eo48⟩ := Kd.zQ HO415.out; subst eo48))
 go_ret
 exact ⟨aX, aL HB⟩
end Go.Proofs.Ytigajcipjklknaa.F
end
