/- Printed by a program: Lean functions that answer as the Go functions do, and the proofs of it. -/
import Derived.Test.YtigajcipjklknaaXCellsMakes0
import Derived.Test.YtigajcipjklknaaVCellsMakes0
section
namespace Go.Proofs.Ytigajcipjklknaa.F
open Go.RowKit Go.Proofs.YtigajcipjklknaaW.PrintWords Go.Proofs.YtigajcipjklknaaW.PrintLast Go.Proofs.YtigajcipjklknaaW.PrintMore
attribute [local go_sem] max2_int min2_int max_two min_two max_three min_three max_four min_four   -- for this text's walks alone
set_option linter.unusedVariables false
set_option linter.unusedSimpArgs false
def h3_signs.f  : Option (List ByteArray) := some (([(⟨#[9]⟩ : ByteArray), (⟨#[10]⟩ : ByteArray), (⟨#[32]⟩ : ByteArray), (⟨#[45]⟩ : ByteArray), (⟨#[97]⟩ : ByteArray), (⟨#[98]⟩ : ByteArray), (⟨#[99]⟩ : ByteArray), (⟨#[195, 169]⟩ : ByteArray), (⟨#[204, 129]⟩ : ByteArray), (⟨#[226, 128, 141]⟩ : ByteArray), (⟨#[228, 184, 173]⟩ : ByteArray), (⟨#[240, 159, 152, 128]⟩ : ByteArray), (⟨#[255]⟩ : ByteArray), (⟨#[240, 159]⟩ : ByteArray)] : List ByteArray))
set_option maxHeartbeats 8000000 in
set_option maxRecDepth 100000 in
theorem h3_signs.calls  (r : List ByteArray) (w : World) (h : h3_signs.f  = some r) :
  Calls Try.prog 34 #[] w fun e w' => ∃ v0_ : Value, e = .returned (v0_) ∧ Kd.R Kd.string 9 w' w.heap.size (fun _ => True) v0_ r ∧ Below w.heap.size w w' := by
 have HB := zA.mk (Below.refl w.heap.size w); have H : (some (([(⟨#[9]⟩ : ByteArray), (⟨#[10]⟩ : ByteArray), (⟨#[32]⟩ : ByteArray), (⟨#[45]⟩ : ByteArray), (⟨#[97]⟩ : ByteArray), (⟨#[98]⟩ : ByteArray), (⟨#[99]⟩ : ByteArray), (⟨#[195, 169]⟩ : ByteArray), (⟨#[204, 129]⟩ : ByteArray), (⟨#[226, 128, 141]⟩ : ByteArray), (⟨#[228, 184, 173]⟩ : ByteArray), (⟨#[240, 159, 152, 128]⟩ : ByteArray), (⟨#[255]⟩ : ByteArray), (⟨#[240, 159]⟩ : ByteArray)] : List ByteArray))) = some r := h
 clear h; obtain ⟨y169, hy169⟩ : ∃ y_ : List ByteArray, y_ = (([(⟨#[9]⟩ : ByteArray), (⟨#[10]⟩ : ByteArray), (⟨#[32]⟩ : ByteArray), (⟨#[45]⟩ : ByteArray), (⟨#[97]⟩ : ByteArray), (⟨#[98]⟩ : ByteArray), (⟨#[99]⟩ : ByteArray), (⟨#[195, 169]⟩ : ByteArray), (⟨#[204, 129]⟩ : ByteArray), (⟨#[226, 128, 141]⟩ : ByteArray), (⟨#[228, 184, 173]⟩ : ByteArray), (⟨#[240, 159, 152, 128]⟩ : ByteArray), (⟨#[255]⟩ : ByteArray), (⟨#[240, 159]⟩ : ByteArray)] : List ByteArray)) := ⟨_, rfl⟩; replace H : (some y169) = some r := by first | (rw [hy169]; with_reducible exact H) | (have H2_ := (Option.bind_some _ _).symm.trans H; rw [hy169]; with_reducible exact H2_) | (have H2_ := (Option.bind_some _ _).symm.trans H; with_reducible exact H2_) | with_reducible exact H | (rw [hy169]; exact H) | exact H
 have Ny169 := zA.mk hy169; clear hy169; obtain rfl := Option.some.inj H
 go_enter Try.func34, Try.ntmps34
 go_wp2_with (first | ((with_reducible refine gate_dst (N := 1) rfl ?_); refine Kd.R_lit Kd.string _ 9 ?hg (N := 1) ?hd (xs := ([(⟨#[9]⟩ : ByteArray), (⟨#[10]⟩ : ByteArray), (⟨#[32]⟩ : ByteArray), (⟨#[45]⟩ : ByteArray), (⟨#[97]⟩ : ByteArray), (⟨#[98]⟩ : ByteArray), (⟨#[99]⟩ : ByteArray), (⟨#[195, 169]⟩ : ByteArray), (⟨#[204, 129]⟩ : ByteArray), (⟨#[226, 128, 141]⟩ : ByteArray), (⟨#[228, 184, 173]⟩ : ByteArray), (⟨#[240, 159, 152, 128]⟩ : ByteArray), (⟨#[255]⟩ : ByteArray), (⟨#[240, 159]⟩ : ByteArray)] : List ByteArray)) (inner := [.string (⟨#[9]⟩ : ByteArray), .string (⟨#[10]⟩ : ByteArray), .string (⟨#[32]⟩ : ByteArray), .string (⟨#[45]⟩ : ByteArray), .string (⟨#[97]⟩ : ByteArray), .string (⟨#[98]⟩ : ByteArray), .string (⟨#[99]⟩ : ByteArray), .string (⟨#[195, 169]⟩ : ByteArray), .string (⟨#[204, 129]⟩ : ByteArray), .string (⟨#[226, 128, 141]⟩ : ByteArray), .string (⟨#[228, 184, 173]⟩ : ByteArray), .string (⟨#[240, 159, 152, 128]⟩ : ByteArray), .string (⟨#[255]⟩ : ByteArray), .string (⟨#[240, 159]⟩ : ByteArray)]) (ok := fun _ => True) (okp := fun _ => True) ?hr ?hp (fun _ hk => hk) trivial (Below.refl _ _) (Nat.le_refl _) (by simp) ?_; (case hd => rfl); (case hg => rfl); (case hr => first | (go_simp; done) | (go_simp; rfl)); (case hp => exact (Reps.one (show Kd.M Kd.string _ _ _ (⟨#[9]⟩ : ByteArray) [.string (⟨#[9]⟩ : ByteArray)] from rfl) (Reps.one (show Kd.M Kd.string _ _ _ (⟨#[10]⟩ : ByteArray) [.string (⟨#[10]⟩ : ByteArray)] from rfl) (Reps.one (show Kd.M Kd.string _ _ _ (⟨#[32]⟩ : ByteArray) [.string (⟨#[32]⟩ : ByteArray)] from rfl) (Reps.one (show Kd.M Kd.string _ _ _ (⟨#[45]⟩ : ByteArray) [.string (⟨#[45]⟩ : ByteArray)] from rfl) (Reps.one (show Kd.M Kd.string _ _ _ (⟨#[97]⟩ : ByteArray) [.string (⟨#[97]⟩ : ByteArray)] from rfl) (Reps.one (show Kd.M Kd.string _ _ _ (⟨#[98]⟩ : ByteArray) [.string (⟨#[98]⟩ : ByteArray)] from rfl) (Reps.one (show Kd.M Kd.string _ _ _ (⟨#[99]⟩ : ByteArray) [.string (⟨#[99]⟩ : ByteArray)] from rfl) (Reps.one (show Kd.M Kd.string _ _ _ (⟨#[195, 169]⟩ : ByteArray) [.string (⟨#[195, 169]⟩ : ByteArray)] from rfl) (Reps.one (show Kd.M Kd.string _ _ _ (⟨#[204, 129]⟩ : ByteArray) [.string (⟨#[204, 129]⟩ : ByteArray)] from rfl) (Reps.one (show Kd.M Kd.string _ _ _ (⟨#[226, 128, 141]⟩ : ByteArray) [.string (⟨#[226, 128, 141]⟩ : ByteArray)] from rfl) (Reps.one (show Kd.M Kd.string _ _ _ (⟨#[228, 184, 173]⟩ : ByteArray) [.string (⟨#[228, 184, 173]⟩ : ByteArray)] from rfl) (Reps.one (show Kd.M Kd.string _ _ _ (⟨#[240, 159, 152, 128]⟩ : ByteArray) [.string (⟨#[240, 159, 152, 128]⟩ : ByteArray)] from rfl) (Reps.one (show Kd.M Kd.string _ _ _ (⟨#[255]⟩ : ByteArray) [.string (⟨#[255]⟩ : ByteArray)] from rfl) (Reps.one (show Kd.M Kd.string _ _ _ (⟨#[240, 159]⟩ : ByteArray) [.string (⟨#[240, 159]⟩ : ByteArray)] from rfl) (Reps.none _ _)))))))))))))))); intro v170 w1 ho2 hb hg_ hnew_; clear hg_ hnew_; (first | rw [← Ny169.out] at ho2 | (simp only [Int.reduceToNat] at ho2; rw [← Ny169.out] at ho2)); have HO171 := zA.mk (Kd.zM ho2 (below_size (aL HB))); replace HB := zA.mk (below_step (aL HB) hb); clear hb ho2))
 go_ret
 exact ⟨_, aX, aR HO171, aL HB⟩
def h3_Words.l0 : Nat → List Int → List Int → Int → Option (List Int)
 | 0, _, _, _ => none
 | k + 1, x0, x3, x4 => if x4 < (x0.length : Int) then ((h3_signs.f).bind fun t172 => (if 0 ≤ x4 then (if 0 ≤ (Int.tmod (wrap64 (rd x0 x4)) 14) then (if (Int.tmod (wrap64 (rd x0 x4)) 14) < (t172.length : Int) then (if x3.length + (rdOf ByteArray.empty t172 (Int.tmod (wrap64 (rd x0 x4)) 14)).size < 140737488355328 then (h3_Words.l0 k x0 (x3 ++ bytesOf (rdOf ByteArray.empty t172 (Int.tmod (wrap64 (rd x0 x4)) 14))) (wrap64 (x4 + 1))) else (none)) else (none)) else (none)) else (none))) else (some x3)
def h3_Words.f (k : Nat) (l0 : List Int) : Option (List Int) := h3_Words.l0 k l0 ([] : List Int) 0
theorem h3_Words.mono_l : ∀ k, (∀ y0 y1 y2, LeO (h3_Words.l0 k y0 y1 y2) (h3_Words.l0 (k + 1) y0 y1 y2))
 | 0 => fun _ _ _ r h => by simp [h3_Words.l0] at h
 | k + 1 => by
  have ih0 := h3_Words.mono_l k
  ·intro y0 y1 y2
   unfold h3_Words.l0
   repeat' (with_reducible first | exact ih0 _ _ _ | exact LeO.refl _ | exact LeO.none _ | refine LeO.ite ?_ ?_ | refine LeO.bind ?_ (fun _ => ?_))
theorem h3_Words.mono : ∀ a0 k, LeO (h3_Words.f k a0) (h3_Words.f (k + 1) a0) := by
 intro a0 k
 have ih0 := h3_Words.mono_l k; unfold h3_Words.f
 repeat' (with_reducible first | exact ih0 _ _ _ | exact LeO.refl _ | exact LeO.none _ | refine LeO.ite ?_ ?_ | refine LeO.bind ?_ (fun _ => ?_))
def h3_Words.T5 : Bool × List (List Nat × List Nat) := (true, [([], []), ([], []), ([], []), ([], []), ([2, 3], [2, 3]), ([4], [4]), ([5], [5]), ([6], [6]), ([1, 7], [1, 7]), ([8], [8]), ([0, 9, 1], [0, 9]), ([10, 10, 0, 1, 2, 3, 4, 5, 6, 7, 8, 9, 10], [0, 10])])
def h3_Words.B5 : List Nat := [0, 0, 0, 0, 12, 28, 60, 124, 254, 510, 1023, 2047]
theorem h3_Words.tab5 : rtab .any (opsOf Try.f15 5) = h3_Words.T5 := by kernel_rfl
theorem h3_Words.bits5 : waitsOk h3_Words.T5.2 h3_Words.B5 = true := by kernel_rfl
set_option maxHeartbeats 8000000 in
set_option maxRecDepth 100000 in
theorem h3_Words.calls (k : Nat) (A0 : Option Addr) (c0 : Nat) (l0 : List Int) (r : List Int) (w : World) (hr0 : Kd.C (Kd.int .u8) w A0 l0.length l0) (hc0 : l0.length ≤ c0) (h : h3_Words.f k l0 = some r) :
  Calls Try.prog 15 #[.slice A0 l0.length c0] w fun e w' => ∃ v0_ : Value, e = .returned (v0_) ∧ Kd.R (Kd.int .u8) 5 w' w.heap.size (fun _ => True) v0_ r ∧ Below w.heap.size w w' := by
 have HR0 := zA.mk hr0; have HC0 := zA.mk hc0; clear hr0 hc0; have HB := zA.mk (Below.refl w.heap.size w); have H : (h3_Words.l0 k l0 ([] : List Int) 0) = some r := h
 clear h; have H' := zA.mk H
 clear H; go_enter Try.func15, Try.ntmps15
 go_wp2
 go_loopg [3, 4] k (fun kq v3 v4 w' => ∃ (x3_1 : List Int) (x4_1 : Int), v4 = .int .i64 x4_1 ∧ zA (h3_Words.l0 kq l0 x3_1 x4_1 = some r) ∧ zA (kq ≤ k) ∧ zA (Kd.R (Kd.int .u8) 5 w' w.heap.size (fun _ => True) v3 x3_1) ∧ zA (Below w.heap.size w w'))
 case atStart => exact ⟨(([] : List Int)), (0), aZ, H', ⟨Nat.le_refl _⟩, ⟨by first | exact Kd.R_nil _ _ _ _ _ | exact Kd.N_nil _ _ _ _ _ | exact Kd.V_nil _ _ _ _ _ | exact Kd.Q_nil _ _ _ _ _ | exact Kd.S_nil _ _ _ _ _⟩, ⟨aL HB⟩⟩
 clear H'; obtain ⟨x3_1, x4_1, rfl, HA, HK1, HO_3, HB⟩ := hrel; cases gk with
 | zero => exact absurd HA.out (by simp [h3_Words.l0])
 | succ k1 =>
  have H := HA.out; clear HA; simp only [h3_Words.l0] at H; by_cases c2 : x4_1 < (l0.length : Int)
  rotate_left
  ·rw [if_neg c2] at H
   have c2b0 : decide (x4_1 < (l0.length : Int)) = false := decide_eq_false c2
   clear c2; obtain rfl := Option.some.inj H
   go_wp2
   go_ret
   exact ⟨_, aX, aR HO_3, aL HB⟩
  rw [if_pos c2] at H; have c2b0 : decide (x4_1 < (l0.length : Int)) = true := decide_eq_true c2
  clear c2; replace H := Option.bind_eq_some_iff.mp H; obtain ⟨t172, A30, H⟩ := H; replace H : (if 0 ≤ x4_1 then (if 0 ≤ (Int.tmod (wrap64 (rd l0 x4_1)) 14) then (if (Int.tmod (wrap64 (rd l0 x4_1)) 14) < (t172.length : Int) then (if x3_1.length + (rdOf ByteArray.empty t172 (Int.tmod (wrap64 (rd l0 x4_1)) 14)).size < 140737488355328 then (h3_Words.l0 k1 l0 (x3_1 ++ bytesOf (rdOf ByteArray.empty t172 (Int.tmod (wrap64 (rd l0 x4_1)) 14))) (wrap64 (x4_1 + 1))) else (none)) else (none)) else (none)) else (none)) = some r := H; have A3 := zA.mk A30; clear A30; by_cases c4 : 0 ≤ x4_1
  rotate_left
  ·rw [if_neg c4] at H
   exact absurd H (by simp)
  rw [if_pos c4] at H; have c4b0 : decide (0 ≤ x4_1) = true := decide_eq_true c4
  clear c4; obtain ⟨ji5, hji5⟩ : ∃ j_ : Int, (Int.tmod (wrap64 (rd l0 x4_1)) 14) = j_ := ⟨_, rfl⟩; replace H : (if 0 ≤ (ji5) then (if (ji5) < (t172.length : Int) then (if x3_1.length + (rdOf ByteArray.empty t172 (ji5)).size < 140737488355328 then (h3_Words.l0 k1 l0 (x3_1 ++ bytesOf (rdOf ByteArray.empty t172 (ji5))) (wrap64 (x4_1 + 1))) else (none)) else (none)) else (none)) = some r := by first | (rw [hji5] at H; exact H) | (simp only [hji5] at H ⊢; exact H)
  (try rw [hji5] at A3)
  by_cases c6 : 0 ≤ (ji5)
  rotate_left
  ·rw [if_neg c6] at H
   exact absurd H (by simp)
  rw [if_pos c6] at H; have c6b0 : decide (0 ≤ (ji5)) = true := decide_eq_true c6
  clear c6; by_cases c7 : (ji5) < (t172.length : Int)
  rotate_left
  ·rw [if_neg c7] at H
   exact absurd H (by simp)
  rw [if_pos c7] at H; have c7b0 : decide ((ji5) < (t172.length : Int)) = true := decide_eq_true c7
  clear c7; by_cases c8 : x3_1.length + (rdOf ByteArray.empty t172 (ji5)).size < 140737488355328
  rotate_left
  ·rw [if_neg c8] at H
   exact absurd H (by simp)
  rw [if_pos c8] at H; have LMc8 := zA.mk c8; clear c8; obtain ⟨y177, hy177⟩ : ∃ y_ : List Int, y_ = (x3_1 ++ bytesOf (rdOf ByteArray.empty t172 (ji5))) := ⟨_, rfl⟩; replace H : (h3_Words.l0 k1 l0 y177 (wrap64 (x4_1 + 1))) = some r := by first | (rw [hy177]; with_reducible exact H) | (have H2_ := (Option.bind_some _ _).symm.trans H; rw [hy177]; with_reducible exact H2_) | (have H2_ := (Option.bind_some _ _).symm.trans H; with_reducible exact H2_) | with_reducible exact H | (rw [hy177]; exact H) | exact H
  have Ny177 := zA.mk hy177; clear hy177; have H' := zA.mk H
  clear H; try go_wp2
  have pi176 : (0 ≤ ((ji5) : Int)) = True := eq_true (aD)
  have qi176 : ((ji5) < (t172.length : Int)) = True := eq_true (aD)
  replace HO_3 := zA.mk (Kd.zD HO_3.out); replace HB := zA.mk (below_drew1 HB.out); have p175 : 0 ≤ (x4_1 : Int) := aD
  have q175 : x4_1 < (l0.length : Int) := aD
  obtain ⟨ad175, e175, hx175_0⟩ := Kd.at_int HR0.out x4_1 p175 q175; have hw175_0 := hx175_0; cases e175
  replace hx175_0 := (HB.out.cell (World.block_lt_of_cell? w _ hx175_0)).trans hx175_0; replace p175 := eq_true p175; replace q175 := eq_true q175; refine start_ (n := 12) (S := fun w' => w'.cell? (ad175.add (x4_1).toNat) = some (.int .u8 (rd l0 x4_1))) (ds := []) #[false, false, false, false, false, false, false, false, false, false, false, false] (by kernel_rfl) rfl rfl (((HB.out.cell (World.block_lt_of_cell? w _ hw175_0)).trans hw175_0)) (fun hHeld => ?_); refine with_tabW h3_Words.tab5 h3_Words.bits5 (fun HT_ HW_ => ?_)
  generalize wr.drew = w9 at HO_3 HB hx175_0 hHeld ⊢
  refine aP 0 (some 11) (tf_ 1 12) HT_ ?_
  refine aP 2 (some 13) (tb_ 5 12) HT_ ?_
  refine aP 3 (some 14) (tb_ 13 12) HT_ ?_
  refine aP 4 (some 15) (tb_ 29 12) HT_ ?_
  refine take_ (i := 5) (N := some 16) (v := ?_) (a' := ?_) (tb_ 61 12) rfl rfl (take_ofW HT_.out HW_.out (by kernel_rfl)) (fun _ _ _ h => h) (Or.inl ⟨by rfl, ?_⟩) hHeld ?_ ?_
  rotate_left
  ·intro w' s0
   go_simp
   with_reducible rfl
  rotate_left
  ·simp only [Act.put, sA_, sB_, sC_, i64_w, i32_w]
   rfl
  refine aP 6 (some 17) (tb_ 125 12) HT_ ?_
  refine aP 7 (some 18) (tb_ 253 12) HT_ ?_
  refine one_ (i := 1) (N := some 12) (tb_ 255 12) rfl rfl (one_of HT_.out (by kernel_rfl)) (by decide) (fun K hK => ?_)
  refine goes_ Try.func34 (by kernel_rfl) rfl #[] (by rfl) rfl rfl aT ?_
  with_reducible refine (h3_signs.calls  t172 _ A3.out).mono ?_
  rintro e w10 ⟨v173, rfl, ho0, hb⟩
  refine ⟨_, rfl, ?_⟩
  replace HO_3 := zA.mk (Kd.zJ (aR HO_3) hb); have HO174 := zA.mk (Kd.zM ho0 (below_size (aL HB))); replace HB := zA.mk (below_step (aL HB) hb); (try clear hb)
  (try clear hb2)
  (try clear hk)
  (try clear hi)
  (try clear ho0)
  obtain ⟨Ao11, co11, eo11⟩ := Kd.zL HO174.out; subst eo11; obtain ⟨ado11, fo11, _⟩ := Kd.at_string (Kd.zI HO174.out).2.2 0 (by decide) (by have h1_ := of_eq_true pi176; have h2_ := of_eq_true qi176; omega)
  cases fo11
  refine hK.out _ _ (((HB.out.cell (World.block_lt_of_cell? w _ hw175_0)).trans hw175_0)) (fun hHeld => ?_)
  clear hK K; refine norm_ (a' := ?_) ?_ ?_
  rotate_left
  ·show Act.put _ (some 12) _ = _
   simp only [Act.put, sA_, sB_, sC_, i64_w, i32_w]; rfl
  refine aP 8 (some 19) (tf_ 9 12) HT_ ?_
  refine one_ (i := 9) (N := some 20) (tb_ 1023 12) rfl rfl (one_of HT_.out (by kernel_rfl)) (by decide) (fun K hK => ?_)
  (have p176 : 0 ≤ ((ji5) : Int) := aD; have q176 : (ji5) < (t172.length : Int) := aD; obtain ⟨ad176, e176, hx176_0⟩ := Kd.at_string (Kd.zI HO174.out).2.2 (ji5) p176 q176; obtain rfl : ado11 = ad176 := (by injection e176))
  refine value_ (w1 := ?_) (v := ?_) (by rfl) rfl ?_ ?_
  rotate_left 2
  ·go_simp
   constructor
   ·rfl
   rfl
  clear hx176_0; refine hK.out _ _ (((HB.out.cell (World.block_lt_of_cell? w _ hw175_0)).trans hw175_0)) (fun hHeld => ?_)
  clear hK K; refine norm_ (a' := ?_) ?_ ?_
  rotate_left
  ·show Act.put _ (some 20) _ = _
   simp only [Act.put, sA_, sB_, sC_, i64_w, i32_w]; rfl
  refine one_ (i := 10) (N := some 21) (tb_ 2047 12) rfl rfl (one_of HT_.out (by kernel_rfl)) (by decide) (fun K hK => ?_)
  refine print_append_str_step (w0 := w) w.heap.size (by rfl) (.tmp 11) _ 22 9 5 rfl Try.underlying22 Try.underlying9 info5 u3 x3_1 (rdOf ByteArray.empty t172 (ji5)) rfl rfl ?aO ?aB ?aS ?aL ?_
  (case aB => exact (aL HB))
  (case aO => exact (Kd.own_of_R (aR HO_3)))
  (case aS => exact (below_size (aL HB)))
  (case aL => have := LMc8.out; omega)
  intro v178 w12 ho0 hb hg
  have ho := Kd.R_of_own (h1 := fun _ => rfl) (ok := fun _ => True) ho0 (fun _ _ => trivial)
  clear ho0; have hat := True.intro; rw [← Ny177.out] at ho; change Kd.R (Kd.int .u8) 5 w12 w.heap.size (fun _ => True) v178 y177 at ho
  replace HO174 := zA.mk (Kd.R_over' (aR HO174) (Kd.R_typed (aR HO_3)) (by decide) hg)
  replace HB := zA.mk (hb); have HO179 := zA.mk (ho); clear HO_3; clear ho hb hg hat; refine hK.out _ _ (((HB.out.cell (World.block_lt_of_cell? w _ hw175_0)).trans hw175_0)) (fun hHeld => ?_)
  clear hK K; refine norm_ (a' := ?_) ?_ ?_
  rotate_left
  ·show Act.put _ (some 21) _ = _
   simp only [Act.put, sA_, sB_, sC_, i64_w, i32_w]; rfl
  refine aP 11 (some 3) (tb_ 4095 12) HT_ ?_
  refine done_ (done_of HT_.out (by kernel_rfl)) ?_
  try go_wp2
  go_roundg k1
  case measure => have := HK1.out; omega
  case rel => exact ⟨(y177), (wrap64 (x4_1 + 1)), aZ, H', ⟨by have := HK1.out; omega⟩, ⟨aR HO179⟩, ⟨aL HB⟩⟩
mutual
def stanzaref01_length.j0 : Nat → Int → Bool → Option (Int)
 | 0, _, _ => none
 | k + 1, x0, x6 => if x6 = true then (some 2) else (if x0 ≥ 224 then (stanzaref01_length.j1 k x0 (decide (x0 ≤ 239))) else (stanzaref01_length.j1 k x0 false))
def stanzaref01_length.j1 : Nat → Int → Bool → Option (Int)
 | 0, _, _ => none
 | k + 1, x0, x13 => if x13 = true then (some 3) else (if x0 ≥ 240 then (if x0 ≤ 244 then (some 4) else (some 0)) else (some 0))
end
def stanzaref01_length.f (k : Nat) (a0 : Int) : Option (Int) := if a0 < 128 then (some 1) else (if a0 ≥ 194 then (stanzaref01_length.j0 k a0 (decide (a0 ≤ 223))) else (stanzaref01_length.j0 k a0 false))
theorem stanzaref01_length.mono_l : ∀ k, (∀ y0 y1, LeO (stanzaref01_length.j0 k y0 y1) (stanzaref01_length.j0 (k + 1) y0 y1)) ∧ (∀ y0 y1, LeO (stanzaref01_length.j1 k y0 y1) (stanzaref01_length.j1 (k + 1) y0 y1))
 | 0 => ⟨fun _ _ r h => by simp [stanzaref01_length.j0] at h, fun _ _ r h => by simp [stanzaref01_length.j1] at h⟩
 | k + 1 => by
  obtain ⟨ih0, ih1⟩ := stanzaref01_length.mono_l k; refine ⟨?_, ?_⟩
  ·intro y0 y1
   unfold stanzaref01_length.j0
   repeat' (with_reducible first | exact ih0 _ _ | exact ih1 _ _ | exact LeO.refl _ | exact LeO.none _ | refine LeO.ite ?_ ?_ | refine LeO.bind ?_ (fun _ => ?_))
  ·intro y0 y1
   unfold stanzaref01_length.j1
   repeat' (with_reducible first | exact ih0 _ _ | exact ih1 _ _ | exact LeO.refl _ | exact LeO.none _ | refine LeO.ite ?_ ?_ | refine LeO.bind ?_ (fun _ => ?_))
theorem stanzaref01_length.mono : ∀ a0 k, LeO (stanzaref01_length.f k a0) (stanzaref01_length.f (k + 1) a0) := by
 intro a0 k
 obtain ⟨ih0, ih1⟩ := stanzaref01_length.mono_l k; unfold stanzaref01_length.f
 repeat' (with_reducible first | exact ih0 _ _ | exact ih1 _ _ | exact LeO.refl _ | exact LeO.none _ | refine LeO.ite ?_ ?_ | refine LeO.bind ?_ (fun _ => ?_))
set_option maxHeartbeats 8000000 in
set_option maxRecDepth 100000 in
theorem stanzaref01_length.calls (k : Nat) (a0 : Int) (r : Int) (w : World) (h : stanzaref01_length.f k a0 = some r) :
  Calls Try.prog 39 #[.int .u8 a0] w fun e w' => e = .returned (.int .i64 r) ∧ Drawn0 w w' := by
 have H : (if a0 < 128 then (some 1) else (if a0 ≥ 194 then (stanzaref01_length.j0 k a0 (decide (a0 ≤ 223))) else (stanzaref01_length.j0 k a0 false))) = some r := h
 clear h; by_cases c2 : a0 < 128
 ·rw [if_pos c2] at H
  have c2b0 : decide (a0 < 128) = true := decide_eq_true c2
  clear c2; obtain rfl := Option.some.inj H
  go_enter Try.func39, Try.ntmps39
  go_wp2
  go_ret
  exact ⟨by first | rfl | (simp; done) | (simp [*]; done), by repeat (first | exact Drawn0.refl _ | apply Drawn0.step)⟩
 rw [if_neg c2] at H; have c2b0 : decide (a0 < 128) = false := decide_eq_false c2
 clear c2; have HC3 := zA.mk H; clear H; go_enter Try.func39, Try.ntmps39
 go_upto_region 3 with (fail)
 go_cut [6] (fun v6 wc => ∃ (kq : Nat) (x6_2 : Bool), v6 = .bool x6_2 ∧ zA (stanzaref01_length.j0 kq a0 x6_2 = some r) ∧ zA (kq ≤ k) ∧ Drawn0 w wc)
 case first =>
  have H := HC3.out; clear HC3; by_cases c4 : a0 ≥ 194
  ·rw [if_pos c4] at H
   have c4b0 : decide (194 ≤ a0) = true := decide_eq_true c4
   clear c4; (first | rw [c4b0] | (simp only [i64_w, i32_w]; rw [c4b0]) | skip)
   have H' := zA.mk H
   clear H; go_wp2
   go_meet
   case rel => exact ⟨_, (decide (a0 ≤ 223)), aZ, H', ⟨by first | omega | exact Nat.le_refl _⟩, by repeat (first | exact Drawn0.refl _ | apply Drawn0.step)⟩
  rw [if_neg c4] at H; have c4b0 : decide (194 ≤ a0) = false := decide_eq_false c4
  clear c4; (first | rw [c4b0] | (simp only [i64_w, i32_w]; rw [c4b0]) | skip)
  have H' := zA.mk H
  clear H; go_wp2
  go_meet
  case rel => exact ⟨_, (false), aZ, H', ⟨by first | omega | exact Nat.le_refl _⟩, by repeat (first | exact Drawn0.refl _ | apply Drawn0.step)⟩
 clear HC3; obtain ⟨kq, x6_2, rfl, HA, HJ2, ⟨mc2, rfl⟩⟩ := hcut; cases kq with
 | zero => exact absurd HA.out (by simp [stanzaref01_length.j0])
 | succ kj2 =>
  have H := HA.out; clear HA; simp only [stanzaref01_length.j0] at H; by_cases c5 : x6_2 = true
  ·subst c5
   have H1 : (some 2) = some r := by rw [if_pos rfl] at H; exact H
   clear H; have H := H1; clear H1; obtain rfl := Option.some.inj H
   go_wp2
   go_ret
   exact ⟨by first | rfl | (simp; done) | (simp [*]; done), by repeat (first | exact Drawn0.refl _ | apply Drawn0.step)⟩
  replace c5 := Bool.eq_false_iff.mpr c5; subst c5; have H1 : (if a0 ≥ 224 then (stanzaref01_length.j1 kj2 a0 (decide (a0 ≤ 239))) else (stanzaref01_length.j1 kj2 a0 false)) = some r := by rw [if_neg (show ¬ (false = true) by decide)] at H; exact H
  clear H; have H := H1; clear H1; have HC6 := zA.mk H; clear H; go_upto_region 5 with (fail)
  go_cut [13] (fun v13 wc => ∃ (kq : Nat) (x13_5 : Bool), v13 = .bool x13_5 ∧ zA (stanzaref01_length.j1 kq a0 x13_5 = some r) ∧ zA (kq ≤ kj2) ∧ Drawn0 w wc)
  case first =>
   have H := HC6.out; clear HC6; by_cases c7 : a0 ≥ 224
   ·rw [if_pos c7] at H
    have c7b0 : decide (224 ≤ a0) = true := decide_eq_true c7
    clear c7; (first | rw [c7b0] | (simp only [i64_w, i32_w]; rw [c7b0]) | skip)
    have H' := zA.mk H
    clear H; go_wp2
    go_meet
    case rel => exact ⟨_, (decide (a0 ≤ 239)), aZ, H', ⟨by have := HJ2.out; first | omega | exact Nat.le_refl _⟩, by repeat (first | exact Drawn0.refl _ | apply Drawn0.step)⟩
   rw [if_neg c7] at H; have c7b0 : decide (224 ≤ a0) = false := decide_eq_false c7
   clear c7; (first | rw [c7b0] | (simp only [i64_w, i32_w]; rw [c7b0]) | skip)
   have H' := zA.mk H
   clear H; go_wp2
   go_meet
   case rel => exact ⟨_, (false), aZ, H', ⟨by have := HJ2.out; first | omega | exact Nat.le_refl _⟩, by repeat (first | exact Drawn0.refl _ | apply Drawn0.step)⟩
  clear HC6; obtain ⟨kq, x13_5, rfl, HA, HJ5, ⟨mc5, rfl⟩⟩ := hcut; cases kq with
  | zero => exact absurd HA.out (by simp [stanzaref01_length.j1])
  | succ kj5 =>
   have H := HA.out; clear HA; simp only [stanzaref01_length.j1] at H; by_cases c8 : x13_5 = true
   ·subst c8
    have H1 : (some 3) = some r := by rw [if_pos rfl] at H; exact H
    clear H; have H := H1; clear H1; obtain rfl := Option.some.inj H
    go_wp2
    go_ret
    exact ⟨by first | rfl | (simp; done) | (simp [*]; done), by repeat (first | exact Drawn0.refl _ | apply Drawn0.step)⟩
   replace c8 := Bool.eq_false_iff.mpr c8; subst c8; have H1 : (if a0 ≥ 240 then (if a0 ≤ 244 then (some 4) else (some 0)) else (some 0)) = some r := by rw [if_neg (show ¬ (false = true) by decide)] at H; exact H
   clear H; have H := H1; clear H1; by_cases c9 : a0 ≥ 240
   rotate_left
   ·rw [if_neg c9] at H
    have c9b0 : decide (240 ≤ a0) = false := decide_eq_false c9
    clear c9; obtain rfl := Option.some.inj H
    go_wp2
    go_ret
    exact ⟨by first | rfl | (simp; done) | (simp [*]; done), by repeat (first | exact Drawn0.refl _ | apply Drawn0.step)⟩
   rw [if_pos c9] at H; have c9b0 : decide (240 ≤ a0) = true := decide_eq_true c9
   clear c9; by_cases c10 : a0 ≤ 244
   ·rw [if_pos c10] at H
    have c10b0 : decide (a0 ≤ 244) = true := decide_eq_true c10
    clear c10; obtain rfl := Option.some.inj H
    go_wp2
    go_ret
    exact ⟨by first | rfl | (simp; done) | (simp [*]; done), by repeat (first | exact Drawn0.refl _ | apply Drawn0.step)⟩
   rw [if_neg c10] at H; have c10b0 : decide (a0 ≤ 244) = false := decide_eq_false c10
   clear c10; obtain rfl := Option.some.inj H
   go_wp2
   go_ret
   exact ⟨by first | rfl | (simp; done) | (simp [*]; done), by repeat (first | exact Drawn0.refl _ | apply Drawn0.step)⟩
mutual
def stanzaref01_Begins.j0 : Nat → List Int → Bool → Option (Bool)
 | 0, _, _ => none
 | k + 1, x0, x15 => if x15 = true then (some false) else (stanzaref01_Begins.l0 k x0 1)
def stanzaref01_Begins.l0 : Nat → List Int → Int → Option (Bool)
 | 0, _, _ => none
 | k + 1, x0, x3 => if x3 < (x0.length : Int) then (if 0 ≤ x3 then (if (rd x0 x3) < 128 then (some false) else (if (rd x0 x3) > 191 then (some false) else (stanzaref01_Begins.l0 k x0 (wrap64 (x3 + 1))))) else (none)) else (if (x0.length : Int) = 1 then (some true) else (if 0 < (x0.length : Int) then (if (rd x0 0) = 224 then (if 1 < (x0.length : Int) then (some (decide ((rd x0 1) ≥ 160))) else (none)) else (if (rd x0 0) = 237 then (if 1 < (x0.length : Int) then (some (decide ((rd x0 1) < 160))) else (none)) else (if (rd x0 0) = 240 then (if 1 < (x0.length : Int) then (some (decide ((rd x0 1) ≥ 144))) else (none)) else (if (rd x0 0) = 244 then (if 1 < (x0.length : Int) then (some (decide ((rd x0 1) < 144))) else (none)) else (some true))))) else (none)))
end
def stanzaref01_Begins.f (k : Nat) (l0 : List Int) : Option (Bool) := if (l0.length : Int) = 0 then (stanzaref01_Begins.j0 k l0 true) else (if 0 < (l0.length : Int) then ((stanzaref01_length.f k (rd l0 0)).bind fun t181 => (stanzaref01_Begins.j0 k l0 (decide ((l0.length : Int) > t181)))) else (none))
theorem stanzaref01_Begins.mono_l : ∀ k, (∀ y0 y1, LeO (stanzaref01_Begins.j0 k y0 y1) (stanzaref01_Begins.j0 (k + 1) y0 y1)) ∧ (∀ y0 y1, LeO (stanzaref01_Begins.l0 k y0 y1) (stanzaref01_Begins.l0 (k + 1) y0 y1))
 | 0 => ⟨fun _ _ r h => by simp [stanzaref01_Begins.j0] at h, fun _ _ r h => by simp [stanzaref01_Begins.l0] at h⟩
 | k + 1 => by
  obtain ⟨ih0, ih1⟩ := stanzaref01_Begins.mono_l k; refine ⟨?_, ?_⟩
  ·intro y0 y1
   unfold stanzaref01_Begins.j0
   repeat' (with_reducible first | exact ih0 _ _ | exact ih1 _ _ | exact stanzaref01_length.mono _ _ | exact LeO.refl _ | exact LeO.none _ | refine LeO.ite ?_ ?_ | refine LeO.bind ?_ (fun _ => ?_))
  ·intro y0 y1
   unfold stanzaref01_Begins.l0
   repeat' (with_reducible first | exact ih0 _ _ | exact ih1 _ _ | exact stanzaref01_length.mono _ _ | exact LeO.refl _ | exact LeO.none _ | refine LeO.ite ?_ ?_ | refine LeO.bind ?_ (fun _ => ?_))
theorem stanzaref01_Begins.mono : ∀ a0 k, LeO (stanzaref01_Begins.f k a0) (stanzaref01_Begins.f (k + 1) a0) := by
 intro a0 k
 obtain ⟨ih0, ih1⟩ := stanzaref01_Begins.mono_l k; unfold stanzaref01_Begins.f
 repeat' (with_reducible first | exact ih0 _ _ | exact ih1 _ _ | exact stanzaref01_length.mono _ _ | exact LeO.refl _ | exact LeO.none _ | refine LeO.ite ?_ ?_ | refine LeO.bind ?_ (fun _ => ?_))
set_option maxHeartbeats 8000000 in
set_option maxRecDepth 100000 in
theorem stanzaref01_Begins.calls (k : Nat) (A0 : Option Addr) (c0 : Nat) (l0 : List Int) (r : Bool) (w : World) (hr0 : Kd.C (Kd.int .u8) w A0 l0.length l0) (hc0 : l0.length ≤ c0) (h : stanzaref01_Begins.f k l0 = some r) :
  Calls Try.prog 38 #[.slice A0 l0.length c0] w fun e w' => e = .returned (.bool r) ∧ Drawn0 w w' := by
 have HR0 := zA.mk hr0; have HC0 := zA.mk hc0; clear hr0 hc0; have H : (if (l0.length : Int) = 0 then (stanzaref01_Begins.j0 k l0 true) else (if 0 < (l0.length : Int) then ((stanzaref01_length.f k (rd l0 0)).bind fun t181 => (stanzaref01_Begins.j0 k l0 (decide ((l0.length : Int) > t181)))) else (none))) = some r := h
 clear h; have HC2 := zA.mk H; clear H; go_enter Try.func38, Try.ntmps38
 go_upto_region 1 with (fail)
 go_cut [15] (fun v15 wc => ∃ (kq : Nat) (x15_1 : Bool), v15 = .bool x15_1 ∧ zA (stanzaref01_Begins.j0 kq l0 x15_1 = some r) ∧ zA (kq ≤ k) ∧ Drawn0 w wc)
 case first =>
  have H := HC2.out; clear HC2; by_cases c3 : (l0.length : Int) = 0
  ·rw [if_pos c3] at H
   have c3b0 : ((l0.length : Int) == 0) = true := beq_iff_eq.mpr c3
   have c3b1 : ((l0.length : Int) != 0) = false := bne_eq_false_iff_eq.mpr c3
   clear c3; (first | rw [c3b0] | (simp only [i64_w, i32_w]; rw [c3b0]) | skip)
   have H' := zA.mk H
   clear H; go_wp2
   go_meet
   case rel => exact ⟨_, (true), aZ, H', ⟨by first | omega | exact Nat.le_refl _⟩, by repeat (first | exact Drawn0.refl _ | apply Drawn0.step)⟩
  rw [if_neg c3] at H; have c3b0 : ((l0.length : Int) == 0) = false := beq_eq_false_iff_ne.mpr c3
  have c3b1 : ((l0.length : Int) != 0) = true := bne_iff_ne.mpr c3
  have c3b2 : ¬ (l0 = []) := fun h_ => c3 (by rw [h_]; rfl)
  (first | rw [c3b0] | (simp only [i64_w, i32_w]; rw [c3b0]) | skip)
  by_cases c4 : 0 < (l0.length : Int)
  rotate_left
  ·rw [if_neg c4] at H
   exact absurd H (by simp)
  rw [if_pos c4] at H; have c4b0 : decide (0 < (l0.length : Int)) = true := decide_eq_true c4
  have c4b1 : decide (0 < l0.length) = true := decide_eq_true (by omega)
  clear c4; replace H := Option.bind_eq_some_iff.mp H; obtain ⟨t181, A50, H⟩ := H; replace H : (stanzaref01_Begins.j0 k l0 (decide ((l0.length : Int) > t181))) = some r := H; have A5 := zA.mk A50; clear A50; have H' := zA.mk H
  clear H; have p180 : 0 ≤ (0 : Int) := (by omega)
  have q180 : 0 < (l0.length : Int) := aD
  obtain ⟨ad180, e180, hx180_0⟩ := Kd.at_int HR0.out 0 p180 q180; cases e180
  have qi180 : (0 < l0.length) = True := eq_true (by omega)
  (try rw [show ((0 : Int)).toNat = 0 from rfl] at hx180_0)
  (try rw [Addr.add_zero'] at hx180_0)
  replace p180 := eq_true p180; replace q180 := eq_true q180; go_wp2_with (first | (go_at_call 39; (with_reducible refine (stanzaref01_length.calls k (rd l0 0) t181 _ A5.out).mono ?_); rintro e w' ⟨rfl, ⟨nd, rfl⟩⟩))
  go_meet
  case rel => exact ⟨_, (decide ((l0.length : Int) > t181)), aZ, H', ⟨by first | omega | exact Nat.le_refl _⟩, by repeat (first | exact Drawn0.refl _ | apply Drawn0.step)⟩
 clear HC2; obtain ⟨kq, x15_1, rfl, HA, HJ1, ⟨mc1, rfl⟩⟩ := hcut; cases kq with
 | zero => exact absurd HA.out (by simp [stanzaref01_Begins.j0])
 | succ kj1 =>
  have H := HA.out; clear HA; simp only [stanzaref01_Begins.j0] at H; by_cases c6 : x15_1 = true
  ·subst c6
   have H1 : (some false) = some r := by rw [if_pos rfl] at H; exact H
   clear H; have H := H1; clear H1; obtain rfl := Option.some.inj H
   go_wp2
   go_ret
   exact ⟨by first | rfl | (simp; done) | (simp [*]; done), by repeat (first | exact Drawn0.refl _ | apply Drawn0.step)⟩
  replace c6 := Bool.eq_false_iff.mpr c6; subst c6; have H1 : (stanzaref01_Begins.l0 kj1 l0 1) = some r := by rw [if_neg (show ¬ (false = true) by decide)] at H; exact H
  clear H; have H := H1; clear H1; have H' := zA.mk H
  clear H; go_wp2
  go_loopg [3] kj1 (fun kq v3 w' => ∃ (x3_2 : Int), v3 = .int .i64 x3_2 ∧ zA (stanzaref01_Begins.l0 kq l0 x3_2 = some r) ∧ zA (kq ≤ kj1) ∧ Drawn0 w w')
  case atStart => exact ⟨(1), aZ, H', ⟨Nat.le_refl _⟩, by repeat (first | exact Drawn0.refl _ | apply Drawn0.step)⟩
  clear H'; obtain ⟨x3_2, rfl, HA, HK2, ⟨m2, rfl⟩⟩ := hrel; cases gk with
  | zero => exact absurd HA.out (by simp [stanzaref01_Begins.l0])
  | succ k2 =>
   have H := HA.out; clear HA; simp only [stanzaref01_Begins.l0] at H; by_cases c7 : x3_2 < (l0.length : Int)
   ·rw [if_pos c7] at H
    have c7b0 : decide (x3_2 < (l0.length : Int)) = true := decide_eq_true c7
    clear c7; by_cases c8 : 0 ≤ x3_2
    rotate_left
    ·rw [if_neg c8] at H
     exact absurd H (by simp)
    rw [if_pos c8] at H; have c8b0 : decide (0 ≤ x3_2) = true := decide_eq_true c8
    clear c8; by_cases c9 : (rd l0 x3_2) < 128
    ·rw [if_pos c9] at H
     have c9b0 : decide ((rd l0 x3_2) < 128) = true := decide_eq_true c9
     clear c9; obtain rfl := Option.some.inj H
     have p182 : 0 ≤ (x3_2 : Int) := aD
     have q182 : x3_2 < (l0.length : Int) := aD
     obtain ⟨ad182, e182, hx182_0⟩ := Kd.at_int HR0.out x3_2 p182 q182; cases e182
     replace p182 := eq_true p182; replace q182 := eq_true q182; go_wp2
     go_ret
     exact ⟨by first | rfl | (simp; done) | (simp [*]; done), by repeat (first | exact Drawn0.refl _ | apply Drawn0.step)⟩
    rw [if_neg c9] at H; have c9b0 : decide ((rd l0 x3_2) < 128) = false := decide_eq_false c9
    clear c9; by_cases c10 : (rd l0 x3_2) > 191
    ·rw [if_pos c10] at H
     have c10b0 : decide (191 < (rd l0 x3_2)) = true := decide_eq_true c10
     clear c10; obtain rfl := Option.some.inj H
     have p182 : 0 ≤ (x3_2 : Int) := aD
     have q182 : x3_2 < (l0.length : Int) := aD
     obtain ⟨ad182, e182, hx182_0⟩ := Kd.at_int HR0.out x3_2 p182 q182; cases e182
     replace p182 := eq_true p182; replace q182 := eq_true q182; have p183 : 0 ≤ (x3_2 : Int) := aD
     have q183 : x3_2 < (l0.length : Int) := aD
     obtain ⟨ad183, e183, hx183_0⟩ := Kd.at_int HR0.out x3_2 p183 q183; obtain rfl : ad182 = ad183 := (by injection e183)
     replace p183 := eq_true p183; replace q183 := eq_true q183; go_wp2
     go_ret
     exact ⟨by first | rfl | (simp; done) | (simp [*]; done), by repeat (first | exact Drawn0.refl _ | apply Drawn0.step)⟩
    rw [if_neg c10] at H; have c10b0 : decide (191 < (rd l0 x3_2)) = false := decide_eq_false c10
    clear c10; have H' := zA.mk H
    clear H; have p182 : 0 ≤ (x3_2 : Int) := aD
    have q182 : x3_2 < (l0.length : Int) := aD
    obtain ⟨ad182, e182, hx182_0⟩ := Kd.at_int HR0.out x3_2 p182 q182; cases e182
    replace p182 := eq_true p182; replace q182 := eq_true q182; have p183 : 0 ≤ (x3_2 : Int) := aD
    have q183 : x3_2 < (l0.length : Int) := aD
    obtain ⟨ad183, e183, hx183_0⟩ := Kd.at_int HR0.out x3_2 p183 q183; obtain rfl : ad182 = ad183 := (by injection e183)
    replace p183 := eq_true p183; replace q183 := eq_true q183; go_wp2
    go_roundg k2
    case measure => have := HJ1.out; have := HK2.out; omega
    case rel => exact ⟨(wrap64 (x3_2 + 1)), aZ, H', ⟨by have := HJ1.out; have := HK2.out; omega⟩, by repeat (first | exact Drawn0.refl _ | apply Drawn0.step)⟩
   rw [if_neg c7] at H; have c7b0 : decide (x3_2 < (l0.length : Int)) = false := decide_eq_false c7
   clear c7; by_cases c11 : (l0.length : Int) = 1
   ·rw [if_pos c11] at H
    have c11b0 : ((l0.length : Int) == 1) = true := beq_iff_eq.mpr c11
    have c11b1 : ((l0.length : Int) != 1) = false := bne_eq_false_iff_eq.mpr c11
    clear c11; obtain rfl := Option.some.inj H
    go_wp2
    go_ret
    exact ⟨by first | rfl | (simp; done) | (simp [*]; done), by repeat (first | exact Drawn0.refl _ | apply Drawn0.step)⟩
   rw [if_neg c11] at H; have c11b0 : ((l0.length : Int) == 1) = false := beq_eq_false_iff_ne.mpr c11
   have c11b1 : ((l0.length : Int) != 1) = true := bne_iff_ne.mpr c11
   by_cases c12 : 0 < (l0.length : Int)
   rotate_left
   ·rw [if_neg c12] at H
    exact absurd H (by simp)
   rw [if_pos c12] at H; have c12b0 : decide (0 < (l0.length : Int)) = true := decide_eq_true c12
   have c12b1 : decide (0 < l0.length) = true := decide_eq_true (by omega)
   clear c12; by_cases c13 : (rd l0 0) = 224
   ·rw [if_pos c13] at H
    have c13b0 : ((rd l0 0) == 224) = true := beq_iff_eq.mpr c13
    have c13b1 : ((rd l0 0) != 224) = false := bne_eq_false_iff_eq.mpr c13
    clear c13; by_cases c14 : 1 < (l0.length : Int)
    rotate_left
    ·rw [if_neg c14] at H
     exact absurd H (by simp)
    rw [if_pos c14] at H; have c14b0 : decide (1 < (l0.length : Int)) = true := decide_eq_true c14
    have c14b1 : decide (1 < l0.length) = true := decide_eq_true (by omega)
    clear c14; obtain rfl := Option.some.inj H
    have p184 : 0 ≤ (0 : Int) := (by omega)
    have q184 : 0 < (l0.length : Int) := aD
    obtain ⟨ad184, e184, hx184_0⟩ := Kd.at_int HR0.out 0 p184 q184; cases e184
    have qi184 : (0 < l0.length) = True := eq_true (by omega)
    (try rw [show ((0 : Int)).toNat = 0 from rfl] at hx184_0)
    (try rw [Addr.add_zero'] at hx184_0)
    replace p184 := eq_true p184; replace q184 := eq_true q184; have p185 : 0 ≤ (1 : Int) := (by omega)
    have q185 : 1 < (l0.length : Int) := aD
    obtain ⟨ad185, e185, hx185_0⟩ := Kd.at_int HR0.out 1 p185 q185; obtain rfl : ad184 = ad185 := (by injection e185)
    (try simp only [show (1 : Int).toNat = 1 from rfl, Nat.reduceMul, Nat.reduceEqDiff, Go.Addr.add, ↓reduceIte] at hx185_0)
    have qi185 : (1 < l0.length) = True := eq_true (by omega)
    (try rw [show ((1 : Int)).toNat = 1 from rfl] at hx185_0)
    replace p185 := eq_true p185; replace q185 := eq_true q185; go_wp2
    go_ret
    exact ⟨by first | rfl | (simp; done) | (simp [*]; done), by repeat (first | exact Drawn0.refl _ | apply Drawn0.step)⟩
   rw [if_neg c13] at H; have c13b0 : ((rd l0 0) == 224) = false := beq_eq_false_iff_ne.mpr c13
   have c13b1 : ((rd l0 0) != 224) = true := bne_iff_ne.mpr c13
   by_cases c15 : (rd l0 0) = 237
   ·rw [if_pos c15] at H
    have c15b0 : ((rd l0 0) == 237) = true := beq_iff_eq.mpr c15
    have c15b1 : ((rd l0 0) != 237) = false := bne_eq_false_iff_eq.mpr c15
    clear c15; by_cases c16 : 1 < (l0.length : Int)
    rotate_left
    ·rw [if_neg c16] at H
     exact absurd H (by simp)
    rw [if_pos c16] at H; have c16b0 : decide (1 < (l0.length : Int)) = true := decide_eq_true c16
    have c16b1 : decide (1 < l0.length) = true := decide_eq_true (by omega)
    clear c16; obtain rfl := Option.some.inj H
    have p184 : 0 ≤ (0 : Int) := (by omega)
    have q184 : 0 < (l0.length : Int) := aD
    obtain ⟨ad184, e184, hx184_0⟩ := Kd.at_int HR0.out 0 p184 q184; cases e184
    have qi184 : (0 < l0.length) = True := eq_true (by omega)
    (try rw [show ((0 : Int)).toNat = 0 from rfl] at hx184_0)
    (try rw [Addr.add_zero'] at hx184_0)
    replace p184 := eq_true p184; replace q184 := eq_true q184; have p186 : 0 ≤ (1 : Int) := (by omega)
    have q186 : 1 < (l0.length : Int) := aD
    obtain ⟨ad186, e186, hx186_0⟩ := Kd.at_int HR0.out 1 p186 q186; obtain rfl : ad184 = ad186 := (by injection e186)
    (try simp only [show (1 : Int).toNat = 1 from rfl, Nat.reduceMul, Nat.reduceEqDiff, Go.Addr.add, ↓reduceIte] at hx186_0)
    have qi186 : (1 < l0.length) = True := eq_true (by omega)
    (try rw [show ((1 : Int)).toNat = 1 from rfl] at hx186_0)
    replace p186 := eq_true p186; replace q186 := eq_true q186; go_wp2
    go_ret
    exact ⟨by first | rfl | (simp; done) | (simp [*]; done), by repeat (first | exact Drawn0.refl _ | apply Drawn0.step)⟩
   rw [if_neg c15] at H; have c15b0 : ((rd l0 0) == 237) = false := beq_eq_false_iff_ne.mpr c15
   have c15b1 : ((rd l0 0) != 237) = true := bne_iff_ne.mpr c15
   by_cases c17 : (rd l0 0) = 240
   ·rw [if_pos c17] at H
    have c17b0 : ((rd l0 0) == 240) = true := beq_iff_eq.mpr c17
    have c17b1 : ((rd l0 0) != 240) = false := bne_eq_false_iff_eq.mpr c17
    clear c17; by_cases c18 : 1 < (l0.length : Int)
    rotate_left
    ·rw [if_neg c18] at H
     exact absurd H (by simp)
    rw [if_pos c18] at H; have c18b0 : decide (1 < (l0.length : Int)) = true := decide_eq_true c18
    have c18b1 : decide (1 < l0.length) = true := decide_eq_true (by omega)
    clear c18; obtain rfl := Option.some.inj H
    have p184 : 0 ≤ (0 : Int) := (by omega)
    have q184 : 0 < (l0.length : Int) := aD
    obtain ⟨ad184, e184, hx184_0⟩ := Kd.at_int HR0.out 0 p184 q184; cases e184
    have qi184 : (0 < l0.length) = True := eq_true (by omega)
    (try rw [show ((0 : Int)).toNat = 0 from rfl] at hx184_0)
    (try rw [Addr.add_zero'] at hx184_0)
    replace p184 := eq_true p184; replace q184 := eq_true q184; have p187 : 0 ≤ (1 : Int) := (by omega)
    have q187 : 1 < (l0.length : Int) := aD
    obtain ⟨ad187, e187, hx187_0⟩ := Kd.at_int HR0.out 1 p187 q187; obtain rfl : ad184 = ad187 := (by injection e187)
    (try simp only [show (1 : Int).toNat = 1 from rfl, Nat.reduceMul, Nat.reduceEqDiff, Go.Addr.add, ↓reduceIte] at hx187_0)
    have qi187 : (1 < l0.length) = True := eq_true (by omega)
    (try rw [show ((1 : Int)).toNat = 1 from rfl] at hx187_0)
    replace p187 := eq_true p187; replace q187 := eq_true q187; go_wp2
    go_ret
    exact ⟨by first | rfl | (simp; done) | (simp [*]; done), by repeat (first | exact Drawn0.refl _ | apply Drawn0.step)⟩
   rw [if_neg c17] at H; have c17b0 : ((rd l0 0) == 240) = false := beq_eq_false_iff_ne.mpr c17
   have c17b1 : ((rd l0 0) != 240) = true := bne_iff_ne.mpr c17
   by_cases c19 : (rd l0 0) = 244
   rotate_left
   ·rw [if_neg c19] at H
    have c19b0 : ((rd l0 0) == 244) = false := beq_eq_false_iff_ne.mpr c19
    have c19b1 : ((rd l0 0) != 244) = true := bne_iff_ne.mpr c19
    obtain rfl := Option.some.inj H
    have p184 : 0 ≤ (0 : Int) := (by omega)
    have q184 : 0 < (l0.length : Int) := aD
    obtain ⟨ad184, e184, hx184_0⟩ := Kd.at_int HR0.out 0 p184 q184; cases e184
    have qi184 : (0 < l0.length) = True := eq_true (by omega)
    (try rw [show ((0 : Int)).toNat = 0 from rfl] at hx184_0)
    (try rw [Addr.add_zero'] at hx184_0)
    replace p184 := eq_true p184; replace q184 := eq_true q184; go_wp2
    go_ret
    exact ⟨by first | rfl | (simp; done) | (simp [*]; done), by repeat (first | exact Drawn0.refl _ | apply Drawn0.step)⟩
   rw [if_pos c19] at H; have c19b0 : ((rd l0 0) == 244) = true := beq_iff_eq.mpr c19
   have c19b1 : ((rd l0 0) != 244) = false := bne_eq_false_iff_eq.mpr c19
   clear c19; by_cases c20 : 1 < (l0.length : Int)
   rotate_left
   ·rw [if_neg c20] at H
    exact absurd H (by simp)
   rw [if_pos c20] at H; have c20b0 : decide (1 < (l0.length : Int)) = true := decide_eq_true c20
   have c20b1 : decide (1 < l0.length) = true := decide_eq_true (by omega)
   clear c20; obtain rfl := Option.some.inj H
   have p184 : 0 ≤ (0 : Int) := (by omega)
   have q184 : 0 < (l0.length : Int) := aD
   obtain ⟨ad184, e184, hx184_0⟩ := Kd.at_int HR0.out 0 p184 q184; cases e184
   have qi184 : (0 < l0.length) = True := eq_true (by omega)
   (try rw [show ((0 : Int)).toNat = 0 from rfl] at hx184_0)
   (try rw [Addr.add_zero'] at hx184_0)
   replace p184 := eq_true p184; replace q184 := eq_true q184; have p188 : 0 ≤ (1 : Int) := (by omega)
   have q188 : 1 < (l0.length : Int) := aD
   obtain ⟨ad188, e188, hx188_0⟩ := Kd.at_int HR0.out 1 p188 q188; obtain rfl : ad184 = ad188 := (by injection e188)
   (try simp only [show (1 : Int).toNat = 1 from rfl, Nat.reduceMul, Nat.reduceEqDiff, Go.Addr.add, ↓reduceIte] at hx188_0)
   have qi188 : (1 < l0.length) = True := eq_true (by omega)
   (try rw [show ((1 : Int)).toNat = 1 from rfl] at hx188_0)
   replace p188 := eq_true p188; replace q188 := eq_true q188; go_wp2
   go_ret
   exact ⟨by first | rfl | (simp; done) | (simp [*]; done), by repeat (first | exact Drawn0.refl _ | apply Drawn0.step)⟩
mutual
def stanzaref01_One.j0 : Nat → List Int → Int → Bool → Option (Int × Int × Int)
 | 0, _, _, _ => none
 | k + 1, x0, x1, x16 => if x16 = true then (some (0, 0, 0)) else (stanzaref01_One.l0 k x0 x1 0)
def stanzaref01_One.j2 : Nat → List Int → Int → Int → Option (Int × Int × Int)
 | 0, _, _, _ => none
 | k + 1, x0, x1, x5 => if x5 = 0 then (some (65533, x1, 1)) else (if 0 ≤ x1 then (if x1 < (x0.length : Int) then ((stanzaref01_length.f k (rd x0 x1)).bind fun t193 => (if x5 < t193 then (some (65533, x1, x5)) else ((some (([0, 127, 31, 15, 7] : List Int) : List Int)).bind fun y195 => (if 0 ≤ x5 then (if x5 < (y195.length : Int) then (stanzaref01_One.l1 k x0 x1 x5 (Go.bits .and .i32 (wrap32 (rd x0 x1)) (rd y195 x5)) 1) else (none)) else (none))))) else (none)) else (none))
def stanzaref01_One.l1 : Nat → List Int → Int → Int → Int → Int → Option (Int × Int × Int)
 | 0, _, _, _, _, _ => none
 | k + 1, x0, x1, x5, x6, x8 => if x8 < x5 then (if 0 ≤ (wrap64 (x1 + x8)) then (if (wrap64 (x1 + x8)) < (x0.length : Int) then (stanzaref01_One.l1 k x0 x1 x5 (wrap32 ((wrap32 ((wrap32 (x6 * 64)) + (wrap32 (rd x0 (wrap64 (x1 + x8)))))) - 128)) (wrap64 (x8 + 1))) else (none)) else (none)) else (some (x6, x1, x5))
def stanzaref01_One.l0 : Nat → List Int → Int → Int → Option (Int × Int × Int)
 | 0, _, _, _ => none
 | k + 1, x0, x1, x5 => if x5 < 4 then (if x5 < (wrap64 ((x0.length : Int) - x1)) then (if 0 ≤ x1 then (if x1 ≤ (wrap64 ((wrap64 (x1 + x5)) + 1)) then (if (wrap64 ((wrap64 (x1 + x5)) + 1)) ≤ (x0.length : Int) then ((stanzaref01_Begins.f k ((x0.take ((wrap64 ((wrap64 (x1 + x5)) + 1)) : Int).toNat).drop (x1 : Int).toNat)).bind fun t191 => (if t191 = true then (stanzaref01_One.l0 k x0 x1 (wrap64 (x5 + 1))) else (stanzaref01_One.j2 k x0 x1 x5))) else (none)) else (none)) else (none)) else (stanzaref01_One.j2 k x0 x1 x5)) else (stanzaref01_One.j2 k x0 x1 x5)
end
def stanzaref01_One.f (k : Nat) (l0 : List Int) (a1 : Int) : Option (Int × Int × Int) := if a1 < 0 then (stanzaref01_One.j0 k l0 a1 true) else (stanzaref01_One.j0 k l0 a1 (decide (a1 ≥ (l0.length : Int))))
theorem stanzaref01_One.mono_l : ∀ k, (∀ y0 y1 y2, LeO (stanzaref01_One.j0 k y0 y1 y2) (stanzaref01_One.j0 (k + 1) y0 y1 y2)) ∧ (∀ y0 y1 y2, LeO (stanzaref01_One.j2 k y0 y1 y2) (stanzaref01_One.j2 (k + 1) y0 y1 y2)) ∧ (∀ y0 y1 y2 y3 y4, LeO (stanzaref01_One.l1 k y0 y1 y2 y3 y4) (stanzaref01_One.l1 (k + 1) y0 y1 y2 y3 y4)) ∧ (∀ y0 y1 y2, LeO (stanzaref01_One.l0 k y0 y1 y2) (stanzaref01_One.l0 (k + 1) y0 y1 y2))
 | 0 => ⟨fun _ _ _ r h => by simp [stanzaref01_One.j0] at h, fun _ _ _ r h => by simp [stanzaref01_One.j2] at h, fun _ _ _ _ _ r h => by simp [stanzaref01_One.l1] at h, fun _ _ _ r h => by simp [stanzaref01_One.l0] at h⟩
 | k + 1 => by
  obtain ⟨ih0, ih1, ih2, ih3⟩ := stanzaref01_One.mono_l k; refine ⟨?_, ?_, ?_, ?_⟩
  ·intro y0 y1 y2
   unfold stanzaref01_One.j0
   repeat' (with_reducible first | exact ih0 _ _ _ | exact ih1 _ _ _ | exact ih2 _ _ _ _ _ | exact ih3 _ _ _ | exact stanzaref01_Begins.mono _ _ | exact stanzaref01_length.mono _ _ | exact LeO.refl _ | exact LeO.none _ | refine LeO.ite ?_ ?_ | refine LeO.bind ?_ (fun _ => ?_))
  ·intro y0 y1 y2
   unfold stanzaref01_One.j2
   repeat' (with_reducible first | exact ih0 _ _ _ | exact ih1 _ _ _ | exact ih2 _ _ _ _ _ | exact ih3 _ _ _ | exact stanzaref01_Begins.mono _ _ | exact stanzaref01_length.mono _ _ | exact LeO.refl _ | exact LeO.none _ | refine LeO.ite ?_ ?_ | refine LeO.bind ?_ (fun _ => ?_))
  ·intro y0 y1 y2 y3 y4
   unfold stanzaref01_One.l1
   repeat' (with_reducible first | exact ih0 _ _ _ | exact ih1 _ _ _ | exact ih2 _ _ _ _ _ | exact ih3 _ _ _ | exact stanzaref01_Begins.mono _ _ | exact stanzaref01_length.mono _ _ | exact LeO.refl _ | exact LeO.none _ | refine LeO.ite ?_ ?_ | refine LeO.bind ?_ (fun _ => ?_))
  ·intro y0 y1 y2
   unfold stanzaref01_One.l0
   repeat' (with_reducible first | exact ih0 _ _ _ | exact ih1 _ _ _ | exact ih2 _ _ _ _ _ | exact ih3 _ _ _ | exact stanzaref01_Begins.mono _ _ | exact stanzaref01_length.mono _ _ | exact LeO.refl _ | exact LeO.none _ | refine LeO.ite ?_ ?_ | refine LeO.bind ?_ (fun _ => ?_))
theorem stanzaref01_One.mono : ∀ a0 a1 k, LeO (stanzaref01_One.f k a0 a1) (stanzaref01_One.f (k + 1) a0 a1) := by
 intro a0 a1 k
 obtain ⟨ih0, ih1, ih2, ih3⟩ := stanzaref01_One.mono_l k; unfold stanzaref01_One.f
 repeat' (with_reducible first | exact ih0 _ _ _ | exact ih1 _ _ _ | exact ih2 _ _ _ _ _ | exact ih3 _ _ _ | exact stanzaref01_Begins.mono _ _ | exact stanzaref01_length.mono _ _ | exact LeO.refl _ | exact LeO.none _ | refine LeO.ite ?_ ?_ | refine LeO.bind ?_ (fun _ => ?_))
set_option maxHeartbeats 8000000 in
set_option maxRecDepth 100000 in
theorem stanzaref01_One.calls (k : Nat) (A0 : Option Addr) (c0 : Nat) (l0 : List Int) (a1 : Int) (r1 : Int) (r2 : Int) (r3 : Int) (w : World) (hr0 : Kd.C (Kd.int .u8) w A0 l0.length l0) (hc0 : l0.length ≤ c0) (h : stanzaref01_One.f k l0 a1 = some (r1, r2, r3)) :
  Calls Try.prog 35 #[.slice A0 l0.length c0, .int .i64 a1] w fun e w' => e = .returned (.agg #[.int .i32 r1, .int .i64 r2, .int .i64 r3]) ∧ Below w.heap.size w w' := by
 have hu50 := Try.underlying50; have HR0 := zA.mk hr0; have HC0 := zA.mk hc0; clear hr0 hc0; have HB := zA.mk (Below.refl w.heap.size w); have H : (if a1 < 0 then (stanzaref01_One.j0 k l0 a1 true) else (stanzaref01_One.j0 k l0 a1 (decide (a1 ≥ (l0.length : Int))))) = some (r1, r2, r3) := h
 clear h; have HC3 := zA.mk H; clear H; go_enter Try.func35, Try.ntmps35
 go_upto_region 1 with (first | ((with_reducible refine gate_dst (N := 4) rfl ?_); (try (refine gate_guard (by rfl) ?_; dsimp only)); refine box_event ?hg (N := 4) ?hd (cs := #[.int .i32 0, .int .i64 0, .int .i64 0]) (t := 50) ?hr ?_; (case hd => rfl); (case hg => rfl); (case hr => first | (go_simp; done) | (go_simp; rfl)); intro gb189 hg w4 hbox hb; have BK189 := zA.mk (hbox); have GW189 := zA.mk ((by rw [hg]; exact (below_size (aL HB)) : w.heap.size ≤ gb189)); replace HB := zA.mk (below_step (aL HB) hb); have GE189 := GW189; clear hb hbox hg))
 (try simp only [Act.put, sA_, sB_, sC_])
 go_cut [16] (fun v16 wc => ∃ (kq : Nat) (x16_2 : Bool), v16 = .bool x16_2 ∧ zA (stanzaref01_One.j0 kq l0 a1 x16_2 = some (r1, r2, r3)) ∧ zA (kq ≤ k) ∧ zA (wc.heap[gb189]? = some (.cells #[.int .i32 0, .int .i64 0, .int .i64 0] 50 (0, 0))) ∧ zA (Below w.heap.size w wc))
 case first =>
  have H := HC3.out; clear HC3; by_cases c5 : a1 < 0
  ·rw [if_pos c5] at H
   have c5b0 : decide (a1 < 0) = true := decide_eq_true c5
   clear c5; (first | rw [c5b0] | (simp only [i64_w, i32_w]; rw [c5b0]) | skip)
   have H' := zA.mk H
   clear H; go_wp2
   go_meet
   case rel => exact ⟨_, (true), aZ, H', ⟨by first | omega | exact Nat.le_refl _⟩, ⟨aB BK189⟩, ⟨aL HB⟩⟩
  rw [if_neg c5] at H; have c5b0 : decide (a1 < 0) = false := decide_eq_false c5
  clear c5; (first | rw [c5b0] | (simp only [i64_w, i32_w]; rw [c5b0]) | skip)
  have H' := zA.mk H
  clear H; go_wp2
  go_meet
  case rel => exact ⟨_, (decide (a1 ≥ (l0.length : Int))), aZ, H', ⟨by first | omega | exact Nat.le_refl _⟩, ⟨aB BK189⟩, ⟨aL HB⟩⟩
 clear HC3; obtain ⟨kq, x16_2, rfl, HA, HJ2, BK189, HB⟩ := hcut; cases kq with
 | zero => exact absurd HA.out (by simp [stanzaref01_One.j0])
 | succ kj2 =>
  have H := HA.out; clear HA; simp only [stanzaref01_One.j0] at H; by_cases c6 : x16_2 = true
  ·subst c6
   have H1 : (some (0, 0, 0)) = some (r1, r2, r3) := by rw [if_pos rfl] at H; exact H
   clear H; have H := H1; clear H1; simp only [Option.some.injEq, Prod.mk.injEq] at H; obtain ⟨rfl, rfl, rfl⟩ := H; obtain ⟨hcz7_0, hcz7_1, hcz7_2, hfz7_0, hfz7_1, hfz7_2⟩ := aC3 BK189; go_wp2_with (first | ((with_reducible refine gate_store (t := 50) (p := 4) rfl ?_); refine store_event (t := 50) (p := 4) (v := ?vo_w8) (w1 := (((wc.setCell ⟨gb189, 0, none⟩ (.int .i32 0)).setCell ⟨gb189, 1, none⟩ (.int .i64 0)).setCell ⟨gb189, 2, none⟩ (.int .i64 0))) ?hg ?ho ?hn ?hr ?_; (case ho => rfl); (case hg => rfl); (case hn => rfl); (case hr => first | (go_simp; done) | (go_simp; rfl)); intro w8 hw; have n0_ : zA (w8.heap[gb189]? = some (.cells #[.int .i32 0, .int .i64 0, .int .i64 0] 50 (0, 0))) := ⟨(by rw [hw]; exact (by (with_reducible repeat (first | refine blk_drewN ?_ _ | refine blk_drew ?_ | refine blk_alloc ?_ _)); refine blk_put (cs := #[.int .i32 0, .int .i64 0, .int .i64 0]) ?_ 2 _ rfl; (with_reducible repeat (first | refine blk_drewN ?_ _ | refine blk_drew ?_ | refine blk_alloc ?_ _)); refine blk_put (cs := #[.int .i32 0, .int .i64 0, .int .i64 0]) ?_ 1 _ rfl; (with_reducible repeat (first | refine blk_drewN ?_ _ | refine blk_drew ?_ | refine blk_alloc ?_ _)); refine blk_put (cs := #[.int .i32 0, .int .i64 0, .int .i64 0]) ?_ 0 _ rfl; (with_reducible repeat (first | refine blk_drewN ?_ _ | refine blk_drew ?_ | refine blk_alloc ?_ _)); exact BK189.out))⟩; have n1_ : zA (Below w.heap.size w w8) := ⟨(by rw [hw]; exact (aL HB))⟩; clear hw; clear BK189; clear HB; have BK189 := n0_; have HB := n1_; clear n0_ n1_))
   refine bodyPost_ret (results_cell_row rfl _ _ gb189 50 #[.int .i32 0, .int .i64 0, .int .i64 0] (0, 0) _ rfl (aB BK189) Try.underlying50 rfl (by kernel_rfl)) rfl ?_
   exact ⟨aX, aL HB⟩
  replace c6 := Bool.eq_false_iff.mpr c6; subst c6; have H1 : (stanzaref01_One.l0 kj2 l0 a1 0) = some (r1, r2, r3) := by rw [if_neg (show ¬ (false = true) by decide)] at H; exact H
  clear H; have H := H1; clear H1; have HC9 := zA.mk H; clear H; go_upto_block 0 with (fail)
  go_cut [5] (fun v5 wc => ∃ (kq : Nat) (x5_8 : Int), v5 = .int .i64 x5_8 ∧ zA (stanzaref01_One.j2 kq l0 a1 x5_8 = some (r1, r2, r3)) ∧ zA (kq ≤ kj2) ∧ zA (wc.heap[gb189]? = some (.cells #[.int .i32 0, .int .i64 0, .int .i64 0] 50 (0, 0))) ∧ zA (Below w.heap.size w wc))
  case first =>
   have H := HC9.out; clear HC9; have H' := zA.mk H
   clear H; go_wp2
   go_loopg [5] kj2 (fun kq v5 w' => ∃ (x5_2 : Int), v5 = .int .i64 x5_2 ∧ zA (stanzaref01_One.l0 kq l0 a1 x5_2 = some (r1, r2, r3)) ∧ zA (kq ≤ kj2) ∧ zA (w'.heap[gb189]? = some (.cells #[.int .i32 0, .int .i64 0, .int .i64 0] 50 (0, 0))) ∧ zA (Below w.heap.size w w'))
   case atStart => exact ⟨(0), aZ, H', ⟨Nat.le_refl _⟩, ⟨aB BK189⟩, ⟨aL HB⟩⟩
   clear H'; obtain ⟨x5_2, rfl, HA, HK2, BK189, HB⟩ := hrel; cases gk with
   | zero => exact absurd HA.out (by simp [stanzaref01_One.l0])
   | succ k2 =>
    have H := HA.out; clear HA; simp only [stanzaref01_One.l0] at H; by_cases c10 : x5_2 < 4
    rotate_left
    ·rw [if_neg c10] at H
     have c10b0 : decide (x5_2 < 4) = false := decide_eq_false c10
     clear c10; (first | rw [c10b0] | (simp only [i64_w, i32_w]; rw [c10b0]) | skip)
     have H' := zA.mk H
     clear H; go_wp2
     go_meet
     case rel => exact ⟨_, (x5_2), aZ, H', ⟨by have := HJ2.out; have := HK2.out; first | omega | exact Nat.le_refl _⟩, ⟨aB BK189⟩, ⟨aL HB⟩⟩
    rw [if_pos c10] at H; have c10b0 : decide (x5_2 < 4) = true := decide_eq_true c10
    clear c10; (first | rw [c10b0] | (simp only [i64_w, i32_w]; rw [c10b0]) | skip)
    by_cases c11 : x5_2 < (wrap64 ((l0.length : Int) - a1))
    rotate_left
    ·rw [if_neg c11] at H
     have c11b0 : decide (x5_2 < (wrap64 ((l0.length : Int) - a1))) = false := decide_eq_false c11
     clear c11; have H' := zA.mk H
     clear H; go_wp2
     go_meet
     case rel => exact ⟨_, (x5_2), aZ, H', ⟨by have := HJ2.out; have := HK2.out; first | omega | exact Nat.le_refl _⟩, ⟨aB BK189⟩, ⟨aL HB⟩⟩
    rw [if_pos c11] at H; have c11b0 : decide (x5_2 < (wrap64 ((l0.length : Int) - a1))) = true := decide_eq_true c11
    clear c11; by_cases c12 : 0 ≤ a1
    rotate_left
    ·rw [if_neg c12] at H
     exact absurd H (by simp)
    rw [if_pos c12] at H; have c12b0 := eq_true c12; have c12b1 : decide (0 ≤ a1) = true := decide_eq_true c12
    clear c12; by_cases c13 : a1 ≤ (wrap64 ((wrap64 (a1 + x5_2)) + 1))
    rotate_left
    ·rw [if_neg c13] at H
     exact absurd H (by simp)
    rw [if_pos c13] at H; have c13b0 := eq_true c13; have c13b1 : decide (a1 ≤ (wrap64 ((wrap64 (a1 + x5_2)) + 1))) = true := decide_eq_true c13
    by_cases c14 : (wrap64 ((wrap64 (a1 + x5_2)) + 1)) ≤ (l0.length : Int)
    rotate_left
    ·rw [if_neg c14] at H
     exact absurd H (by simp)
    rw [if_pos c14] at H; have c14b0 := eq_true c14; have c14b1 : decide ((wrap64 ((wrap64 (a1 + x5_2)) + 1)) ≤ (l0.length : Int)) = true := decide_eq_true c14
    replace H := Option.bind_eq_some_iff.mp H; obtain ⟨t191, A150, H⟩ := H; replace H : (if t191 = true then (stanzaref01_One.l0 k2 l0 a1 (wrap64 (x5_2 + 1))) else (stanzaref01_One.j2 k2 l0 a1 x5_2)) = some (r1, r2, r3) := H; have A15 := zA.mk A150; clear A150; by_cases c16 : t191 = true
    ·subst c16
     have H1 : (stanzaref01_One.l0 k2 l0 a1 (wrap64 (x5_2 + 1))) = some (r1, r2, r3) := by rw [if_pos rfl] at H; exact H
     clear H; have H := H1; clear H1; have H' := zA.mk H
     clear H; obtain ⟨i017, hi017, _, hsz17, _⟩ := info_parts info5; obtain ⟨A17, hcut17, hA17, hC17⟩ := print_mid_of (P := Try.prog) (Value.int .u8) 0 22 5 .i64 .i64 Try.underlying22 hi017 hsz17 A0 c0 l0 a1 (wrap64 ((wrap64 (a1 + x5_2)) + 1)) (aD) (by first | omega | exact aD) (aD) HC0.out
     have HR190 := zA.mk (Kd.C_of_reads (h1 := fun _ => rfl) (hA17 _ (Kd.reads_of_C HR0.out)))
     have HC190 := zA.mk hC17; clear hA17 hC17 hi017 hsz17; go_wp2_with (first | (go_at_call 38; refine calls_of_args (args' := #[.slice A17 ((l0.take ((wrap64 ((wrap64 (a1 + x5_2)) + 1)) : Int).toNat).drop (a1 : Int).toNat).length (c0 - a1.toNat)]) (by first | (rw [show ((l0.take ((wrap64 ((wrap64 (a1 + x5_2)) + 1)) : Int).toNat).drop (a1 : Int).toNat).length = ((wrap64 ((wrap64 (a1 + x5_2)) + 1)).toNat - a1.toNat) from (by rw [List.length_drop, List.length_take]; have h_ : ((wrap64 ((wrap64 (a1 + x5_2)) + 1)) : Int) ≤ (l0.length : Int) := aD; omega)] <;> rfl) | rfl) ?_; (with_reducible refine (stanzaref01_Begins.calls k2 _ _ ((l0.take ((wrap64 ((wrap64 (a1 + x5_2)) + 1)) : Int).toNat).drop (a1 : Int).toNat) true _ ?side1 ?side2 A15.out).mono ?_); (case side1 => exact aA HR190 HB); (case side2 => exact HC190.out); rintro e w' ⟨rfl, ⟨nd, rfl⟩⟩))
     go_roundg k2
     case measure => have := HJ2.out; have := HK2.out; omega
     case rel => exact ⟨(wrap64 (x5_2 + 1)), aZ, H', ⟨by have := HJ2.out; have := HK2.out; omega⟩, ⟨aB BK189⟩, ⟨aL HB⟩⟩
    replace c16 := Bool.eq_false_iff.mpr c16; subst c16; have H1 : (stanzaref01_One.j2 k2 l0 a1 x5_2) = some (r1, r2, r3) := by rw [if_neg (show ¬ (false = true) by decide)] at H; exact H
    clear H; have H := H1; clear H1; have H' := zA.mk H
    clear H; obtain ⟨i018, hi018, _, hsz18, _⟩ := info_parts info5; obtain ⟨A18, hcut18, hA18, hC18⟩ := print_mid_of (P := Try.prog) (Value.int .u8) 0 22 5 .i64 .i64 Try.underlying22 hi018 hsz18 A0 c0 l0 a1 (wrap64 ((wrap64 (a1 + x5_2)) + 1)) (aD) (by first | omega | exact aD) (aD) HC0.out
    have HR190 := zA.mk (Kd.C_of_reads (h1 := fun _ => rfl) (hA18 _ (Kd.reads_of_C HR0.out)))
    have HC190 := zA.mk hC18; clear hA18 hC18 hi018 hsz18; go_wp2_with (first | (go_at_call 38; refine calls_of_args (args' := #[.slice A18 ((l0.take ((wrap64 ((wrap64 (a1 + x5_2)) + 1)) : Int).toNat).drop (a1 : Int).toNat).length (c0 - a1.toNat)]) (by first | (rw [show ((l0.take ((wrap64 ((wrap64 (a1 + x5_2)) + 1)) : Int).toNat).drop (a1 : Int).toNat).length = ((wrap64 ((wrap64 (a1 + x5_2)) + 1)).toNat - a1.toNat) from (by rw [List.length_drop, List.length_take]; have h_ : ((wrap64 ((wrap64 (a1 + x5_2)) + 1)) : Int) ≤ (l0.length : Int) := aD; omega)] <;> rfl) | rfl) ?_; (with_reducible refine (stanzaref01_Begins.calls k2 _ _ ((l0.take ((wrap64 ((wrap64 (a1 + x5_2)) + 1)) : Int).toNat).drop (a1 : Int).toNat) false _ ?side1 ?side2 A15.out).mono ?_); (case side1 => exact aA HR190 HB); (case side2 => exact HC190.out); rintro e w' ⟨rfl, ⟨nd, rfl⟩⟩))
    go_meet
    case rel => exact ⟨_, (x5_2), aZ, H', ⟨by have := HJ2.out; have := HK2.out; first | omega | exact Nat.le_refl _⟩, ⟨aB BK189⟩, ⟨aL HB⟩⟩
  clear HC9; obtain ⟨kq, x5_8, rfl, HA, HJ8, BK189, HB⟩ := hcut; cases kq with
  | zero => exact absurd HA.out (by simp [stanzaref01_One.j2])
  | succ kj8 =>
   have H := HA.out; clear HA; simp only [stanzaref01_One.j2] at H; by_cases c19 : x5_8 = 0
   ·rw [if_pos c19] at H
    have c19b0 : (x5_8 == 0) = true := beq_iff_eq.mpr c19
    have c19b1 : (x5_8 != 0) = false := bne_eq_false_iff_eq.mpr c19
    clear c19; simp only [Option.some.injEq, Prod.mk.injEq] at H; obtain ⟨rfl, rfl, rfl⟩ := H; obtain ⟨hcz20_0, hcz20_1, hcz20_2, hfz20_0, hfz20_1, hfz20_2⟩ := aC3 BK189; go_wp2_with (first | ((with_reducible refine gate_store (t := 50) (p := 4) rfl ?_); refine store_event (t := 50) (p := 4) (v := ?vo_w21) (w1 := (((wc.setCell ⟨gb189, 0, none⟩ (.int .i32 65533)).setCell ⟨gb189, 1, none⟩ (.int .i64 a1)).setCell ⟨gb189, 2, none⟩ (.int .i64 1))) ?hg ?ho ?hn ?hr ?_; (case ho => rfl); (case hg => rfl); (case hn => rfl); (case hr => first | (go_simp; done) | (go_simp; rfl)); intro w21 hw; have n0_ : zA (w21.heap[gb189]? = some (.cells #[.int .i32 65533, .int .i64 a1, .int .i64 1] 50 (0, 0))) := ⟨(by rw [hw]; exact (by (with_reducible repeat (first | refine blk_drewN ?_ _ | refine blk_drew ?_ | refine blk_alloc ?_ _)); refine blk_put (cs := #[.int .i32 65533, .int .i64 a1, .int .i64 0]) ?_ 2 _ rfl; (with_reducible repeat (first | refine blk_drewN ?_ _ | refine blk_drew ?_ | refine blk_alloc ?_ _)); refine blk_put (cs := #[.int .i32 65533, .int .i64 0, .int .i64 0]) ?_ 1 _ rfl; (with_reducible repeat (first | refine blk_drewN ?_ _ | refine blk_drew ?_ | refine blk_alloc ?_ _)); refine blk_put (cs := #[.int .i32 0, .int .i64 0, .int .i64 0]) ?_ 0 _ rfl; (with_reducible repeat (first | refine blk_drewN ?_ _ | refine blk_drew ?_ | refine blk_alloc ?_ _)); exact BK189.out))⟩; have n1_ : zA (Below w.heap.size w w21) := ⟨(by rw [hw]; exact (aL HB))⟩; clear hw; clear BK189; clear HB; have BK189 := n0_; have HB := n1_; clear n0_ n1_))
    refine bodyPost_ret (results_cell_row rfl _ _ gb189 50 #[.int .i32 65533, .int .i64 a1, .int .i64 1] (0, 0) _ rfl (aB BK189) Try.underlying50 rfl (by kernel_rfl)) rfl ?_
    exact ⟨aX, aL HB⟩
   rw [if_neg c19] at H; have c19b0 : (x5_8 == 0) = false := beq_eq_false_iff_ne.mpr c19
   have c19b1 : (x5_8 != 0) = true := bne_iff_ne.mpr c19
   by_cases c22 : 0 ≤ a1
   rotate_left
   ·rw [if_neg c22] at H
    exact absurd H (by simp)
   rw [if_pos c22] at H; have c22b0 : decide (0 ≤ a1) = true := decide_eq_true c22
   clear c22; by_cases c23 : a1 < (l0.length : Int)
   rotate_left
   ·rw [if_neg c23] at H
    exact absurd H (by simp)
   rw [if_pos c23] at H; have c23b0 : decide (a1 < (l0.length : Int)) = true := decide_eq_true c23
   clear c23; replace H := Option.bind_eq_some_iff.mp H; obtain ⟨t193, A240, H⟩ := H; replace H : (if x5_8 < t193 then (some (65533, a1, x5_8)) else ((some (([0, 127, 31, 15, 7] : List Int) : List Int)).bind fun y195 => (if 0 ≤ x5_8 then (if x5_8 < (y195.length : Int) then (stanzaref01_One.l1 kj8 l0 a1 x5_8 (Go.bits .and .i32 (wrap32 (rd l0 a1)) (rd y195 x5_8)) 1) else (none)) else (none)))) = some (r1, r2, r3) := H
   have A24 := zA.mk A240; clear A240; by_cases c25 : x5_8 < t193
   ·rw [if_pos c25] at H
    have c25b0 : decide (x5_8 < t193) = true := decide_eq_true c25
    clear c25; simp only [Option.some.injEq, Prod.mk.injEq] at H; obtain ⟨rfl, rfl, rfl⟩ := H; have p192 : 0 ≤ (a1 : Int) := aD
    have q192 : a1 < (l0.length : Int) := aD
    obtain ⟨ad192, e192, hx192_0⟩ := Kd.at_int HR0.out a1 p192 q192; cases e192
    replace hx192_0 := (HB.out.cell (World.block_lt_of_cell? w _ hx192_0)).trans hx192_0; replace p192 := eq_true p192; replace q192 := eq_true q192; go_wp2_with (first | ((with_reducible refine gate_callee (f := 39) rfl ?_); refine goesL_ (some 49) rfl rfl Try.func39 (by kernel_rfl) rfl #[.int .u8 (rd l0 a1)] rfl aT ?_; (with_reducible refine (stanzaref01_length.calls kj8 (rd l0 a1) t193 _ A24.out).mono ?_); rintro e w' ⟨rfl, ⟨nd, rfl⟩⟩; refine ⟨_, rfl, ?_⟩; (try (rw [drewN_self wc]; generalize hq_ : World.drewN wc _ = wc; have n0_ : zA (wc.heap[gb189]? = some (.cells #[.int .i32 0, .int .i64 0, .int .i64 0] 50 (0, 0))) := ⟨by rw [← hq_]; exact (aB BK189)⟩; have n1_ : zA (Below w.heap.size w wc) := ⟨by rw [← hq_]; exact (aL HB)⟩; clear BK189 HB hq_; have BK189 := n0_; have HB := n1_; clear n0_ n1_)); obtain ⟨hcz26_0, hcz26_1, hcz26_2, hfz26_0, hfz26_1, hfz26_2⟩ := aC3 BK189) | ((with_reducible refine gate_store (t := 50) (p := 4) rfl ?_); refine store_event (t := 50) (p := 4) (v := ?vo_w27) (w1 := (((wc.setCell ⟨gb189, 0, none⟩ (.int .i32 65533)).setCell ⟨gb189, 1, none⟩ (.int .i64 a1)).setCell ⟨gb189, 2, none⟩ (.int .i64 x5_8))) ?hg ?ho ?hn ?hr ?_; (case ho => rfl); (case hg => rfl); (case hn => rfl); (case hr => first | (go_simp; done) | (go_simp; rfl)); intro w27 hw; have n0_ : zA (w27.heap[gb189]? = some (.cells #[.int .i32 65533, .int .i64 a1, .int .i64 x5_8] 50 (0, 0))) := ⟨(by rw [hw]; exact (by (with_reducible repeat (first | refine blk_drewN ?_ _ | refine blk_drew ?_ | refine blk_alloc ?_ _)); refine blk_put (cs := #[.int .i32 65533, .int .i64 a1, .int .i64 0]) ?_ 2 _ rfl; (with_reducible repeat (first | refine blk_drewN ?_ _ | refine blk_drew ?_ | refine blk_alloc ?_ _)); refine blk_put (cs := #[.int .i32 65533, .int .i64 0, .int .i64 0]) ?_ 1 _ rfl; (with_reducible repeat (first | refine blk_drewN ?_ _ | refine blk_drew ?_ | refine blk_alloc ?_ _)); refine blk_put (cs := #[.int .i32 0, .int .i64 0, .int .i64 0]) ?_ 0 _ rfl; (with_reducible repeat (first | refine blk_drewN ?_ _ | refine blk_drew ?_ | refine blk_alloc ?_ _)); exact BK189.out))⟩; have n1_ : zA (Below w.heap.size w w27) := ⟨(by rw [hw]; exact (aL HB))⟩; clear hw; clear BK189; clear HB; have BK189 := n0_; have HB := n1_; clear n0_ n1_))
    refine bodyPost_ret (results_cell_row rfl _ _ gb189 50 #[.int .i32 65533, .int .i64 a1, .int .i64 x5_8] (0, 0) _ rfl (aB BK189) Try.underlying50 rfl (by kernel_rfl)) rfl ?_
    exact ⟨aX, aL HB⟩
   rw [if_neg c25] at H; have c25b0 : decide (x5_8 < t193) = false := decide_eq_false c25
   clear c25; obtain ⟨y195, hy195⟩ : ∃ y_ : List Int, y_ = (([0, 127, 31, 15, 7] : List Int)) := ⟨_, rfl⟩; replace H : (if 0 ≤ x5_8 then (if x5_8 < (y195.length : Int) then (stanzaref01_One.l1 kj8 l0 a1 x5_8 (Go.bits .and .i32 (wrap32 (rd l0 a1)) (rd y195 x5_8)) 1) else (none)) else (none)) = some (r1, r2, r3) := by first | (rw [hy195]; with_reducible exact H) | (have H2_ := (Option.bind_some _ _).symm.trans H; rw [hy195]; with_reducible exact H2_) | (have H2_ := (Option.bind_some _ _).symm.trans H; with_reducible exact H2_) | with_reducible exact H | (rw [hy195]; exact H) | exact H
   have Ny195 := zA.mk hy195; clear hy195; by_cases c28 : 0 ≤ x5_8
   rotate_left
   ·rw [if_neg c28] at H
    exact absurd H (by simp)
   rw [if_pos c28] at H; have c28b0 : decide (0 ≤ x5_8) = true := decide_eq_true c28
   clear c28; by_cases c29 : x5_8 < (y195.length : Int)
   rotate_left
   ·rw [if_neg c29] at H
    exact absurd H (by simp)
   rw [if_pos c29] at H; have c29b0 : decide (x5_8 < (y195.length : Int)) = true := decide_eq_true c29
   clear c29; have H' := zA.mk H
   clear H; have p192 : 0 ≤ (a1 : Int) := aD
   have q192 : a1 < (l0.length : Int) := aD
   obtain ⟨ad192, e192, hx192_0⟩ := Kd.at_int HR0.out a1 p192 q192; cases e192
   replace hx192_0 := (HB.out.cell (World.block_lt_of_cell? w _ hx192_0)).trans hx192_0; replace p192 := eq_true p192; replace q192 := eq_true q192; go_wp2_with (first | ((with_reducible refine gate_callee (f := 39) rfl ?_); refine goesL_ (some 49) rfl rfl Try.func39 (by kernel_rfl) rfl #[.int .u8 (rd l0 a1)] rfl aT ?_; (with_reducible refine (stanzaref01_length.calls kj8 (rd l0 a1) t193 _ A24.out).mono ?_); rintro e w' ⟨rfl, ⟨nd, rfl⟩⟩; refine ⟨_, rfl, ?_⟩; have p194 : 0 ≤ (a1 : Int) := aD; have q194 : a1 < (l0.length : Int) := aD; obtain ⟨ad194, e194, hx194_0⟩ := Kd.at_int HR0.out a1 p194 q194; obtain rfl : ad192 = ad194 := (by injection e194); replace hx194_0 := (HB.out.cell (World.block_lt_of_cell? w _ hx194_0)).trans hx194_0; replace p194 := eq_true p194; replace q194 := eq_true q194) | ((with_reducible refine gate_dst (N := 59) rfl ?_); (try (refine gate_guard (by rfl) ?_; dsimp only)); refine Kd.R_lit (Kd.int .i32) _ 21 ?hg (N := 59) ?hd (xs := ([0, 127, 31, 15, 7] : List Int)) (inner := [.int .i32 0, .int .i32 127, .int .i32 31, .int .i32 15, .int .i32 7]) (ok := fun _ => True) (okp := fun _ => True) ?hr ?hp (fun _ hk => hk) trivial (Below.refl _ _) (Nat.le_refl _) (by simp) ?_; (case hd => rfl); (case hg => rfl); (case hr => first | (go_simp; done) | (go_simp; rfl)); (case hp => exact (Reps.one (show Kd.M (Kd.int .i32) _ _ _ 0 [.int .i32 0] from rfl) (Reps.one (show Kd.M (Kd.int .i32) _ _ _ 127 [.int .i32 127] from rfl) (Reps.one (show Kd.M (Kd.int .i32) _ _ _ 31 [.int .i32 31] from rfl) (Reps.one (show Kd.M (Kd.int .i32) _ _ _ 15 [.int .i32 15] from rfl) (Reps.one (show Kd.M (Kd.int .i32) _ _ _ 7 [.int .i32 7] from rfl) (Reps.none _ _))))))); intro v196 w30 ho31 hb hg_ hnew_; clear hg_ hnew_; (first | rw [← Ny195.out] at ho31 | (simp only [Int.reduceToNat] at ho31; rw [← Ny195.out] at ho31)); have HO197 := zA.mk (Kd.zM ho31 (below_size (aL HB))); replace BK189 := zA.mk (blk_below (aB BK189) hb); replace HB := zA.mk (below_step (aL HB) hb); clear hb ho31; obtain ⟨Ao32, co32, eo32⟩ := Kd.zL HO197.out; subst eo32; have p198 : 0 ≤ (x5_8 : Int) := aD; have q198 : x5_8 < (y195.length : Int) := aD; obtain ⟨ad198, e198, hx198_0⟩ := Kd.at_int (Kd.zI HO197.out).2.2 x5_8 p198 q198; cases e198; replace p198 := eq_true p198; replace q198 := eq_true q198))
   go_loopg [6, 8] kj8 (fun kq v6 v8 w' => ∃ (x6_3 : Int) (x8_3 : Int), v6 = .int .i32 x6_3 ∧ v8 = .int .i64 x8_3 ∧ zA (stanzaref01_One.l1 kq l0 a1 x5_8 x6_3 x8_3 = some (r1, r2, r3)) ∧ zA (kq ≤ kj8) ∧ zA (w'.heap[gb189]? = some (.cells #[.int .i32 0, .int .i64 0, .int .i64 0] 50 (0, 0))) ∧ zA (Below w.heap.size w w'))
   case atStart => exact ⟨(Go.bits .and .i32 (wrap32 (rd l0 a1)) (rd y195 x5_8)), (1), aZ, aZ, H', ⟨Nat.le_refl _⟩, ⟨aB BK189⟩, ⟨aL HB⟩⟩
   clear H'; obtain ⟨x6_3, x8_3, rfl, rfl, HA, HK3, BK189, HB⟩ := hrel; cases gk with
   | zero => exact absurd HA.out (by simp [stanzaref01_One.l1])
   | succ k3 =>
    have H := HA.out; clear HA; simp only [stanzaref01_One.l1] at H; by_cases c33 : x8_3 < x5_8
    ·rw [if_pos c33] at H
     have c33b0 : decide (x8_3 < x5_8) = true := decide_eq_true c33
     clear c33; obtain ⟨ji34, hji34⟩ : ∃ j_ : Int, (wrap64 (a1 + x8_3)) = j_ := ⟨_, rfl⟩; replace H : (if 0 ≤ (ji34) then (if (ji34) < (l0.length : Int) then (stanzaref01_One.l1 k3 l0 a1 x5_8 (wrap32 ((wrap32 ((wrap32 (x6_3 * 64)) + (wrap32 (rd l0 (ji34))))) - 128)) (wrap64 (x8_3 + 1))) else (none)) else (none)) = some (r1, r2, r3) := by first | (rw [hji34] at H; exact H) | (simp only [hji34] at H ⊢; exact H)
     have hji34w : (IntKind.i64.wrap (a1 + x8_3)) = ji34 := (i64_w _).trans hji34
     by_cases c35 : 0 ≤ (ji34)
     rotate_left
     ·rw [if_neg c35] at H
      exact absurd H (by simp)
     rw [if_pos c35] at H; have c35b0 : decide (0 ≤ (ji34)) = true := decide_eq_true c35
     clear c35; by_cases c36 : (ji34) < (l0.length : Int)
     rotate_left
     ·rw [if_neg c36] at H
      exact absurd H (by simp)
     rw [if_pos c36] at H; have c36b0 : decide ((ji34) < (l0.length : Int)) = true := decide_eq_true c36
     clear c36; have H' := zA.mk H
     clear H; have p199 : 0 ≤ ((ji34) : Int) := aD
     have q199 : (ji34) < (l0.length : Int) := aD
     obtain ⟨ad199, e199, hx199_0⟩ := Kd.at_int HR0.out (ji34) p199 q199; obtain rfl : ad192 = ad199 := (by injection e199)
     replace hx199_0 := (HB.out.cell (World.block_lt_of_cell? w _ hx199_0)).trans hx199_0; replace p199 := eq_true p199; replace q199 := eq_true q199; go_wp2
     go_roundg k3
     case measure => have := HJ2.out; have := HJ8.out; have := HK3.out; omega
     case rel => exact ⟨(wrap32 ((wrap32 ((wrap32 (x6_3 * 64)) + (wrap32 (rd l0 (ji34))))) - 128)), (wrap64 (x8_3 + 1)), (by first | rfl | (simp; done) | (simp only [← hji34] <;> (first | rfl | simp)) | (simp [*]; done)), aZ, H', ⟨by have := HJ2.out; have := HJ8.out; have := HK3.out; omega⟩, ⟨aB BK189⟩, ⟨aL HB⟩⟩
    rw [if_neg c33] at H; have c33b0 : decide (x8_3 < x5_8) = false := decide_eq_false c33
    clear c33; simp only [Option.some.injEq, Prod.mk.injEq] at H; obtain ⟨rfl, rfl, rfl⟩ := H; obtain ⟨hcz37_0, hcz37_1, hcz37_2, hfz37_0, hfz37_1, hfz37_2⟩ := aC3 BK189; go_wp2_with (first | ((with_reducible refine gate_store (t := 50) (p := 4) rfl ?_); refine store_event (t := 50) (p := 4) (v := ?vo_w38) (w1 := (((wr.setCell ⟨gb189, 0, none⟩ (.int .i32 x6_3)).setCell ⟨gb189, 1, none⟩ (.int .i64 a1)).setCell ⟨gb189, 2, none⟩ (.int .i64 x5_8))) ?hg ?ho ?hn ?hr ?_; (case ho => rfl); (case hg => rfl); (case hn => rfl); (case hr => first | (go_simp; done) | (go_simp; rfl)); intro w38 hw; have n0_ : zA (w38.heap[gb189]? = some (.cells #[.int .i32 x6_3, .int .i64 a1, .int .i64 x5_8] 50 (0, 0))) := ⟨(by rw [hw]; exact (by (with_reducible repeat (first | refine blk_drewN ?_ _ | refine blk_drew ?_ | refine blk_alloc ?_ _)); refine blk_put (cs := #[.int .i32 x6_3, .int .i64 a1, .int .i64 0]) ?_ 2 _ rfl; (with_reducible repeat (first | refine blk_drewN ?_ _ | refine blk_drew ?_ | refine blk_alloc ?_ _)); refine blk_put (cs := #[.int .i32 x6_3, .int .i64 0, .int .i64 0]) ?_ 1 _ rfl; (with_reducible repeat (first | refine blk_drewN ?_ _ | refine blk_drew ?_ | refine blk_alloc ?_ _)); refine blk_put (cs := #[.int .i32 0, .int .i64 0, .int .i64 0]) ?_ 0 _ rfl; (with_reducible repeat (first | refine blk_drewN ?_ _ | refine blk_drew ?_ | refine blk_alloc ?_ _)); exact BK189.out))⟩; have n1_ : zA (Below w.heap.size w w38) := ⟨(by rw [hw]; exact (aL HB))⟩; clear hw; clear BK189; clear HB; have BK189 := n0_; have HB := n1_; clear n0_ n1_))
    refine bodyPost_ret (results_cell_row rfl _ _ gb189 50 #[.int .i32 x6_3, .int .i64 a1, .int .i64 x5_8] (0, 0) _ rfl (aB BK189) Try.underlying50 rfl (by kernel_rfl)) rfl ?_
    exact ⟨aX, aL HB⟩
def stanzaref01_All.l0 : Nat → List Int → List (S50) → Int → Option ((List (S50)))
 | 0, _, _, _ => none
 | k + 1, x0, x3, x4 => if x4 < (x0.length : Int) then ((stanzaref01_One.f k x0 x4).bind fun bt200 => (if x3.length < 5864062014805 then (stanzaref01_All.l0 k x0 (x3 ++ [(⟨bt200.1, bt200.2.1, bt200.2.2⟩ : S50)]) (wrap64 (x4 + bt200.2.2))) else (none))) else (some x3)
def stanzaref01_All.f (k : Nat) (l0 : List Int) : Option ((List (S50))) := stanzaref01_All.l0 k l0 ([] : List (S50)) 0
theorem stanzaref01_All.mono_l : ∀ k, (∀ y0 y1 y2, LeO (stanzaref01_All.l0 k y0 y1 y2) (stanzaref01_All.l0 (k + 1) y0 y1 y2))
 | 0 => fun _ _ _ r h => by simp [stanzaref01_All.l0] at h
 | k + 1 => by
  have ih0 := stanzaref01_All.mono_l k
  ·intro y0 y1 y2
   unfold stanzaref01_All.l0
   repeat' (with_reducible first | exact ih0 _ _ _ | exact stanzaref01_One.mono _ _ _ | exact LeO.refl _ | exact LeO.none _ | refine LeO.ite ?_ ?_ | refine LeO.bind ?_ (fun _ => ?_))
theorem stanzaref01_All.mono : ∀ a0 k, LeO (stanzaref01_All.f k a0) (stanzaref01_All.f (k + 1) a0) := by
 intro a0 k
 have ih0 := stanzaref01_All.mono_l k; unfold stanzaref01_All.f
 repeat' (with_reducible first | exact ih0 _ _ _ | exact stanzaref01_One.mono _ _ _ | exact LeO.refl _ | exact LeO.none _ | refine LeO.ite ?_ ?_ | refine LeO.bind ?_ (fun _ => ?_))
set_option maxHeartbeats 8000000 in
set_option maxRecDepth 100000 in
theorem stanzaref01_All.calls (k : Nat) (A0 : Option Addr) (c0 : Nat) (l0 : List Int) (r : List (S50)) (w : World) (hr0 : Kd.C (Kd.int .u8) w A0 l0.length l0) (hc0 : l0.length ≤ c0) (h : stanzaref01_All.f k l0 = some r) :
  Calls Try.prog 16 #[.slice A0 l0.length c0] w fun e w' => ∃ v0_ : Value, e = .returned (v0_) ∧ Kd.R k50 50 w' w.heap.size (fun _ => True) v0_ r ∧ Below w.heap.size w w' := by
 have hu50 := Try.underlying50; have HR0 := zA.mk hr0; have HC0 := zA.mk hc0; clear hr0 hc0; have HB := zA.mk (Below.refl w.heap.size w); have H : (stanzaref01_All.l0 k l0 ([] : List (S50)) 0) = some r := h
 clear h; have H' := zA.mk H
 clear H; go_enter Try.func16, Try.ntmps16
 go_wp2
 go_loopg [3, 4] k (fun kq v3 v4 w' => ∃ (x3_1 : List (S50)) (x4_1 : Int), v4 = .int .i64 x4_1 ∧ zA (stanzaref01_All.l0 kq l0 x3_1 x4_1 = some r) ∧ zA (kq ≤ k) ∧ zA (Kd.R k50 50 w' w.heap.size (fun _ => True) v3 x3_1) ∧ zA (Below w.heap.size w w'))
 case atStart => exact ⟨(([] : List (S50))), (0), aZ, H', ⟨Nat.le_refl _⟩, ⟨by first | exact Kd.R_nil _ _ _ _ _ | exact Kd.N_nil _ _ _ _ _ | exact Kd.V_nil _ _ _ _ _ | exact Kd.Q_nil _ _ _ _ _ | exact Kd.S_nil _ _ _ _ _⟩, ⟨aL HB⟩⟩
 clear H'; obtain ⟨x3_1, x4_1, rfl, HA, HK1, HO_3, HB⟩ := hrel; cases gk with
 | zero => exact absurd HA.out (by simp [stanzaref01_All.l0])
 | succ k1 =>
  have H := HA.out; clear HA; simp only [stanzaref01_All.l0] at H; by_cases c2 : x4_1 < (l0.length : Int)
  rotate_left
  ·rw [if_neg c2] at H
   have c2b0 : decide (x4_1 < (l0.length : Int)) = false := decide_eq_false c2
   clear c2; obtain rfl := Option.some.inj H
   go_wp2
   go_ret
   exact ⟨_, aX, aR HO_3, aL HB⟩
  rw [if_pos c2] at H; have c2b0 : decide (x4_1 < (l0.length : Int)) = true := decide_eq_true c2
  clear c2; replace H := Option.bind_eq_some_iff.mp H; obtain ⟨⟨t200, t201, t202⟩, A30, H⟩ := H; replace H : (if x3_1.length < 5864062014805 then (stanzaref01_All.l0 k1 l0 (x3_1 ++ [(⟨t200, t201, t202⟩ : S50)]) (wrap64 (x4_1 + t202))) else (none)) = some r := H; have A3 := zA.mk A30; clear A30; by_cases c4 : x3_1.length < 5864062014805
  rotate_left
  ·rw [if_neg c4] at H
   exact absurd H (by simp)
  rw [if_pos c4] at H; have LMc4 := zA.mk c4; clear c4; obtain ⟨y204, hy204⟩ : ∃ y_ : List (S50), y_ = (x3_1 ++ [(⟨t200, t201, t202⟩ : S50)]) := ⟨_, rfl⟩; replace H : (stanzaref01_All.l0 k1 l0 y204 (wrap64 (x4_1 + t202))) = some r := by first | (rw [hy204]; with_reducible exact H) | (have H2_ := (Option.bind_some _ _).symm.trans H; rw [hy204]; with_reducible exact H2_) | (have H2_ := (Option.bind_some _ _).symm.trans H; with_reducible exact H2_) | with_reducible exact H | (rw [hy204]; exact H) | exact H
  have Ny204 := zA.mk hy204; clear hy204; have H' := zA.mk H
  clear H; go_wp2_with (first | ((with_reducible refine gate_callee (f := 35) rfl ?_); refine goesL_ (some 12) rfl rfl Try.func35 (by kernel_rfl) rfl #[.slice A0 l0.length c0, .int .i64 x4_1] rfl aT ?_; (with_reducible refine (stanzaref01_One.calls k1 _ _ l0 x4_1 t200 t201 t202 _ ?side1 ?side2 A3.out).mono ?_); (case side1 => exact aA HR0 HB); (case side2 => exact HC0.out); rintro e w5 ⟨rfl, hb⟩; refine ⟨_, rfl, ?_⟩; replace HO_3 := zA.mk (Kd.zJ (aR HO_3) hb); replace HB := zA.mk (below_step (aL HB) hb); (try clear hb); (try clear hb2); (try clear hk); (try clear hi)) | ((with_reducible refine gate_dst (N := 5) rfl ?_); refine box_event ?hg (N := 5) ?hd (cs := #[.int .i32 0, .int .i64 0, .int .i64 0]) (t := 50) ?hr ?_; (case hd => rfl); (case hg => rfl); (case hr => first | (go_simp; done) | (go_simp; rfl)); intro gb203 hg w6 hbox hb; replace HO_3 := zA.mk (Kd.zJ (Kd.R_elderB (aR HO_3) gb203 (Nat.le_of_eq hg.symm)) hb); have BK203 := zA.mk (hbox); have GW203 := zA.mk ((by rw [hg]; exact (below_size (aL HB)) : w.heap.size ≤ gb203)); replace HB := zA.mk (below_step (aL HB) hb); have GE203 := GW203; clear hb hbox hg; obtain ⟨hcz7_0, hcz7_1, hcz7_2, hfz7_0, hfz7_1, hfz7_2⟩ := aC3 BK203) | ((with_reducible refine gate_store (t := 50) (p := 5) rfl ?_); refine store_event (t := 50) (p := 5) (v := ?vo_w8) (w1 := (((w6.setCell ⟨gb203, 0, none⟩ (.int .i32 t200)).setCell ⟨gb203, 1, none⟩ (.int .i64 t201)).setCell ⟨gb203, 2, none⟩ (.int .i64 t202))) ?hg ?ho ?hn ?hr ?_; (case ho => rfl); (case hg => rfl); (case hn => rfl); (case hr => first | (go_simp; done) | (go_simp; rfl)); intro w8 hw; have n0_ : zA (Kd.R k50 50 w8 w.heap.size (fun k_ => k_ ≠ gb203) u3 x3_1) := ⟨(by rw [hw]; exact (by (with_reducible repeat (first | apply Kd.zB | apply Kd.zC | apply Kd.zD)); exact Kd.zN (Kd.zK (p := ⟨gb203, 2, none⟩) (Kd.zK (p := ⟨gb203, 1, none⟩) (Kd.zK (p := ⟨gb203, 0, none⟩) (Kd.zN HO_3.out (fun k_ hk => (⟨hk, hk.2⟩ : _ ∧ k_ ≠ gb203))) (fun _ hk => hk.2) (.int .i32 t200)) (fun _ hk => hk.2) (.int .i64 t201)) (fun _ hk => hk.2) (.int .i64 t202)) (fun _ hk => hk.1.2)))⟩; have n1_ : zA (w8.heap[gb203]? = some (.cells #[.int .i32 t200, .int .i64 t201, .int .i64 t202] 50 (0, 0))) := ⟨(by rw [hw]; exact (by (with_reducible repeat (first | refine blk_drewN ?_ _ | refine blk_drew ?_ | refine blk_alloc ?_ _)); refine blk_put (cs := #[.int .i32 t200, .int .i64 t201, .int .i64 0]) ?_ 2 _ rfl; (with_reducible repeat (first | refine blk_drewN ?_ _ | refine blk_drew ?_ | refine blk_alloc ?_ _)); refine blk_put (cs := #[.int .i32 t200, .int .i64 0, .int .i64 0]) ?_ 1 _ rfl; (with_reducible repeat (first | refine blk_drewN ?_ _ | refine blk_drew ?_ | refine blk_alloc ?_ _)); refine blk_put (cs := #[.int .i32 0, .int .i64 0, .int .i64 0]) ?_ 0 _ rfl; (with_reducible repeat (first | refine blk_drewN ?_ _ | refine blk_drew ?_ | refine blk_alloc ?_ _)); exact BK203.out))⟩; have n2_ : zA (Below w.heap.size w w8) := ⟨(by rw [hw]; exact (aL HB))⟩; clear hw; clear HO_3; clear BK203; clear HB; have HO_3 := n0_; have BK203 := n1_; have HB := n2_; clear n0_ n1_ n2_; obtain ⟨hcz9_0, hcz9_1, hcz9_2, hfz9_0, hfz9_1, hfz9_2⟩ := aC3 BK203) | ((with_reducible refine gate_builtin (b := .append) (xs := #[.tmp 13, .tmp 15]) rfl ?_); at_builtin; refine Kd.R_append k50 (w0 := w) w.heap.size rfl (.tmp 13) (.tmp 15) 32 50 (.agg #[(.int .i32 0), (.int .i64 0), (.int .i64 0)]) 24 rfl Try.underlying32 info50 rfl (by decide) (by omega) u3 x3_1 (⟨t200, t201, t202⟩ : S50) [.int .i32 t200, .int .i64 t201, .int .i64 t202] (fun k_ => k_ ≠ gb203) (fun _ => False) rfl rfl ?aP (fun _ hk => hk.elim) ?aF ?aO ?aB ?aS ?aL ?_; (case aP => exact k50_mkM _ _ _ (⟨t200, t201, t202⟩ : S50)); (case aB => exact (aL HB)); (case aF => exact (fun k_ hk => Kd.freshB (g := gb203) (o := .cells #[.int .i32 t200, .int .i64 t201, .int .i64 t202] 50 (0, 0)) (aB BK203) k_ hk)); (case aO => exact (aR HO_3)); (case aS => exact (below_size (aL HB))); (case aL => have := LMc4.out; omega); intro v205 w10 ho hb hg hat; rw [← Ny204.out] at ho; replace BK203 := zA.mk (blk_grown (g := gb203) (o := .cells #[.int .i32 t200, .int .i64 t201, .int .i64 t202] 50 (0, 0)) (aB BK203) hg (Kd.R_away HO_3.out (fun _ hk => hk))); replace HB := zA.mk (hb); have HO206 := zA.mk (ho); clear HO_3; clear ho hb hg hat; obtain ⟨hcz11_0, hcz11_1, hcz11_2, hfz11_0, hfz11_1, hfz11_2⟩ := aC3 BK203))
  go_roundg k1
  case measure => have := HK1.out; omega
  case rel => exact ⟨(y204), (wrap64 (x4_1 + t202)), aZ, H', ⟨by have := HK1.out; omega⟩, ⟨by (with_reducible repeat (first | apply Kd.zB | apply Kd.zC | apply Kd.zD)); exact Kd.zN HO206.out (fun _ hk => trivial)⟩, ⟨aL HB⟩⟩
def h3_Opps.l0 : Nat → List Int → List Int → Int → Option (List Int)
 | 0, _, _, _ => none
 | k + 1, x0, x3, x4 => if x4 < (x0.length : Int) then (if 0 ≤ x4 then (if x3.length < 140737488355328 then (h3_Opps.l0 k x0 (x3 ++ [rd x0 x4]) (wrap64 (x4 + 1))) else (none)) else (none)) else (some x3)
def h3_Opps.f (k : Nat) (l0 : List Int) : Option (List Int) := h3_Opps.l0 k l0 ([] : List Int) 0
theorem h3_Opps.mono_l : ∀ k, (∀ y0 y1 y2, LeO (h3_Opps.l0 k y0 y1 y2) (h3_Opps.l0 (k + 1) y0 y1 y2))
 | 0 => fun _ _ _ r h => by simp [h3_Opps.l0] at h
 | k + 1 => by
  have ih0 := h3_Opps.mono_l k
  ·intro y0 y1 y2
   unfold h3_Opps.l0
   repeat' (with_reducible first | exact ih0 _ _ _ | exact LeO.refl _ | exact LeO.none _ | refine LeO.ite ?_ ?_ | refine LeO.bind ?_ (fun _ => ?_))
theorem h3_Opps.mono : ∀ a0 k, LeO (h3_Opps.f k a0) (h3_Opps.f (k + 1) a0) := by
 intro a0 k
 have ih0 := h3_Opps.mono_l k; unfold h3_Opps.f
 repeat' (with_reducible first | exact ih0 _ _ _ | exact LeO.refl _ | exact LeO.none _ | refine LeO.ite ?_ ?_ | refine LeO.bind ?_ (fun _ => ?_))
set_option maxHeartbeats 8000000 in
set_option maxRecDepth 100000 in
theorem h3_Opps.calls (k : Nat) (A0 : Option Addr) (c0 : Nat) (l0 : List Int) (r : List Int) (w : World) (hr0 : Kd.C (Kd.int .u8) w A0 l0.length l0) (hc0 : l0.length ≤ c0) (h : h3_Opps.f k l0 = some r) :
  Calls Try.prog 18 #[.slice A0 l0.length c0] w fun e w' => ∃ v0_ : Value, e = .returned (v0_) ∧ Kd.R (Kd.int .u8) 53 w' w.heap.size (fun _ => True) v0_ r ∧ Below w.heap.size w w' := by
 have HR0 := zA.mk hr0; have HC0 := zA.mk hc0; clear hr0 hc0; have HB := zA.mk (Below.refl w.heap.size w); have H : (h3_Opps.l0 k l0 ([] : List Int) 0) = some r := h
 clear h; have H' := zA.mk H
 clear H; go_enter Try.func18, Try.ntmps18
 go_wp2
 go_loopg [3, 4] k (fun kq v3 v4 w' => ∃ (x3_1 : List Int) (x4_1 : Int), v4 = .int .i64 x4_1 ∧ zA (h3_Opps.l0 kq l0 x3_1 x4_1 = some r) ∧ zA (kq ≤ k) ∧ zA (Kd.R (Kd.int .u8) 53 w' w.heap.size (fun _ => True) v3 x3_1) ∧ zA (Below w.heap.size w w'))
 case atStart => exact ⟨(([] : List Int)), (0), aZ, H', ⟨Nat.le_refl _⟩, ⟨by first | exact Kd.R_nil _ _ _ _ _ | exact Kd.N_nil _ _ _ _ _ | exact Kd.V_nil _ _ _ _ _ | exact Kd.Q_nil _ _ _ _ _ | exact Kd.S_nil _ _ _ _ _⟩, ⟨aL HB⟩⟩
 clear H'; obtain ⟨x3_1, x4_1, rfl, HA, HK1, HO_3, HB⟩ := hrel; cases gk with
 | zero => exact absurd HA.out (by simp [h3_Opps.l0])
 | succ k1 =>
  have H := HA.out; clear HA; simp only [h3_Opps.l0] at H; by_cases c2 : x4_1 < (l0.length : Int)
  rotate_left
  ·rw [if_neg c2] at H
   have c2b0 : decide (x4_1 < (l0.length : Int)) = false := decide_eq_false c2
   clear c2; obtain rfl := Option.some.inj H
   go_wp2
   go_ret
   exact ⟨_, aX, aR HO_3, aL HB⟩
  rw [if_pos c2] at H; have c2b0 : decide (x4_1 < (l0.length : Int)) = true := decide_eq_true c2
  clear c2; by_cases c3 : 0 ≤ x4_1
  rotate_left
  ·rw [if_neg c3] at H
   exact absurd H (by simp)
  rw [if_pos c3] at H; have c3b0 : decide (0 ≤ x4_1) = true := decide_eq_true c3
  clear c3; by_cases c4 : x3_1.length < 140737488355328
  rotate_left
  ·rw [if_neg c4] at H
   exact absurd H (by simp)
  rw [if_pos c4] at H; have LMc4 := zA.mk c4; clear c4; obtain ⟨y208, hy208⟩ : ∃ y_ : List Int, y_ = (x3_1 ++ [rd l0 x4_1]) := ⟨_, rfl⟩; replace H : (h3_Opps.l0 k1 l0 y208 (wrap64 (x4_1 + 1))) = some r := by first | (rw [hy208]; with_reducible exact H) | (have H2_ := (Option.bind_some _ _).symm.trans H; rw [hy208]; with_reducible exact H2_) | (have H2_ := (Option.bind_some _ _).symm.trans H; with_reducible exact H2_) | with_reducible exact H | (rw [hy208]; exact H) | exact H
  have Ny208 := zA.mk hy208; clear hy208; have H' := zA.mk H
  clear H; have p207 : 0 ≤ (x4_1 : Int) := aD
  have q207 : x4_1 < (l0.length : Int) := aD
  obtain ⟨ad207, e207, hx207_0⟩ := Kd.at_int HR0.out x4_1 p207 q207; cases e207
  replace hx207_0 := (HB.out.cell (World.block_lt_of_cell? w _ hx207_0)).trans hx207_0; replace p207 := eq_true p207; replace q207 := eq_true q207; go_wp2_with (first | ((with_reducible refine gate_builtin (b := .append) (xs := #[.tmp 11, .tmp 16]) rfl ?_); at_builtin; refine Kd.R_append (Kd.int .u8) (w0 := w) w.heap.size rfl (.tmp 11) (.tmp 16) 38 53 (.int .u8 0) 1 rfl Try.underlying38 info53 rfl (by decide) (by omega) u3 x3_1 (rd l0 x4_1) [.int .u8 (rd l0 x4_1)] (fun _ => True) (fun _ => False) rfl rfl ?aP (fun _ hk => hk.elim) ?aF ?aO ?aB ?aS ?aL ?_; (case aP => exact rfl); (case aB => exact (aL HB)); (case aF => exact (fun _ _ => trivial)); (case aO => exact (aR HO_3)); (case aS => exact (below_size (aL HB))); (case aL => have := LMc4.out; omega); intro v209 w5 ho hb hg hat; rw [← Ny208.out] at ho; replace HB := zA.mk (hb); have HO210 := zA.mk (ho); clear HO_3; clear ho hb hg hat))
  go_roundg k1
  case measure => have := HK1.out; omega
  case rel => exact ⟨(y208), (wrap64 (x4_1 + 1)), aZ, H', ⟨by have := HK1.out; omega⟩, ⟨aR HO210⟩, ⟨aL HB⟩⟩
def stanzaref01_Of.l0 : Nat → List (S45) → Int → Int → Option (Int)
 | 0, _, _, _ => none
 | k + 1, x0, x1, x5 => if x5 < (x0.length : Int) then (if 0 ≤ x5 then (if ((rd_T45 x0 x5).f0) ≤ x1 then (if x1 ≤ ((rd_T45 x0 x5).f1) then (some ((rd_T45 x0 x5).f2)) else (stanzaref01_Of.l0 k x0 x1 (wrap64 (x5 + 1)))) else (stanzaref01_Of.l0 k x0 x1 (wrap64 (x5 + 1)))) else (none)) else (some 0)
def stanzaref01_Of.f (k : Nat) (l0 : List (S45)) (a1 : Int) : Option (Int) := stanzaref01_Of.l0 k l0 a1 0
theorem stanzaref01_Of.mono_l : ∀ k, (∀ y0 y1 y2, LeO (stanzaref01_Of.l0 k y0 y1 y2) (stanzaref01_Of.l0 (k + 1) y0 y1 y2))
 | 0 => fun _ _ _ r h => by simp [stanzaref01_Of.l0] at h
 | k + 1 => by
  have ih0 := stanzaref01_Of.mono_l k
  ·intro y0 y1 y2
   unfold stanzaref01_Of.l0
   repeat' (with_reducible first | exact ih0 _ _ _ | exact LeO.refl _ | exact LeO.none _ | refine LeO.ite ?_ ?_ | refine LeO.bind ?_ (fun _ => ?_))
theorem stanzaref01_Of.mono : ∀ a0 a1 k, LeO (stanzaref01_Of.f k a0 a1) (stanzaref01_Of.f (k + 1) a0 a1) := by
 intro a0 a1 k
 have ih0 := stanzaref01_Of.mono_l k; unfold stanzaref01_Of.f
 repeat' (with_reducible first | exact ih0 _ _ _ | exact LeO.refl _ | exact LeO.none _ | refine LeO.ite ?_ ?_ | refine LeO.bind ?_ (fun _ => ?_))
set_option maxHeartbeats 8000000 in
set_option maxRecDepth 100000 in
theorem stanzaref01_Of.calls (k : Nat) (A0 : Option Addr) (c0 : Nat) (l0 : List (S45)) (a1 : Int) (r : Int) (w : World) (hr0 : Kd.C k45 w A0 l0.length l0) (hc0 : l0.length ≤ c0) (h : stanzaref01_Of.f k l0 a1 = some r) :
  Calls Try.prog 37 #[.slice A0 l0.length c0, .int .i32 a1] w fun e w' => e = .returned (.int .i64 r) ∧ Drawn0 w w' := by
 have HR0 := zA.mk hr0; have HC0 := zA.mk hc0; clear hr0 hc0; have H : (stanzaref01_Of.l0 k l0 a1 0) = some r := h
 clear h; have H' := zA.mk H
 clear H; go_enter Try.func37, Try.ntmps37
 go_wp2
 go_loopg [5] k (fun kq v5 w' => ∃ (x5_1 : Int), v5 = .int .i64 x5_1 ∧ zA (stanzaref01_Of.l0 kq l0 a1 x5_1 = some r) ∧ zA (kq ≤ k) ∧ Drawn0 w w')
 case atStart => exact ⟨(0), aZ, H', ⟨Nat.le_refl _⟩, by repeat (first | exact Drawn0.refl _ | apply Drawn0.step)⟩
 clear H'; obtain ⟨x5_1, rfl, HA, HK1, ⟨m1, rfl⟩⟩ := hrel; cases gk with
 | zero => exact absurd HA.out (by simp [stanzaref01_Of.l0])
 | succ k1 =>
  have H := HA.out; clear HA; simp only [stanzaref01_Of.l0] at H; by_cases c3 : x5_1 < (l0.length : Int)
  rotate_left
  ·rw [if_neg c3] at H
   have c3b0 : decide (x5_1 < (l0.length : Int)) = false := decide_eq_false c3
   clear c3; obtain rfl := Option.some.inj H
   go_wp2
   go_ret
   exact ⟨by first | rfl | (simp; done) | (simp [*]; done), by repeat (first | exact Drawn0.refl _ | apply Drawn0.step)⟩
  rw [if_pos c3] at H; have c3b0 : decide (x5_1 < (l0.length : Int)) = true := decide_eq_true c3
  clear c3; by_cases c4 : 0 ≤ x5_1
  rotate_left
  ·rw [if_neg c4] at H
   exact absurd H (by simp)
  rw [if_pos c4] at H; have c4b0 : decide (0 ≤ x5_1) = true := decide_eq_true c4
  clear c4; by_cases c5 : ((rd_T45 l0 x5_1).f0) ≤ a1
  rotate_left
  ·rw [if_neg c5] at H
   have c5b0 : decide (((rd_T45 l0 x5_1).f0) ≤ a1) = false := decide_eq_false c5
   clear c5; have H' := zA.mk H
   clear H; have p211 : 0 ≤ (x5_1 : Int) := aD
   have q211 : x5_1 < (l0.length : Int) := aD
   obtain ⟨ad211, e211, hx211_0, hx211_1, hx211_2⟩ := at_T45 HR0.out x5_1 p211 q211; cases e211
   replace p211 := eq_true p211; replace q211 := eq_true q211; go_wp2
   go_roundg k1
   case measure => have := HK1.out; omega
   case rel => exact ⟨(wrap64 (x5_1 + 1)), aZ, H', ⟨by have := HK1.out; omega⟩, by repeat (first | exact Drawn0.refl _ | apply Drawn0.step)⟩
  rw [if_pos c5] at H; have c5b0 : decide (((rd_T45 l0 x5_1).f0) ≤ a1) = true := decide_eq_true c5
  clear c5; by_cases c6 : a1 ≤ ((rd_T45 l0 x5_1).f1)
  rotate_left
  ·rw [if_neg c6] at H
   have c6b0 : decide (a1 ≤ ((rd_T45 l0 x5_1).f1)) = false := decide_eq_false c6
   clear c6; have H' := zA.mk H
   clear H; have p211 : 0 ≤ (x5_1 : Int) := aD
   have q211 : x5_1 < (l0.length : Int) := aD
   obtain ⟨ad211, e211, hx211_0, hx211_1, hx211_2⟩ := at_T45 HR0.out x5_1 p211 q211; cases e211
   replace p211 := eq_true p211; replace q211 := eq_true q211; have p212 : 0 ≤ (x5_1 : Int) := aD
   have q212 : x5_1 < (l0.length : Int) := aD
   obtain ⟨ad212, e212, hx212_0, hx212_1, hx212_2⟩ := at_T45 HR0.out x5_1 p212 q212; obtain rfl : ad211 = ad212 := (by injection e212)
   replace p212 := eq_true p212; replace q212 := eq_true q212; go_wp2
   go_roundg k1
   case measure => have := HK1.out; omega
   case rel => exact ⟨(wrap64 (x5_1 + 1)), aZ, H', ⟨by have := HK1.out; omega⟩, by repeat (first | exact Drawn0.refl _ | apply Drawn0.step)⟩
  rw [if_pos c6] at H; have c6b0 : decide (a1 ≤ ((rd_T45 l0 x5_1).f1)) = true := decide_eq_true c6
  clear c6; obtain rfl := Option.some.inj H
  have p211 : 0 ≤ (x5_1 : Int) := aD
  have q211 : x5_1 < (l0.length : Int) := aD
  obtain ⟨ad211, e211, hx211_0, hx211_1, hx211_2⟩ := at_T45 HR0.out x5_1 p211 q211; cases e211
  replace p211 := eq_true p211; replace q211 := eq_true q211; have p212 : 0 ≤ (x5_1 : Int) := aD
  have q212 : x5_1 < (l0.length : Int) := aD
  obtain ⟨ad212, e212, hx212_0, hx212_1, hx212_2⟩ := at_T45 HR0.out x5_1 p212 q212; obtain rfl : ad211 = ad212 := (by injection e212)
  replace p212 := eq_true p212; replace q212 := eq_true q212; have p213 : 0 ≤ (x5_1 : Int) := aD
  have q213 : x5_1 < (l0.length : Int) := aD
  obtain ⟨ad213, e213, hx213_0, hx213_1, hx213_2⟩ := at_T45 HR0.out x5_1 p213 q213; obtain rfl : ad211 = ad213 := (by injection e213)
  replace p213 := eq_true p213; replace q213 := eq_true q213; go_wp2
  go_ret
  exact ⟨by first | rfl | (simp; done) | (simp [*]; done), by repeat (first | exact Drawn0.refl _ | apply Drawn0.step)⟩
mutual
def r0_Clusters.l0 : Nat → List (S50) → List Int → List (S45) → List Int → Int → Option ((List (S48)) × List Int)
 | 0, _, _, _, _, _ => none
 | k + 1, x0, x1, x2, x8, x9 => if x9 < (x0.length : Int) then (if x9 = 0 then (if x8.length < 17592186044416 then (r0_Clusters.l0 k x0 x1 x2 (x8 ++ [x9]) (wrap64 (x9 + 1))) else (none)) else (if x9 < (x1.length : Int) then (if 0 ≤ x9 then (if (rd x1 x9) = 0 then (r0_Clusters.l0 k x0 x1 x2 x8 (wrap64 (x9 + 1))) else (if x8.length < 17592186044416 then (r0_Clusters.l0 k x0 x1 x2 (x8 ++ [x9]) (wrap64 (x9 + 1))) else (none))) else (none)) else (r0_Clusters.l0 k x0 x1 x2 x8 (wrap64 (x9 + 1))))) else (if x8.length < 17592186044416 then (r0_Clusters.l1 k x0 x2 (x8 ++ [(x0.length : Int)]) ([] : List (S48)) 0) else (none))
def r0_Clusters.l1 : Nat → List (S50) → List (S45) → List Int → List (S48) → Int → Option ((List (S48)) × List Int)
 | 0, _, _, _, _, _ => none
 | k + 1, x0, x2, x8, x10, x11 => if (wrap64 (x11 + 1)) < (x8.length : Int) then (if 0 ≤ x11 then (if x11 < (x8.length : Int) then (if 0 ≤ (rd x8 x11) then (if (rd x8 x11) < (x0.length : Int) then (r0_Clusters.l2 k x0 x2 x8 x10 x11 (rd x8 x11) ((rd_T50 x0 (rd x8 x11)).f1) 0 0 0) else (none)) else (none)) else (none)) else (none)) else (some (x10, x8))
def r0_Clusters.l2 : Nat → List (S50) → List (S45) → List Int → List (S48) → Int → Int → Int → Int → Int → Int → Option ((List (S48)) × List Int)
 | 0, _, _, _, _, _, _, _, _, _, _ => none
 | k + 1, x0, x2, x8, x10, x11, x13, x227000, x227001, x227002, x227003 => if 0 ≤ (wrap64 (x11 + 1)) then (if (wrap64 (x11 + 1)) < (x8.length : Int) then (if x13 < (rd x8 (wrap64 (x11 + 1))) then (if 0 ≤ x13 then (if x13 < (x0.length : Int) then ((stanzaref01_Of.f k x2 ((rd_T50 x0 x13).f0)).bind fun t231 => (if t231 > 2 then (if 2 > x227002 then (r0_Clusters.l2 k x0 x2 x8 x10 x11 (wrap64 (x13 + 1)) x227000 (wrap64 (x227001 + ((rd_T50 x0 x13).f2))) 2 x227003) else (r0_Clusters.l2 k x0 x2 x8 x10 x11 (wrap64 (x13 + 1)) x227000 (wrap64 (x227001 + ((rd_T50 x0 x13).f2))) x227002 x227003)) else (if t231 > x227002 then (r0_Clusters.l2 k x0 x2 x8 x10 x11 (wrap64 (x13 + 1)) x227000 (wrap64 (x227001 + ((rd_T50 x0 x13).f2))) t231 x227003) else (r0_Clusters.l2 k x0 x2 x8 x10 x11 (wrap64 (x13 + 1)) x227000 (wrap64 (x227001 + ((rd_T50 x0 x13).f2))) x227002 x227003)))) else (none)) else (none)) else (if 0 ≤ x11 then (if x11 < (x8.length : Int) then (if (rd x8 (wrap64 (x11 + 1))) = (wrap64 ((rd x8 x11) + 1)) then (if 0 ≤ (rd x8 x11) then (if (rd x8 x11) < (x0.length : Int) then (if ((rd_T50 x0 (rd x8 x11)).f0) = 32 then (if ((rd_T50 x0 (rd x8 x11)).f0) = 9 then (if x10.length < 4398046511104 then (r0_Clusters.l1 k x0 x2 x8 (x10 ++ [(⟨x227000, x227001, x227002, 2⟩ : S48)]) (wrap64 (x11 + 1))) else (none)) else (if x10.length < 4398046511104 then (r0_Clusters.l1 k x0 x2 x8 (x10 ++ [(⟨x227000, x227001, x227002, 1⟩ : S48)]) (wrap64 (x11 + 1))) else (none))) else (if ((rd_T50 x0 (rd x8 x11)).f0) = 9 then (if x10.length < 4398046511104 then (r0_Clusters.l1 k x0 x2 x8 (x10 ++ [(⟨x227000, x227001, x227002, 2⟩ : S48)]) (wrap64 (x11 + 1))) else (none)) else (if x10.length < 4398046511104 then (r0_Clusters.l1 k x0 x2 x8 (x10 ++ [(⟨x227000, x227001, x227002, x227003⟩ : S48)]) (wrap64 (x11 + 1))) else (none)))) else (none)) else (none)) else (if x10.length < 4398046511104 then (r0_Clusters.l1 k x0 x2 x8 (x10 ++ [(⟨x227000, x227001, x227002, x227003⟩ : S48)]) (wrap64 (x11 + 1))) else (none))) else (none)) else (none))) else (none)) else (none)
end
def r0_Clusters.f (k : Nat) (l0 : List (S50)) (l1 : List Int) (l2 : List (S45)) : Option ((List (S48)) × List Int) := r0_Clusters.l0 k l0 l1 l2 ([] : List Int) 0
theorem r0_Clusters.mono_l : ∀ k, (∀ y0 y1 y2 y3 y4, LeO (r0_Clusters.l0 k y0 y1 y2 y3 y4) (r0_Clusters.l0 (k + 1) y0 y1 y2 y3 y4)) ∧ (∀ y0 y1 y2 y3 y4, LeO (r0_Clusters.l1 k y0 y1 y2 y3 y4) (r0_Clusters.l1 (k + 1) y0 y1 y2 y3 y4)) ∧ (∀ y0 y1 y2 y3 y4 y5 y6 y7 y8 y9, LeO (r0_Clusters.l2 k y0 y1 y2 y3 y4 y5 y6 y7 y8 y9) (r0_Clusters.l2 (k + 1) y0 y1 y2 y3 y4 y5 y6 y7 y8 y9))
 | 0 => ⟨fun _ _ _ _ _ r h => by simp [r0_Clusters.l0] at h, fun _ _ _ _ _ r h => by simp [r0_Clusters.l1] at h, fun _ _ _ _ _ _ _ _ _ _ r h => by simp [r0_Clusters.l2] at h⟩
 | k + 1 => by
  obtain ⟨ih0, ih1, ih2⟩ := r0_Clusters.mono_l k; refine ⟨?_, ?_, ?_⟩
  ·intro y0 y1 y2 y3 y4
   unfold r0_Clusters.l0
   repeat' (with_reducible first | exact ih0 _ _ _ _ _ | exact ih1 _ _ _ _ _ | exact ih2 _ _ _ _ _ _ _ _ _ _ | exact stanzaref01_Of.mono _ _ _ | exact LeO.refl _ | exact LeO.none _ | refine LeO.ite ?_ ?_ | refine LeO.bind ?_ (fun _ => ?_))
  ·intro y0 y1 y2 y3 y4
   unfold r0_Clusters.l1
   repeat' (with_reducible first | exact ih0 _ _ _ _ _ | exact ih1 _ _ _ _ _ | exact ih2 _ _ _ _ _ _ _ _ _ _ | exact stanzaref01_Of.mono _ _ _ | exact LeO.refl _ | exact LeO.none _ | refine LeO.ite ?_ ?_ | refine LeO.bind ?_ (fun _ => ?_))
  ·intro y0 y1 y2 y3 y4 y5 y6 y7 y8 y9
   unfold r0_Clusters.l2
   repeat' (with_reducible first | exact ih0 _ _ _ _ _ | exact ih1 _ _ _ _ _ | exact ih2 _ _ _ _ _ _ _ _ _ _ | exact stanzaref01_Of.mono _ _ _ | exact LeO.refl _ | exact LeO.none _ | refine LeO.ite ?_ ?_ | refine LeO.bind ?_ (fun _ => ?_))
theorem r0_Clusters.mono : ∀ a0 a1 a2 k, LeO (r0_Clusters.f k a0 a1 a2) (r0_Clusters.f (k + 1) a0 a1 a2) := by
 intro a0 a1 a2 k
 obtain ⟨ih0, ih1, ih2⟩ := r0_Clusters.mono_l k; unfold r0_Clusters.f
 repeat' (with_reducible first | exact ih0 _ _ _ _ _ | exact ih1 _ _ _ _ _ | exact ih2 _ _ _ _ _ _ _ _ _ _ | exact stanzaref01_Of.mono _ _ _ | exact LeO.refl _ | exact LeO.none _ | refine LeO.ite ?_ ?_ | refine LeO.bind ?_ (fun _ => ?_))
def r0_Clusters.T16 : Bool × List (List Nat × List Nat) := (true, [([], []), ([0], [0]), ([], []), ([], []), ([2, 3], [2, 3]), ([4], [4]), ([5], [5]), ([1, 6], [1, 6]), ([0, 1, 2, 3, 4, 5, 6, 7], []), ([8, 7, 0, 1, 2, 3, 4, 5, 6, 7], [7, 8])])
def r0_Clusters.B16 : List Nat := [0, 1, 0, 0, 12, 28, 60, 127, 255, 511]
theorem r0_Clusters.tab16 : rtab .any (opsOf Try.f19 16) = r0_Clusters.T16 := by kernel_rfl
theorem r0_Clusters.bits16 : waitsOk r0_Clusters.T16.2 r0_Clusters.B16 = true := by kernel_rfl
def r0_Clusters.T22 : Bool × List (List Nat × List Nat) := (true, [([], []), ([], []), ([1], [1]), ([0, 2], [0, 2]), ([3], [3]), ([], []), ([], []), ([5, 6], [5, 6]), ([7], [7]), ([8], [8]), ([4, 9], [4, 9])])
def r0_Clusters.B22 : List Nat := [0, 0, 2, 7, 15, 0, 0, 96, 224, 480, 1023]
theorem r0_Clusters.tab22 : rtab .any (opsOf Try.f19 22) = r0_Clusters.T22 := by kernel_rfl
theorem r0_Clusters.bits22 : waitsOk r0_Clusters.T22.2 r0_Clusters.B22 = true := by kernel_rfl
set_option maxHeartbeats 8000000 in
set_option maxRecDepth 100000 in
theorem r0_Clusters.calls (k : Nat) (A0 : Option Addr) (c0 : Nat) (l0 : List (S50)) (A1 : Option Addr) (c1 : Nat) (l1 : List Int) (A2 : Option Addr) (c2 : Nat) (l2 : List (S45)) (r1 : List (S48)) (r2 : List Int) (w : World) (hr0 : Kd.C k50 w A0 l0.length l0) (hc0 : l0.length ≤ c0) (hr1 : Kd.C (Kd.int .u8) w A1 l1.length l1) (hc1 : l1.length ≤ c1) (hr2 : Kd.C k45 w A2 l2.length l2) (hc2 : l2.length ≤ c2) (h : r0_Clusters.f k l0 l1 l2 = some (r1, r2)) :
  Calls Try.prog 19 #[.slice A0 l0.length c0, .slice A1 l1.length c1, .slice A2 l2.length c2] w fun e w' => ∃ v0_ v1_ : Value, e = .returned (.tuple #[v0_, v1_]) ∧ Kd.R k48 48 w' w.heap.size (fun _ => True) v0_ r1 ∧ Kd.R (Kd.int .i64) 3 w' w.heap.size (fun _ => True) v1_ r2 ∧ Below w.heap.size w w' := by
 have hu48 := Try.underlying48; have HR0 := zA.mk hr0; have HC0 := zA.mk hc0; clear hr0 hc0; have HR1 := zA.mk hr1; have HC1 := zA.mk hc1; clear hr1 hc1; have HR2 := zA.mk hr2; have HC2 := zA.mk hc2; clear hr2 hc2; have HB := zA.mk (Below.refl w.heap.size w); have H : (r0_Clusters.l0 k l0 l1 l2 ([] : List Int) 0) = some (r1, r2) := h
 clear h; have H' := zA.mk H
 clear H; go_enter Try.func19, Try.ntmps19
 go_wp2
 go_loopg [8, 9] k (fun kq v8 v9 w' => ∃ (x8_1 : List Int) (x9_1 : Int), v9 = .int .i64 x9_1 ∧ zA (r0_Clusters.l0 kq l0 l1 l2 x8_1 x9_1 = some (r1, r2)) ∧ zA (kq ≤ k) ∧ zA (Kd.R (Kd.int .i64) 3 w' w.heap.size (fun _ => True) v8 x8_1) ∧ zA (Below w.heap.size w w'))
 case atStart => exact ⟨(([] : List Int)), (0), aZ, H', ⟨Nat.le_refl _⟩, ⟨by first | exact Kd.R_nil _ _ _ _ _ | exact Kd.N_nil _ _ _ _ _ | exact Kd.V_nil _ _ _ _ _ | exact Kd.Q_nil _ _ _ _ _ | exact Kd.S_nil _ _ _ _ _⟩, ⟨aL HB⟩⟩
 clear H'; obtain ⟨x8_1, x9_1, rfl, HA, HK1, HO_8, HB⟩ := hrel; cases gk with
 | zero => exact absurd HA.out (by simp [r0_Clusters.l0])
 | succ k1 =>
  have H := HA.out; clear HA; simp only [r0_Clusters.l0] at H; by_cases c4 : x9_1 < (l0.length : Int)
  ·rw [if_pos c4] at H
   have c4b0 : decide (x9_1 < (l0.length : Int)) = true := decide_eq_true c4
   clear c4; by_cases c5 : x9_1 = 0
   ·rw [if_pos c5] at H
    have c5b0 : (x9_1 == 0) = true := beq_iff_eq.mpr c5
    have c5b1 : (x9_1 != 0) = false := bne_eq_false_iff_eq.mpr c5
    clear c5; by_cases c6 : x8_1.length < 17592186044416
    rotate_left
    ·rw [if_neg c6] at H
     exact absurd H (by simp)
    rw [if_pos c6] at H; have LMc6 := zA.mk c6; clear c6; obtain ⟨y214, hy214⟩ : ∃ y_ : List Int, y_ = (x8_1 ++ [x9_1]) := ⟨_, rfl⟩; replace H : (r0_Clusters.l0 k1 l0 l1 l2 y214 (wrap64 (x9_1 + 1))) = some (r1, r2) := by first | (rw [hy214]; with_reducible exact H) | (have H2_ := (Option.bind_some _ _).symm.trans H; rw [hy214]; with_reducible exact H2_) | (have H2_ := (Option.bind_some _ _).symm.trans H; with_reducible exact H2_) | with_reducible exact H | (rw [hy214]; exact H) | exact H
    have Ny214 := zA.mk hy214; clear hy214; have H' := zA.mk H
    clear H; go_wp2_with (first | ((with_reducible refine gate_builtin (b := .append) (xs := #[.tmp 36, .tmp 38]) rfl ?_); (try (refine gate_guard (by rfl) ?_; dsimp only)); at_builtin; refine Kd.R_append (Kd.int .i64) (w0 := w) w.heap.size rfl (.tmp 36) (.tmp 38) 35 3 (.int .i64 0) 8 rfl Try.underlying35 info3 rfl (by decide) (by omega) u8 x8_1 x9_1 [.int .i64 x9_1] (fun _ => True) (fun _ => False) rfl rfl ?aP (fun _ hk => hk.elim) ?aF ?aO ?aB ?aS ?aL ?_; (case aP => exact rfl); (case aB => exact (aL HB)); (case aF => exact (fun _ _ => trivial)); (case aO => exact (aR HO_8)); (case aS => exact (below_size (aL HB))); (case aL => have := LMc6.out; omega); intro v215 w7 ho hb hg hat; rw [← Ny214.out] at ho; replace HB := zA.mk (hb); have HO216 := zA.mk (ho); clear HO_8; clear ho hb hg hat))
    go_roundg k1
    case measure => have := HK1.out; omega
    case rel => exact ⟨(y214), (wrap64 (x9_1 + 1)), aZ, H', ⟨by have := HK1.out; omega⟩, ⟨aR HO216⟩, ⟨aL HB⟩⟩
   rw [if_neg c5] at H; have c5b0 : (x9_1 == 0) = false := beq_eq_false_iff_ne.mpr c5
   have c5b1 : (x9_1 != 0) = true := bne_iff_ne.mpr c5
   by_cases c8 : x9_1 < (l1.length : Int)
   rotate_left
   ·rw [if_neg c8] at H
    have c8b0 : decide (x9_1 < (l1.length : Int)) = false := decide_eq_false c8
    clear c8; have H' := zA.mk H
    clear H; go_wp2
    go_roundg k1
    case measure => have := HK1.out; omega
    case rel => exact ⟨(x8_1), (wrap64 (x9_1 + 1)), aZ, H', ⟨by have := HK1.out; omega⟩, ⟨aR HO_8⟩, ⟨aL HB⟩⟩
   rw [if_pos c8] at H; have c8b0 : decide (x9_1 < (l1.length : Int)) = true := decide_eq_true c8
   clear c8; by_cases c9 : 0 ≤ x9_1
   rotate_left
   ·rw [if_neg c9] at H
    exact absurd H (by simp)
   rw [if_pos c9] at H; have c9b0 : decide (0 ≤ x9_1) = true := decide_eq_true c9
   clear c9; by_cases c10 : (rd l1 x9_1) = 0
   ·rw [if_pos c10] at H
    have c10b0 : ((rd l1 x9_1) == 0) = true := beq_iff_eq.mpr c10
    have c10b1 : ((rd l1 x9_1) != 0) = false := bne_eq_false_iff_eq.mpr c10
    clear c10; have H' := zA.mk H
    clear H; have p217 : 0 ≤ (x9_1 : Int) := aD
    have q217 : x9_1 < (l1.length : Int) := aD
    obtain ⟨ad217, e217, hx217_0⟩ := Kd.at_int HR1.out x9_1 p217 q217; cases e217
    replace hx217_0 := (HB.out.cell (World.block_lt_of_cell? w _ hx217_0)).trans hx217_0; replace p217 := eq_true p217; replace q217 := eq_true q217; go_wp2
    go_roundg k1
    case measure => have := HK1.out; omega
    case rel => exact ⟨(x8_1), (wrap64 (x9_1 + 1)), aZ, H', ⟨by have := HK1.out; omega⟩, ⟨aR HO_8⟩, ⟨aL HB⟩⟩
   rw [if_neg c10] at H; have c10b0 : ((rd l1 x9_1) == 0) = false := beq_eq_false_iff_ne.mpr c10
   have c10b1 : ((rd l1 x9_1) != 0) = true := bne_iff_ne.mpr c10
   by_cases c11 : x8_1.length < 17592186044416
   rotate_left
   ·rw [if_neg c11] at H
    exact absurd H (by simp)
   rw [if_pos c11] at H; have LMc11 := zA.mk c11; clear c11; obtain ⟨y218, hy218⟩ : ∃ y_ : List Int, y_ = (x8_1 ++ [x9_1]) := ⟨_, rfl⟩; replace H : (r0_Clusters.l0 k1 l0 l1 l2 y218 (wrap64 (x9_1 + 1))) = some (r1, r2) := by first | (rw [hy218]; with_reducible exact H) | (have H2_ := (Option.bind_some _ _).symm.trans H; rw [hy218]; with_reducible exact H2_) | (have H2_ := (Option.bind_some _ _).symm.trans H; with_reducible exact H2_) | with_reducible exact H | (rw [hy218]; exact H) | exact H
   have Ny218 := zA.mk hy218; clear hy218; have H' := zA.mk H
   clear H; have p217 : 0 ≤ (x9_1 : Int) := aD
   have q217 : x9_1 < (l1.length : Int) := aD
   obtain ⟨ad217, e217, hx217_0⟩ := Kd.at_int HR1.out x9_1 p217 q217; cases e217
   replace hx217_0 := (HB.out.cell (World.block_lt_of_cell? w _ hx217_0)).trans hx217_0; replace p217 := eq_true p217; replace q217 := eq_true q217; go_wp2_with (first | ((with_reducible refine gate_builtin (b := .append) (xs := #[.tmp 36, .tmp 38]) rfl ?_); (try (refine gate_guard (by rfl) ?_; dsimp only)); at_builtin; refine Kd.R_append (Kd.int .i64) (w0 := w) w.heap.size rfl (.tmp 36) (.tmp 38) 35 3 (.int .i64 0) 8 rfl Try.underlying35 info3 rfl (by decide) (by omega) u8 x8_1 x9_1 [.int .i64 x9_1] (fun _ => True) (fun _ => False) rfl rfl ?aP (fun _ hk => hk.elim) ?aF ?aO ?aB ?aS ?aL ?_; (case aP => exact rfl); (case aB => exact (aL HB)); (case aF => exact (fun _ _ => trivial)); (case aO => exact (aR HO_8)); (case aS => exact (below_size (aL HB))); (case aL => have := LMc11.out; omega); intro v219 w12 ho hb hg hat; rw [← Ny218.out] at ho; replace HB := zA.mk (hb); have HO220 := zA.mk (ho); clear HO_8; clear ho hb hg hat))
   go_roundg k1
   case measure => have := HK1.out; omega
   case rel => exact ⟨(y218), (wrap64 (x9_1 + 1)), aZ, H', ⟨by have := HK1.out; omega⟩, ⟨aR HO220⟩, ⟨aL HB⟩⟩
  rw [if_neg c4] at H; have c4b0 : decide (x9_1 < (l0.length : Int)) = false := decide_eq_false c4
  clear c4; by_cases c13 : x8_1.length < 17592186044416
  rotate_left
  ·rw [if_neg c13] at H
   exact absurd H (by simp)
  rw [if_pos c13] at H; have LMc13 := zA.mk c13; clear c13; obtain ⟨y221, hy221⟩ : ∃ y_ : List Int, y_ = (x8_1 ++ [(l0.length : Int)]) := ⟨_, rfl⟩; replace H : (r0_Clusters.l1 k1 l0 l2 y221 ([] : List (S48)) 0) = some (r1, r2) := by first | (rw [hy221]; with_reducible exact H) | (have H2_ := (Option.bind_some _ _).symm.trans H; rw [hy221]; with_reducible exact H2_) | (have H2_ := (Option.bind_some _ _).symm.trans H; with_reducible exact H2_) | with_reducible exact H | (rw [hy221]; exact H) | exact H
  have Ny221 := zA.mk hy221; clear hy221; have H' := zA.mk H
  clear H; go_wp2_with (first | ((with_reducible refine gate_builtin (b := .append) (xs := #[.tmp 40, .tmp 43]) rfl ?_); (try (refine gate_guard (by rfl) ?_; dsimp only)); at_builtin; refine Kd.R_append (Kd.int .i64) (w0 := w) w.heap.size rfl (.tmp 40) (.tmp 43) 35 3 (.int .i64 0) 8 rfl Try.underlying35 info3 rfl (by decide) (by omega) u8 x8_1 (l0.length : Int) [.int .i64 (l0.length : Int)] (fun _ => True) (fun _ => False) rfl rfl ?aP (fun _ hk => hk.elim) ?aF ?aO ?aB ?aS ?aL ?_; (case aP => exact rfl); (case aB => exact (aL HB)); (case aF => exact (fun _ _ => trivial)); (case aO => exact (aR HO_8)); (case aS => exact (below_size (aL HB))); (case aL => have := LMc13.out; omega); intro v222 w14 ho hb hg hat; rw [← Ny221.out] at ho; replace HB := zA.mk (hb); have HO223 := zA.mk (ho); clear HO_8; clear ho hb hg hat))
  go_loopg [10, 11] k1 (fun kq v10 v11 w' => ∃ (x10_2 : List (S48)) (x11_2 : Int), v11 = .int .i64 x11_2 ∧ zA (r0_Clusters.l1 kq l0 l2 y221 x10_2 x11_2 = some (r1, r2)) ∧ zA (kq ≤ k1) ∧ zA (Kd.R (Kd.int .i64) 3 w' w.heap.size (fun _ => True) v222 y221) ∧ zA (Kd.R k48 48 w' w.heap.size (fun _ => True) v10 x10_2) ∧ zA (Below w.heap.size w w'))
  case atStart => exact ⟨(([] : List (S48))), (0), aZ, H', ⟨Nat.le_refl _⟩, ⟨aR HO223⟩, ⟨by first | exact Kd.R_nil _ _ _ _ _ | exact Kd.N_nil _ _ _ _ _ | exact Kd.V_nil _ _ _ _ _ | exact Kd.Q_nil _ _ _ _ _ | exact Kd.S_nil _ _ _ _ _⟩, ⟨aL HB⟩⟩
  clear H'; obtain ⟨x10_2, x11_2, rfl, HA, HK2, HO_8, HO_10, HB⟩ := hrel; cases gk with
  | zero => exact absurd HA.out (by simp [r0_Clusters.l1])
  | succ k2 =>
   have H := HA.out; clear HA; simp only [r0_Clusters.l1] at H; by_cases c15 : (wrap64 (x11_2 + 1)) < (y221.length : Int)
   rotate_left
   ·rw [if_neg c15] at H
    have c15b0 : decide ((wrap64 (x11_2 + 1)) < (y221.length : Int)) = false := decide_eq_false c15
    clear c15; simp only [Option.some.injEq, Prod.mk.injEq] at H; obtain ⟨rfl, rfl⟩ := H; obtain ⟨Ao88, co88, eo88⟩ := Kd.zL HO_8.out; subst eo88; go_wp2
    go_ret2
    exact ⟨_, _, aX, aR HO_10, aR HO_8, aL HB⟩
   rw [if_pos c15] at H; have c15b0 : decide ((wrap64 (x11_2 + 1)) < (y221.length : Int)) = true := decide_eq_true c15
   clear c15; by_cases c16 : 0 ≤ x11_2
   rotate_left
   ·rw [if_neg c16] at H
    exact absurd H (by simp)
   rw [if_pos c16] at H; have c16b0 : decide (0 ≤ x11_2) = true := decide_eq_true c16
   clear c16; by_cases c17 : x11_2 < (y221.length : Int)
   rotate_left
   ·rw [if_neg c17] at H
    exact absurd H (by simp)
   rw [if_pos c17] at H; have c17b0 : decide (x11_2 < (y221.length : Int)) = true := decide_eq_true c17
   clear c17; by_cases c18 : 0 ≤ (rd y221 x11_2)
   rotate_left
   ·rw [if_neg c18] at H
    exact absurd H (by simp)
   rw [if_pos c18] at H; have c18b0 : decide (0 ≤ (rd y221 x11_2)) = true := decide_eq_true c18
   clear c18; by_cases c19 : (rd y221 x11_2) < (l0.length : Int)
   rotate_left
   ·rw [if_neg c19] at H
    exact absurd H (by simp)
   rw [if_pos c19] at H; have c19b0 : decide ((rd y221 x11_2) < (l0.length : Int)) = true := decide_eq_true c19
   clear c19; have H' := zA.mk H
   clear H; obtain ⟨Ao20, co20, eo20⟩ := Kd.zL HO_8.out; subst eo20; have p224 : 0 ≤ (x11_2 : Int) := aD
   have q224 : x11_2 < (y221.length : Int) := aD
   obtain ⟨ad224, e224, hx224_0⟩ := Kd.at_int (Kd.zI HO_8.out).2.2 x11_2 p224 q224; cases e224
   replace p224 := eq_true p224; replace q224 := eq_true q224; have p225 : 0 ≤ ((rd y221 x11_2) : Int) := aD
   have q225 : (rd y221 x11_2) < (l0.length : Int) := aD
   obtain ⟨ad225, e225, hx225_0, hx225_1, hx225_2⟩ := at_T50 HR0.out (rd y221 x11_2) p225 q225; cases e225
   replace hx225_0 := (HB.out.cell (World.block_lt_of_cell? w _ hx225_0)).trans hx225_0; replace hx225_1 := (HB.out.cell (World.block_lt_of_cell? w _ hx225_1)).trans hx225_1; replace hx225_2 := (HB.out.cell (World.block_lt_of_cell? w _ hx225_2)).trans hx225_2; replace p225 := eq_true p225; replace q225 := eq_true q225; go_wp2_with (first | ((with_reducible refine gate_dst (N := 12) rfl ?_); (try (refine gate_guard (by rfl) ?_; dsimp only)); refine box_event ?hg (N := 12) ?hd (cs := #[.int .i64 0, .int .i64 0, .int .i64 0, .int .u8 0]) (t := 48) ?hr ?_; (case hd => rfl); (case hg => rfl); (case hr => first | (go_simp; done) | (go_simp; rfl)); intro gb226 hg w21 hbox hb; replace HO_8 := zA.mk (Kd.zJ (aR HO_8) hb); replace HO_10 := zA.mk (Kd.zJ (Kd.R_elderB (aR HO_10) gb226 (Nat.le_of_eq hg.symm)) hb); have BK226 := zA.mk (hbox); have GW226 := zA.mk ((by rw [hg]; exact (below_size (aL HB)) : w.heap.size ≤ gb226)); replace HB := zA.mk (below_step (aL HB) hb); have GE226 := GW226; clear hb hbox hg; obtain ⟨hcz22_0, hcz22_1, hcz22_2, hcz22_3, hfz22_0, hfz22_1, hfz22_2, hfz22_3⟩ := aC4 BK226) | ((with_reducible refine gate_store (t := 48) (p := 12) rfl ?_); refine store_event (t := 48) (p := 12) (v := ?vo_w23) (w1 := ((((w21.setCell ⟨gb226, 0, none⟩ (.int .i64 ((rd_T50 l0 (rd y221 x11_2)).f1))).setCell ⟨gb226, 1, none⟩ (.int .i64 0)).setCell ⟨gb226, 2, none⟩ (.int .i64 0)).setCell ⟨gb226, 3, none⟩ (.int .u8 0))) ?hg ?ho ?hn ?hr ?_; (case ho => rfl); (case hg => rfl); (case hn => rfl); (case hr => first | (go_simp; done) | (go_simp; rfl)); intro w23 hw; have n0_ : zA (Kd.R (Kd.int .i64) 3 w23 w.heap.size (fun _ => True) (.slice (some ad224) y221.length co20) y221) := ⟨(by rw [hw]; exact (by (with_reducible repeat (first | apply Kd.zB | apply Kd.zC | apply Kd.zD)); exact Kd.zN (Kd.zK (p := ⟨gb226, 3, none⟩) (Kd.zK (p := ⟨gb226, 2, none⟩) (Kd.zK (p := ⟨gb226, 1, none⟩) (Kd.zK (p := ⟨gb226, 0, none⟩) (Kd.zO HO_8.out BK226.out (by decide)) (fun _ hk => hk.2) (.int .i64 ((rd_T50 l0 (rd y221 x11_2)).f1))) (fun _ hk => hk.2) (.int .i64 0)) (fun _ hk => hk.2) (.int .i64 0)) (fun _ hk => hk.2) (.int .u8 0)) (fun _ hk => trivial)))⟩; have n1_ : zA (Kd.R k48 48 w23 w.heap.size (fun k_ => k_ ≠ gb226) u10 x10_2) := ⟨(by rw [hw]; exact (by (with_reducible repeat (first | apply Kd.zB | apply Kd.zC | apply Kd.zD)); exact Kd.zN (Kd.zK (p := ⟨gb226, 3, none⟩) (Kd.zK (p := ⟨gb226, 2, none⟩) (Kd.zK (p := ⟨gb226, 1, none⟩) (Kd.zK (p := ⟨gb226, 0, none⟩) (Kd.zN HO_10.out (fun k_ hk => (⟨hk, hk.2⟩ : _ ∧ k_ ≠ gb226))) (fun _ hk => hk.2) (.int .i64 ((rd_T50 l0 (rd y221 x11_2)).f1))) (fun _ hk => hk.2) (.int .i64 0)) (fun _ hk => hk.2) (.int .i64 0)) (fun _ hk => hk.2) (.int .u8 0)) (fun _ hk => hk.1.2)))⟩; have n2_ : zA (w23.heap[gb226]? = some (.cells #[.int .i64 ((rd_T50 l0 (rd y221 x11_2)).f1), .int .i64 0, .int .i64 0, .int .u8 0] 48 (0, 0))) := ⟨(by rw [hw]; exact (by (with_reducible repeat (first | refine blk_drewN ?_ _ | refine blk_drew ?_ | refine blk_alloc ?_ _)); refine blk_put (cs := #[.int .i64 ((rd_T50 l0 (rd y221 x11_2)).f1), .int .i64 0, .int .i64 0, .int .u8 0]) ?_ 3 _ rfl; (with_reducible repeat (first | refine blk_drewN ?_ _ | refine blk_drew ?_ | refine blk_alloc ?_ _)); refine blk_put (cs := #[.int .i64 ((rd_T50 l0 (rd y221 x11_2)).f1), .int .i64 0, .int .i64 0, .int .u8 0]) ?_ 2 _ rfl; (with_reducible repeat (first | refine blk_drewN ?_ _ | refine blk_drew ?_ | refine blk_alloc ?_ _)); refine blk_put (cs := #[.int .i64 ((rd_T50 l0 (rd y221 x11_2)).f1), .int .i64 0, .int .i64 0, .int .u8 0]) ?_ 1 _ rfl; (with_reducible repeat (first | refine blk_drewN ?_ _ | refine blk_drew ?_ | refine blk_alloc ?_ _)); refine blk_put (cs := #[.int .i64 0, .int .i64 0, .int .i64 0, .int .u8 0]) ?_ 0 _ rfl; (with_reducible repeat (first | refine blk_drewN ?_ _ | refine blk_drew ?_ | refine blk_alloc ?_ _)); exact BK226.out))⟩; have n3_ : zA (Below w.heap.size w w23) := ⟨(by rw [hw]; exact (aL HB))⟩; clear hw; clear HO_8; clear HO_10; clear BK226; clear HB; have HO_8 := n0_; have HO_10 := n1_; have BK226 := n2_; have HB := n3_; clear n0_ n1_ n2_ n3_; have p227 : 0 ≤ (x11_2 : Int) := aD; have q227 : x11_2 < (y221.length : Int) := aD; obtain ⟨ad227, e227, hx227_0⟩ := Kd.at_int (Kd.zI HO_8.out).2.2 x11_2 p227 q227; obtain rfl : ad224 = ad227 := (by injection e227); replace p227 := eq_true p227; replace q227 := eq_true q227))
   obtain ⟨ji24, hji24⟩ : ∃ j_ : Int, (wrap64 (x11_2 + 1)) = j_ := ⟨_, rfl⟩; have hji24w : (IntKind.i64.wrap (x11_2 + 1)) = ji24 := (i64_w _).trans hji24
   (try simp only [hji24])
   go_loopg [13] k2 (fun kq v13 w' => ∃ (x13_3 : Int) (x227001_3 : Int) (x227002_3 : Int), v13 = .int .i64 x13_3 ∧ zA (r0_Clusters.l2 kq l0 l2 y221 x10_2 x11_2 x13_3 ((rd_T50 l0 (rd y221 x11_2)).f1) x227001_3 x227002_3 0 = some (r1, r2)) ∧ zA (kq ≤ k2) ∧ zA (Kd.R (Kd.int .i64) 3 w' w.heap.size (fun _ => True) (.slice (some ad224) y221.length co20) y221) ∧ zA (Kd.R k48 48 w' w.heap.size (fun k_ => k_ ≠ gb226) u10 x10_2) ∧ zA (w'.heap[gb226]? = some (.cells #[.int .i64 ((rd_T50 l0 (rd y221 x11_2)).f1), .int .i64 x227001_3, .int .i64 x227002_3, .int .u8 0] 48 (0, 0))) ∧ zA (Below w.heap.size w w'))
   case atStart => exact ⟨(rd y221 x11_2), (0), (0), aZ, H', ⟨Nat.le_refl _⟩, ⟨aR HO_8⟩, ⟨aR HO_10⟩, ⟨aB BK226⟩, ⟨aL HB⟩⟩
   clear H'; obtain ⟨x13_3, x227001_3, x227002_3, rfl, HA, HK3, HO_8, HO_10, BK226, HB⟩ := hrel; cases gk with
   | zero => exact absurd HA.out (by simp [r0_Clusters.l2])
   | succ k3 =>
    have H := HA.out; clear HA; simp only [r0_Clusters.l2] at H; replace H : (if 0 ≤ (ji24) then (if (ji24) < (y221.length : Int) then (if x13_3 < (rd y221 (ji24)) then (if 0 ≤ x13_3 then (if x13_3 < (l0.length : Int) then ((stanzaref01_Of.f k3 l2 ((rd_T50 l0 x13_3).f0)).bind fun t231 => (if t231 > 2 then (if 2 > x227002_3 then (r0_Clusters.l2 k3 l0 l2 y221 x10_2 x11_2 (wrap64 (x13_3 + 1)) ((rd_T50 l0 (rd y221 x11_2)).f1) (wrap64 (x227001_3 + ((rd_T50 l0 x13_3).f2))) 2 0) else (r0_Clusters.l2 k3 l0 l2 y221 x10_2 x11_2 (wrap64 (x13_3 + 1)) ((rd_T50 l0 (rd y221 x11_2)).f1) (wrap64 (x227001_3 + ((rd_T50 l0 x13_3).f2))) x227002_3 0)) else (if t231 > x227002_3 then (r0_Clusters.l2 k3 l0 l2 y221 x10_2 x11_2 (wrap64 (x13_3 + 1)) ((rd_T50 l0 (rd y221 x11_2)).f1) (wrap64 (x227001_3 + ((rd_T50 l0 x13_3).f2))) t231 0) else (r0_Clusters.l2 k3 l0 l2 y221 x10_2 x11_2 (wrap64 (x13_3 + 1)) ((rd_T50 l0 (rd y221 x11_2)).f1) (wrap64 (x227001_3 + ((rd_T50 l0 x13_3).f2))) x227002_3 0)))) else (none)) else (none)) else (if 0 ≤ x11_2 then (if x11_2 < (y221.length : Int) then (if (rd y221 (ji24)) = (wrap64 ((rd y221 x11_2) + 1)) then (if 0 ≤ (rd y221 x11_2) then (if (rd y221 x11_2) < (l0.length : Int) then (if ((rd_T50 l0 (rd y221 x11_2)).f0) = 32 then (if ((rd_T50 l0 (rd y221 x11_2)).f0) = 9 then (if x10_2.length < 4398046511104 then (r0_Clusters.l1 k3 l0 l2 y221 (x10_2 ++ [(⟨((rd_T50 l0 (rd y221 x11_2)).f1), x227001_3, x227002_3, 2⟩ : S48)]) ji24) else (none)) else (if x10_2.length < 4398046511104 then (r0_Clusters.l1 k3 l0 l2 y221 (x10_2 ++ [(⟨((rd_T50 l0 (rd y221 x11_2)).f1), x227001_3, x227002_3, 1⟩ : S48)]) ji24) else (none))) else (if ((rd_T50 l0 (rd y221 x11_2)).f0) = 9 then (if x10_2.length < 4398046511104 then (r0_Clusters.l1 k3 l0 l2 y221 (x10_2 ++ [(⟨((rd_T50 l0 (rd y221 x11_2)).f1), x227001_3, x227002_3, 2⟩ : S48)]) ji24) else (none)) else (if x10_2.length < 4398046511104 then (r0_Clusters.l1 k3 l0 l2 y221 (x10_2 ++ [(⟨((rd_T50 l0 (rd y221 x11_2)).f1), x227001_3, x227002_3, 0⟩ : S48)]) ji24) else (none)))) else (none)) else (none)) else (if x10_2.length < 4398046511104 then (r0_Clusters.l1 k3 l0 l2 y221 (x10_2 ++ [(⟨((rd_T50 l0 (rd y221 x11_2)).f1), x227001_3, x227002_3, 0⟩ : S48)]) ji24) else (none))) else (none)) else (none))) else (none)) else (none)) = some (r1, r2) := by first | (rw [hji24] at H; exact H) | (simp only [hji24] at H ⊢; exact H)
    (try rw [hji24] at c15b0)
    by_cases c25 : 0 ≤ (ji24)
    rotate_left
    ·rw [if_neg c25] at H
     exact absurd H (by simp)
    rw [if_pos c25] at H; have c25b0 : decide (0 ≤ (ji24)) = true := decide_eq_true c25
    clear c25; by_cases c26 : (ji24) < (y221.length : Int)
    rotate_left
    ·rw [if_neg c26] at H
     exact absurd H (by simp)
    rw [if_pos c26] at H; have c26b0 : decide ((ji24) < (y221.length : Int)) = true := decide_eq_true c26
    clear c26; by_cases c27 : x13_3 < (rd y221 (ji24))
    ·rw [if_pos c27] at H
     have c27b0 : decide (x13_3 < (rd y221 (ji24))) = true := decide_eq_true c27
     clear c27; by_cases c28 : 0 ≤ x13_3
     rotate_left
     ·rw [if_neg c28] at H
      exact absurd H (by simp)
     rw [if_pos c28] at H; have c28b0 : decide (0 ≤ x13_3) = true := decide_eq_true c28
     clear c28; by_cases c29 : x13_3 < (l0.length : Int)
     rotate_left
     ·rw [if_neg c29] at H
      exact absurd H (by simp)
     rw [if_pos c29] at H; have c29b0 : decide (x13_3 < (l0.length : Int)) = true := decide_eq_true c29
     clear c29; replace H := Option.bind_eq_some_iff.mp H; obtain ⟨t231, A300, H⟩ := H; replace H : (if t231 > 2 then (if 2 > x227002_3 then (r0_Clusters.l2 k3 l0 l2 y221 x10_2 x11_2 (wrap64 (x13_3 + 1)) ((rd_T50 l0 (rd y221 x11_2)).f1) (wrap64 (x227001_3 + ((rd_T50 l0 x13_3).f2))) 2 0) else (r0_Clusters.l2 k3 l0 l2 y221 x10_2 x11_2 (wrap64 (x13_3 + 1)) ((rd_T50 l0 (rd y221 x11_2)).f1) (wrap64 (x227001_3 + ((rd_T50 l0 x13_3).f2))) x227002_3 0)) else (if t231 > x227002_3 then (r0_Clusters.l2 k3 l0 l2 y221 x10_2 x11_2 (wrap64 (x13_3 + 1)) ((rd_T50 l0 (rd y221 x11_2)).f1) (wrap64 (x227001_3 + ((rd_T50 l0 x13_3).f2))) t231 0) else (r0_Clusters.l2 k3 l0 l2 y221 x10_2 x11_2 (wrap64 (x13_3 + 1)) ((rd_T50 l0 (rd y221 x11_2)).f1) (wrap64 (x227001_3 + ((rd_T50 l0 x13_3).f2))) x227002_3 0))) = some (r1, r2) := H; have A30 := zA.mk A300; clear A300; by_cases c31 : t231 > 2
     ·rw [if_pos c31] at H
      have c31b0 : decide (2 < t231) = true := decide_eq_true c31
      clear c31; by_cases c32 : 2 > x227002_3
      rotate_left
      ·rw [if_neg c32] at H
       have c32b0 : decide (x227002_3 < 2) = false := decide_eq_false c32
       clear c32; have H' := zA.mk H
       clear H; have p228 : 0 ≤ ((ji24) : Int) := aD
       have q228 : (ji24) < (y221.length : Int) := aD
       obtain ⟨ad228, e228, hx228_0⟩ := Kd.at_int (Kd.zI HO_8.out).2.2 (ji24) p228 q228; obtain rfl : ad224 = ad228 := (by injection e228)
       replace p228 := eq_true p228; replace q228 := eq_true q228; try go_wp2
       replace HO_8 := zA.mk (Kd.zD HO_8.out); replace HO_10 := zA.mk (Kd.zD HO_10.out); replace BK226 := zA.mk (blk_drew BK226.out); replace HB := zA.mk (below_drew1 HB.out); have p229 : 0 ≤ (x13_3 : Int) := aD
       have q229 : x13_3 < (l0.length : Int) := aD
       obtain ⟨ad229, e229, hx229_0, hx229_1, hx229_2⟩ := at_T50 HR0.out x13_3 p229 q229; have hw229_2 := hx229_2; have hw229_1 := hx229_1; have hw229_0 := hx229_0; obtain rfl : ad225 = ad229 := (by injection e229)
       replace hx229_0 := (HB.out.cell (World.block_lt_of_cell? w _ hx229_0)).trans hx229_0; replace hx229_1 := (HB.out.cell (World.block_lt_of_cell? w _ hx229_1)).trans hx229_1; replace hx229_2 := (HB.out.cell (World.block_lt_of_cell? w _ hx229_2)).trans hx229_2; replace p229 := eq_true p229; replace q229 := eq_true q229; refine start_ (n := 10) (S := fun w' => w'.cell? ⟨gb226, 0, none⟩ = some (.int .i64 ((rd_T50 l0 (rd y221 x11_2)).f1)) ∧ w'.cell? ⟨gb226, 1, none⟩ = some (.int .i64 x227001_3) ∧ w'.cell? ⟨gb226, 2, none⟩ = some (.int .i64 x227002_3) ∧ w'.cell? ⟨gb226, 3, none⟩ = some (.int .u8 0) ∧ w'.cell? (ad225.add ((x13_3).toNat * 3)) = some (.int .i32 ((rd_T50 l0 x13_3).f0)) ∧ w'.cell? ⟨(ad225.add ((x13_3).toNat * 3)).block, (ad225.add ((x13_3).toNat * 3)).off + 1, none⟩ = some (.int .i64 ((rd_T50 l0 x13_3).f1)) ∧ w'.cell? ⟨(ad225.add ((x13_3).toNat * 3)).block, (ad225.add ((x13_3).toNat * 3)).off + 2, none⟩ = some (.int .i64 ((rd_T50 l0 x13_3).f2))) (ds := [9]) #[false, false, false, false, false, false, false, false, false, false] (by kernel_rfl) rfl rfl ⟨(blk_cell BK226.out 0).trans rfl, (blk_cell BK226.out 1).trans rfl, (blk_cell BK226.out 2).trans rfl, (blk_cell BK226.out 3).trans rfl, ((HB.out.cell (World.block_lt_of_cell? w _ hw229_0)).trans hw229_0), ((HB.out.cell (World.block_lt_of_cell? w _ hw229_1)).trans hw229_1), ((HB.out.cell (World.block_lt_of_cell? w _ hw229_2)).trans hw229_2)⟩ (fun hHeld => ?_); refine with_tabW r0_Clusters.tab16 r0_Clusters.bits16 (fun HT_ HW_ => ?_)
       generalize wr.drew = w38 at HO_8 HO_10 BK226 HB hx229_0 hx229_1 hx229_2 hHeld ⊢
       refine aP 0 (some 74) (tf_ 1 10) HT_ ?_
       refine aP 2 (some 76) (tb_ 5 10) HT_ ?_
       refine aP 3 (some 77) (tb_ 13 10) HT_ ?_
       refine aP 4 (some 78) (tb_ 29 10) HT_ ?_
       refine aP 5 (some 79) (tb_ 61 10) HT_ ?_
       refine take_ (i := 1) (N := some 75) (v := ?_) (a' := ?_) (tf_ 6 10) rfl rfl (take_ofW HT_.out HW_.out (by kernel_rfl)) (fun _ _ _ h => h) (Or.inl ⟨by rfl, ?_⟩) hHeld ?_ ?_
       rotate_left
       ·rintro w' ⟨s0, s1, s2, s3, s4, s5, s6⟩
        go_simp
        with_reducible rfl
       rotate_left
       ·simp only [Act.put, sA_, sB_, sC_, i64_w, i32_w]
        rfl
       refine take_ (i := 6) (N := some 80) (v := ?_) (a' := ?_) (tf_ 7 10) rfl rfl (take_ofW HT_.out HW_.out (by kernel_rfl)) (fun _ _ _ h => h) (Or.inl ⟨by rfl, ?_⟩) hHeld ?_ ?_
       rotate_left
       ·rintro w' ⟨s0, s1, s2, s3, s4, s5, s6⟩
        go_simp
        with_reducible rfl
       rotate_left
       ·simp only [Act.put, sA_, sB_, sC_, i64_w, i32_w]
        rfl
       refine aP 7 (some 81) (tf_ 8 10) HT_ ?_
       refine aP 8 (some 82) (tf_ 9 10) HT_ ?_
       refine last_ (i := 9) (N := none) (tb_ 1023 10) rfl rfl (one_of HT_.out (by kernel_rfl)) (by decide) (fun K hK => ?_)
       have hs39 : w38.cell? ⟨gb226, 1, none⟩ = some (.int .i64 x227001_3) := (blk_cell BK226.out 1).trans rfl
       have hfs39 := blk_frozen BK226.out 1; refine skip_ (w1 := ?_) (by rfl) rfl ?_ ?_
       rotate_left
       ·go_simp
        rfl
       refine hK.out _ _ ?_
       clear hK K; refine done_ (done_of HT_.out (by kernel_rfl)) ?_
       have n0_ : zA (Kd.R (Kd.int .i64) 3 (w38.setCell ⟨gb226, 1, none⟩ (.int .i64 (wrap64 (x227001_3 + ((rd_T50 l0 x13_3).f2))))) w.heap.size (fun _ => True) (.slice (some ad224) y221.length co20) y221) := ⟨by (with_reducible repeat (first | apply Kd.zB | apply Kd.zC | apply Kd.zD)); exact Kd.zN (Kd.zK (p := ⟨gb226, 1, none⟩) (Kd.zO HO_8.out BK226.out (by decide)) (fun _ hk => hk.2) (.int .i64 (wrap64 (x227001_3 + ((rd_T50 l0 x13_3).f2))))) (fun _ hk => trivial)⟩
       have n1_ : zA (Kd.R k48 48 (w38.setCell ⟨gb226, 1, none⟩ (.int .i64 (wrap64 (x227001_3 + ((rd_T50 l0 x13_3).f2))))) w.heap.size (fun k_ => k_ ≠ gb226) u10 x10_2) := ⟨by (with_reducible repeat (first | apply Kd.zB | apply Kd.zC | apply Kd.zD)); exact Kd.zN (Kd.zK (p := ⟨gb226, 1, none⟩) (Kd.zN HO_10.out (fun k_ hk => (⟨hk, hk⟩ : _ ∧ k_ ≠ gb226))) (fun _ hk => hk.2) (.int .i64 (wrap64 (x227001_3 + ((rd_T50 l0 x13_3).f2))))) (fun _ hk => hk.1)⟩
       have n2_ : zA ((w38.setCell ⟨gb226, 1, none⟩ (.int .i64 (wrap64 (x227001_3 + ((rd_T50 l0 x13_3).f2))))).heap[gb226]? = some (.cells #[.int .i64 ((rd_T50 l0 (rd y221 x11_2)).f1), .int .i64 (wrap64 (x227001_3 + ((rd_T50 l0 x13_3).f2))), .int .i64 x227002_3, .int .u8 0] 48 (0, 0))) := ⟨by (with_reducible repeat (first | refine blk_drewN ?_ _ | refine blk_drew ?_ | refine blk_alloc ?_ _)); refine blk_put (cs := #[.int .i64 ((rd_T50 l0 (rd y221 x11_2)).f1), .int .i64 x227001_3, .int .i64 x227002_3, .int .u8 0]) ?_ 1 _ rfl; (with_reducible repeat (first | refine blk_drewN ?_ _ | refine blk_drew ?_ | refine blk_alloc ?_ _)); exact BK226.out⟩
       have n3_ : zA (Below w.heap.size w (w38.setCell ⟨gb226, 1, none⟩ (.int .i64 (wrap64 (x227001_3 + ((rd_T50 l0 x13_3).f2)))))) := ⟨aL HB⟩
       (try clear HO_8)
       (try clear HO_10)
       (try clear BK226)
       (try clear HB)
       generalize (w38.setCell ⟨gb226, 1, none⟩ (.int .i64 (wrap64 (x227001_3 + ((rd_T50 l0 x13_3).f2))))) = w40 at n0_ n1_ n2_ n3_ ⊢
       have HO_8 := n0_; have HO_10 := n1_; have BK226 := n2_; have HB := n3_; clear n0_ n1_ n2_ n3_; have p230 : 0 ≤ (x13_3 : Int) := aD
       have q230 : x13_3 < (l0.length : Int) := aD
       obtain ⟨ad230, e230, hx230_0, hx230_1, hx230_2⟩ := at_T50 HR0.out x13_3 p230 q230; obtain rfl : ad225 = ad230 := (by injection e230)
       replace hx230_0 := (HB.out.cell (World.block_lt_of_cell? w _ hx230_0)).trans hx230_0; replace hx230_1 := (HB.out.cell (World.block_lt_of_cell? w _ hx230_1)).trans hx230_1; replace hx230_2 := (HB.out.cell (World.block_lt_of_cell? w _ hx230_2)).trans hx230_2; replace p230 := eq_true p230; replace q230 := eq_true q230; try go_wp2_with (first | ((with_reducible refine gate_callee (f := 37) rfl ?_); refine goesL_ (some 89) rfl rfl Try.func37 (by kernel_rfl) rfl #[.slice A2 l2.length c2, .int .i32 ((rd_T50 l0 x13_3).f0)] rfl aT ?_; (with_reducible refine (stanzaref01_Of.calls k3 _ _ l2 ((rd_T50 l0 x13_3).f0) t231 _ ?side1 ?side2 A30.out).mono ?_); (case side1 => exact aA HR2 HB); (case side2 => exact HC2.out); rintro e w' ⟨rfl, ⟨nd, rfl⟩⟩; refine ⟨_, rfl, ?_⟩; obtain ⟨hcz41_0, hcz41_1, hcz41_2, hcz41_3, hfz41_0, hfz41_1, hfz41_2, hfz41_3⟩ := aC4 BK226))
       go_roundg k3
       case measure => have := HK1.out; have := HK2.out; have := HK3.out; omega
       case rel => exact ⟨(wrap64 (x13_3 + 1)), (wrap64 (x227001_3 + ((rd_T50 l0 x13_3).f2))), (x227002_3), aZ, H', ⟨by have := HK1.out; have := HK2.out; have := HK3.out; omega⟩, ⟨aR HO_8⟩, ⟨aR HO_10⟩, ⟨aB BK226⟩, ⟨aL HB⟩⟩
      rw [if_pos c32] at H; have c32b0 : decide (x227002_3 < 2) = true := decide_eq_true c32
      clear c32; have H' := zA.mk H
      clear H; have p228 : 0 ≤ ((ji24) : Int) := aD
      have q228 : (ji24) < (y221.length : Int) := aD
      obtain ⟨ad228, e228, hx228_0⟩ := Kd.at_int (Kd.zI HO_8.out).2.2 (ji24) p228 q228; obtain rfl : ad224 = ad228 := (by injection e228)
      replace p228 := eq_true p228; replace q228 := eq_true q228; try go_wp2
      replace HO_8 := zA.mk (Kd.zD HO_8.out); replace HO_10 := zA.mk (Kd.zD HO_10.out); replace BK226 := zA.mk (blk_drew BK226.out); replace HB := zA.mk (below_drew1 HB.out); have p229 : 0 ≤ (x13_3 : Int) := aD
      have q229 : x13_3 < (l0.length : Int) := aD
      obtain ⟨ad229, e229, hx229_0, hx229_1, hx229_2⟩ := at_T50 HR0.out x13_3 p229 q229; have hw229_2 := hx229_2; have hw229_1 := hx229_1; have hw229_0 := hx229_0; obtain rfl : ad225 = ad229 := (by injection e229)
      replace hx229_0 := (HB.out.cell (World.block_lt_of_cell? w _ hx229_0)).trans hx229_0; replace hx229_1 := (HB.out.cell (World.block_lt_of_cell? w _ hx229_1)).trans hx229_1; replace hx229_2 := (HB.out.cell (World.block_lt_of_cell? w _ hx229_2)).trans hx229_2; replace p229 := eq_true p229; replace q229 := eq_true q229; refine start_ (n := 10) (S := fun w' => w'.cell? ⟨gb226, 0, none⟩ = some (.int .i64 ((rd_T50 l0 (rd y221 x11_2)).f1)) ∧ w'.cell? ⟨gb226, 1, none⟩ = some (.int .i64 x227001_3) ∧ w'.cell? ⟨gb226, 2, none⟩ = some (.int .i64 x227002_3) ∧ w'.cell? ⟨gb226, 3, none⟩ = some (.int .u8 0) ∧ w'.cell? (ad225.add ((x13_3).toNat * 3)) = some (.int .i32 ((rd_T50 l0 x13_3).f0)) ∧ w'.cell? ⟨(ad225.add ((x13_3).toNat * 3)).block, (ad225.add ((x13_3).toNat * 3)).off + 1, none⟩ = some (.int .i64 ((rd_T50 l0 x13_3).f1)) ∧ w'.cell? ⟨(ad225.add ((x13_3).toNat * 3)).block, (ad225.add ((x13_3).toNat * 3)).off + 2, none⟩ = some (.int .i64 ((rd_T50 l0 x13_3).f2))) (ds := [9]) #[false, false, false, false, false, false, false, false, false, false] (by kernel_rfl) rfl rfl ⟨(blk_cell BK226.out 0).trans rfl, (blk_cell BK226.out 1).trans rfl, (blk_cell BK226.out 2).trans rfl, (blk_cell BK226.out 3).trans rfl, ((HB.out.cell (World.block_lt_of_cell? w _ hw229_0)).trans hw229_0), ((HB.out.cell (World.block_lt_of_cell? w _ hw229_1)).trans hw229_1), ((HB.out.cell (World.block_lt_of_cell? w _ hw229_2)).trans hw229_2)⟩ (fun hHeld => ?_); refine with_tabW r0_Clusters.tab16 r0_Clusters.bits16 (fun HT_ HW_ => ?_)
      generalize wr.drew = w33 at HO_8 HO_10 BK226 HB hx229_0 hx229_1 hx229_2 hHeld ⊢
      refine aP 0 (some 74) (tf_ 1 10) HT_ ?_
      refine aP 2 (some 76) (tb_ 5 10) HT_ ?_
      refine aP 3 (some 77) (tb_ 13 10) HT_ ?_
      refine aP 4 (some 78) (tb_ 29 10) HT_ ?_
      refine aP 5 (some 79) (tb_ 61 10) HT_ ?_
      refine take_ (i := 1) (N := some 75) (v := ?_) (a' := ?_) (tf_ 6 10) rfl rfl (take_ofW HT_.out HW_.out (by kernel_rfl)) (fun _ _ _ h => h) (Or.inl ⟨by rfl, ?_⟩) hHeld ?_ ?_
      rotate_left
      ·rintro w' ⟨s0, s1, s2, s3, s4, s5, s6⟩
       go_simp
       with_reducible rfl
      rotate_left
      ·simp only [Act.put, sA_, sB_, sC_, i64_w, i32_w]
       rfl
      refine take_ (i := 6) (N := some 80) (v := ?_) (a' := ?_) (tf_ 7 10) rfl rfl (take_ofW HT_.out HW_.out (by kernel_rfl)) (fun _ _ _ h => h) (Or.inl ⟨by rfl, ?_⟩) hHeld ?_ ?_
      rotate_left
      ·rintro w' ⟨s0, s1, s2, s3, s4, s5, s6⟩
       go_simp
       with_reducible rfl
      rotate_left
      ·simp only [Act.put, sA_, sB_, sC_, i64_w, i32_w]
       rfl
      refine aP 7 (some 81) (tf_ 8 10) HT_ ?_
      refine aP 8 (some 82) (tf_ 9 10) HT_ ?_
      refine last_ (i := 9) (N := none) (tb_ 1023 10) rfl rfl (one_of HT_.out (by kernel_rfl)) (by decide) (fun K hK => ?_)
      have hs34 : w33.cell? ⟨gb226, 1, none⟩ = some (.int .i64 x227001_3) := (blk_cell BK226.out 1).trans rfl
      have hfs34 := blk_frozen BK226.out 1; refine skip_ (w1 := ?_) (by rfl) rfl ?_ ?_
      rotate_left
      ·go_simp
       rfl
      refine hK.out _ _ ?_
      clear hK K; refine done_ (done_of HT_.out (by kernel_rfl)) ?_
      have n0_ : zA (Kd.R (Kd.int .i64) 3 (w33.setCell ⟨gb226, 1, none⟩ (.int .i64 (wrap64 (x227001_3 + ((rd_T50 l0 x13_3).f2))))) w.heap.size (fun _ => True) (.slice (some ad224) y221.length co20) y221) := ⟨by (with_reducible repeat (first | apply Kd.zB | apply Kd.zC | apply Kd.zD)); exact Kd.zN (Kd.zK (p := ⟨gb226, 1, none⟩) (Kd.zO HO_8.out BK226.out (by decide)) (fun _ hk => hk.2) (.int .i64 (wrap64 (x227001_3 + ((rd_T50 l0 x13_3).f2))))) (fun _ hk => trivial)⟩
      have n1_ : zA (Kd.R k48 48 (w33.setCell ⟨gb226, 1, none⟩ (.int .i64 (wrap64 (x227001_3 + ((rd_T50 l0 x13_3).f2))))) w.heap.size (fun k_ => k_ ≠ gb226) u10 x10_2) := ⟨by (with_reducible repeat (first | apply Kd.zB | apply Kd.zC | apply Kd.zD)); exact Kd.zN (Kd.zK (p := ⟨gb226, 1, none⟩) (Kd.zN HO_10.out (fun k_ hk => (⟨hk, hk⟩ : _ ∧ k_ ≠ gb226))) (fun _ hk => hk.2) (.int .i64 (wrap64 (x227001_3 + ((rd_T50 l0 x13_3).f2))))) (fun _ hk => hk.1)⟩
      have n2_ : zA ((w33.setCell ⟨gb226, 1, none⟩ (.int .i64 (wrap64 (x227001_3 + ((rd_T50 l0 x13_3).f2))))).heap[gb226]? = some (.cells #[.int .i64 ((rd_T50 l0 (rd y221 x11_2)).f1), .int .i64 (wrap64 (x227001_3 + ((rd_T50 l0 x13_3).f2))), .int .i64 x227002_3, .int .u8 0] 48 (0, 0))) := ⟨by (with_reducible repeat (first | refine blk_drewN ?_ _ | refine blk_drew ?_ | refine blk_alloc ?_ _)); refine blk_put (cs := #[.int .i64 ((rd_T50 l0 (rd y221 x11_2)).f1), .int .i64 x227001_3, .int .i64 x227002_3, .int .u8 0]) ?_ 1 _ rfl; (with_reducible repeat (first | refine blk_drewN ?_ _ | refine blk_drew ?_ | refine blk_alloc ?_ _)); exact BK226.out⟩
      have n3_ : zA (Below w.heap.size w (w33.setCell ⟨gb226, 1, none⟩ (.int .i64 (wrap64 (x227001_3 + ((rd_T50 l0 x13_3).f2)))))) := ⟨aL HB⟩
      (try clear HO_8)
      (try clear HO_10)
      (try clear BK226)
      (try clear HB)
      generalize (w33.setCell ⟨gb226, 1, none⟩ (.int .i64 (wrap64 (x227001_3 + ((rd_T50 l0 x13_3).f2))))) = w35 at n0_ n1_ n2_ n3_ ⊢
      have HO_8 := n0_; have HO_10 := n1_; have BK226 := n2_; have HB := n3_; clear n0_ n1_ n2_ n3_; have p230 : 0 ≤ (x13_3 : Int) := aD
      have q230 : x13_3 < (l0.length : Int) := aD
      obtain ⟨ad230, e230, hx230_0, hx230_1, hx230_2⟩ := at_T50 HR0.out x13_3 p230 q230; obtain rfl : ad225 = ad230 := (by injection e230)
      replace hx230_0 := (HB.out.cell (World.block_lt_of_cell? w _ hx230_0)).trans hx230_0; replace hx230_1 := (HB.out.cell (World.block_lt_of_cell? w _ hx230_1)).trans hx230_1; replace hx230_2 := (HB.out.cell (World.block_lt_of_cell? w _ hx230_2)).trans hx230_2; replace p230 := eq_true p230; replace q230 := eq_true q230; try go_wp2_with (first | ((with_reducible refine gate_callee (f := 37) rfl ?_); refine goesL_ (some 89) rfl rfl Try.func37 (by kernel_rfl) rfl #[.slice A2 l2.length c2, .int .i32 ((rd_T50 l0 x13_3).f0)] rfl aT ?_; (with_reducible refine (stanzaref01_Of.calls k3 _ _ l2 ((rd_T50 l0 x13_3).f0) t231 _ ?side1 ?side2 A30.out).mono ?_); (case side1 => exact aA HR2 HB); (case side2 => exact HC2.out); rintro e w' ⟨rfl, ⟨nd, rfl⟩⟩; refine ⟨_, rfl, ?_⟩; (try (rw [drewN_self w35]; generalize hq_ : World.drewN w35 _ = w35; have n0_ : zA (Kd.R k48 48 w35 w.heap.size (fun k_ => k_ ≠ gb226) u10 x10_2) := ⟨by rw [← hq_]; exact (aR HO_10)⟩; have n1_ : zA (Kd.R (Kd.int .i64) 3 w35 w.heap.size (fun _ => True) (.slice (some ad224) y221.length co20) y221) := ⟨by rw [← hq_]; exact (aR HO_8)⟩; have n2_ : zA (w35.heap[gb226]? = some (.cells #[.int .i64 ((rd_T50 l0 (rd y221 x11_2)).f1), .int .i64 (wrap64 (x227001_3 + ((rd_T50 l0 x13_3).f2))), .int .i64 x227002_3, .int .u8 0] 48 (0, 0))) := ⟨by rw [← hq_]; exact (aB BK226)⟩; have n3_ : zA (Below w.heap.size w w35) := ⟨by rw [← hq_]; exact (aL HB)⟩; clear HO_10 HO_8 BK226 HB hq_; have HO_10 := n0_; have HO_8 := n1_; have BK226 := n2_; have HB := n3_; clear n0_ n1_ n2_ n3_)); obtain ⟨hcz36_0, hcz36_1, hcz36_2, hcz36_3, hfz36_0, hfz36_1, hfz36_2, hfz36_3⟩ := aC4 BK226) | ((with_reducible refine gate_store (t := 3) (p := 97) rfl ?_); refine store_event (t := 3) (p := 97) (v := ?vo_w37) (w1 := (w35.setCell ⟨gb226, 2, none⟩ (.int .i64 2))) ?hg ?ho ?hn ?hr ?_; (case ho => rfl); (case hg => rfl); (case hn => rfl); (case hr => first | (go_simp; done) | (go_simp; rfl)); intro w37 hw; have n0_ : zA (Kd.R (Kd.int .i64) 3 w37 w.heap.size (fun _ => True) (.slice (some ad224) y221.length co20) y221) := ⟨(by rw [hw]; exact (by (with_reducible repeat (first | apply Kd.zB | apply Kd.zC | apply Kd.zD)); exact Kd.zN (Kd.zK (p := ⟨gb226, 2, none⟩) (Kd.zO HO_8.out BK226.out (by decide)) (fun _ hk => hk.2) (.int .i64 2)) (fun _ hk => trivial)))⟩; have n1_ : zA (Kd.R k48 48 w37 w.heap.size (fun k_ => k_ ≠ gb226) u10 x10_2) := ⟨(by rw [hw]; exact (by (with_reducible repeat (first | apply Kd.zB | apply Kd.zC | apply Kd.zD)); exact Kd.zN (Kd.zK (p := ⟨gb226, 2, none⟩) (Kd.zN HO_10.out (fun k_ hk => (⟨hk, hk⟩ : _ ∧ k_ ≠ gb226))) (fun _ hk => hk.2) (.int .i64 2)) (fun _ hk => hk.1)))⟩; have n2_ : zA (w37.heap[gb226]? = some (.cells #[.int .i64 ((rd_T50 l0 (rd y221 x11_2)).f1), .int .i64 (wrap64 (x227001_3 + ((rd_T50 l0 x13_3).f2))), .int .i64 2, .int .u8 0] 48 (0, 0))) := ⟨(by rw [hw]; exact (by (with_reducible repeat (first | refine blk_drewN ?_ _ | refine blk_drew ?_ | refine blk_alloc ?_ _)); refine blk_put (cs := #[.int .i64 ((rd_T50 l0 (rd y221 x11_2)).f1), .int .i64 (wrap64 (x227001_3 + ((rd_T50 l0 x13_3).f2))), .int .i64 x227002_3, .int .u8 0]) ?_ 2 _ rfl; (with_reducible repeat (first | refine blk_drewN ?_ _ | refine blk_drew ?_ | refine blk_alloc ?_ _)); exact BK226.out))⟩; have n3_ : zA (Below w.heap.size w w37) := ⟨(by rw [hw]; exact (aL HB))⟩; clear hw; clear HO_8; clear HO_10; clear BK226; clear HB; have HO_8 := n0_; have HO_10 := n1_; have BK226 := n2_; have HB := n3_; clear n0_ n1_ n2_ n3_))
      go_roundg k3
      case measure => have := HK1.out; have := HK2.out; have := HK3.out; omega
      case rel => exact ⟨(wrap64 (x13_3 + 1)), (wrap64 (x227001_3 + ((rd_T50 l0 x13_3).f2))), (2), aZ, H', ⟨by have := HK1.out; have := HK2.out; have := HK3.out; omega⟩, ⟨aR HO_8⟩, ⟨aR HO_10⟩, ⟨aB BK226⟩, ⟨aL HB⟩⟩
     rw [if_neg c31] at H; have c31b0 : decide (2 < t231) = false := decide_eq_false c31
     clear c31; by_cases c42 : t231 > x227002_3
     rotate_left
     ·rw [if_neg c42] at H
      have c42b0 : decide (x227002_3 < t231) = false := decide_eq_false c42
      clear c42; have H' := zA.mk H
      clear H; have p228 : 0 ≤ ((ji24) : Int) := aD
      have q228 : (ji24) < (y221.length : Int) := aD
      obtain ⟨ad228, e228, hx228_0⟩ := Kd.at_int (Kd.zI HO_8.out).2.2 (ji24) p228 q228; obtain rfl : ad224 = ad228 := (by injection e228)
      replace p228 := eq_true p228; replace q228 := eq_true q228; try go_wp2
      replace HO_8 := zA.mk (Kd.zD HO_8.out); replace HO_10 := zA.mk (Kd.zD HO_10.out); replace BK226 := zA.mk (blk_drew BK226.out); replace HB := zA.mk (below_drew1 HB.out); have p229 : 0 ≤ (x13_3 : Int) := aD
      have q229 : x13_3 < (l0.length : Int) := aD
      obtain ⟨ad229, e229, hx229_0, hx229_1, hx229_2⟩ := at_T50 HR0.out x13_3 p229 q229; have hw229_2 := hx229_2; have hw229_1 := hx229_1; have hw229_0 := hx229_0; obtain rfl : ad225 = ad229 := (by injection e229)
      replace hx229_0 := (HB.out.cell (World.block_lt_of_cell? w _ hx229_0)).trans hx229_0; replace hx229_1 := (HB.out.cell (World.block_lt_of_cell? w _ hx229_1)).trans hx229_1; replace hx229_2 := (HB.out.cell (World.block_lt_of_cell? w _ hx229_2)).trans hx229_2; replace p229 := eq_true p229; replace q229 := eq_true q229; refine start_ (n := 10) (S := fun w' => w'.cell? ⟨gb226, 0, none⟩ = some (.int .i64 ((rd_T50 l0 (rd y221 x11_2)).f1)) ∧ w'.cell? ⟨gb226, 1, none⟩ = some (.int .i64 x227001_3) ∧ w'.cell? ⟨gb226, 2, none⟩ = some (.int .i64 x227002_3) ∧ w'.cell? ⟨gb226, 3, none⟩ = some (.int .u8 0) ∧ w'.cell? (ad225.add ((x13_3).toNat * 3)) = some (.int .i32 ((rd_T50 l0 x13_3).f0)) ∧ w'.cell? ⟨(ad225.add ((x13_3).toNat * 3)).block, (ad225.add ((x13_3).toNat * 3)).off + 1, none⟩ = some (.int .i64 ((rd_T50 l0 x13_3).f1)) ∧ w'.cell? ⟨(ad225.add ((x13_3).toNat * 3)).block, (ad225.add ((x13_3).toNat * 3)).off + 2, none⟩ = some (.int .i64 ((rd_T50 l0 x13_3).f2))) (ds := [9]) #[false, false, false, false, false, false, false, false, false, false] (by kernel_rfl) rfl rfl ⟨(blk_cell BK226.out 0).trans rfl, (blk_cell BK226.out 1).trans rfl, (blk_cell BK226.out 2).trans rfl, (blk_cell BK226.out 3).trans rfl, ((HB.out.cell (World.block_lt_of_cell? w _ hw229_0)).trans hw229_0), ((HB.out.cell (World.block_lt_of_cell? w _ hw229_1)).trans hw229_1), ((HB.out.cell (World.block_lt_of_cell? w _ hw229_2)).trans hw229_2)⟩ (fun hHeld => ?_); refine with_tabW r0_Clusters.tab16 r0_Clusters.bits16 (fun HT_ HW_ => ?_)
      generalize wr.drew = w48 at HO_8 HO_10 BK226 HB hx229_0 hx229_1 hx229_2 hHeld ⊢
      refine aP 0 (some 74) (tf_ 1 10) HT_ ?_
      refine aP 2 (some 76) (tb_ 5 10) HT_ ?_
      refine aP 3 (some 77) (tb_ 13 10) HT_ ?_
      refine aP 4 (some 78) (tb_ 29 10) HT_ ?_
      refine aP 5 (some 79) (tb_ 61 10) HT_ ?_
      refine take_ (i := 1) (N := some 75) (v := ?_) (a' := ?_) (tf_ 6 10) rfl rfl (take_ofW HT_.out HW_.out (by kernel_rfl)) (fun _ _ _ h => h) (Or.inl ⟨by rfl, ?_⟩) hHeld ?_ ?_
      rotate_left
      ·rintro w' ⟨s0, s1, s2, s3, s4, s5, s6⟩
       go_simp
       with_reducible rfl
      rotate_left
      ·simp only [Act.put, sA_, sB_, sC_, i64_w, i32_w]
       rfl
      refine take_ (i := 6) (N := some 80) (v := ?_) (a' := ?_) (tf_ 7 10) rfl rfl (take_ofW HT_.out HW_.out (by kernel_rfl)) (fun _ _ _ h => h) (Or.inl ⟨by rfl, ?_⟩) hHeld ?_ ?_
      rotate_left
      ·rintro w' ⟨s0, s1, s2, s3, s4, s5, s6⟩
       go_simp
       with_reducible rfl
      rotate_left
      ·simp only [Act.put, sA_, sB_, sC_, i64_w, i32_w]
       rfl
      refine aP 7 (some 81) (tf_ 8 10) HT_ ?_
      refine aP 8 (some 82) (tf_ 9 10) HT_ ?_
      refine last_ (i := 9) (N := none) (tb_ 1023 10) rfl rfl (one_of HT_.out (by kernel_rfl)) (by decide) (fun K hK => ?_)
      have hs49 : w48.cell? ⟨gb226, 1, none⟩ = some (.int .i64 x227001_3) := (blk_cell BK226.out 1).trans rfl
      have hfs49 := blk_frozen BK226.out 1; refine skip_ (w1 := ?_) (by rfl) rfl ?_ ?_
      rotate_left
      ·go_simp
       rfl
      refine hK.out _ _ ?_
      clear hK K; refine done_ (done_of HT_.out (by kernel_rfl)) ?_
      have n0_ : zA (Kd.R (Kd.int .i64) 3 (w48.setCell ⟨gb226, 1, none⟩ (.int .i64 (wrap64 (x227001_3 + ((rd_T50 l0 x13_3).f2))))) w.heap.size (fun _ => True) (.slice (some ad224) y221.length co20) y221) := ⟨by (with_reducible repeat (first | apply Kd.zB | apply Kd.zC | apply Kd.zD)); exact Kd.zN (Kd.zK (p := ⟨gb226, 1, none⟩) (Kd.zO HO_8.out BK226.out (by decide)) (fun _ hk => hk.2) (.int .i64 (wrap64 (x227001_3 + ((rd_T50 l0 x13_3).f2))))) (fun _ hk => trivial)⟩
      have n1_ : zA (Kd.R k48 48 (w48.setCell ⟨gb226, 1, none⟩ (.int .i64 (wrap64 (x227001_3 + ((rd_T50 l0 x13_3).f2))))) w.heap.size (fun k_ => k_ ≠ gb226) u10 x10_2) := ⟨by (with_reducible repeat (first | apply Kd.zB | apply Kd.zC | apply Kd.zD)); exact Kd.zN (Kd.zK (p := ⟨gb226, 1, none⟩) (Kd.zN HO_10.out (fun k_ hk => (⟨hk, hk⟩ : _ ∧ k_ ≠ gb226))) (fun _ hk => hk.2) (.int .i64 (wrap64 (x227001_3 + ((rd_T50 l0 x13_3).f2))))) (fun _ hk => hk.1)⟩
      have n2_ : zA ((w48.setCell ⟨gb226, 1, none⟩ (.int .i64 (wrap64 (x227001_3 + ((rd_T50 l0 x13_3).f2))))).heap[gb226]? = some (.cells #[.int .i64 ((rd_T50 l0 (rd y221 x11_2)).f1), .int .i64 (wrap64 (x227001_3 + ((rd_T50 l0 x13_3).f2))), .int .i64 x227002_3, .int .u8 0] 48 (0, 0))) := ⟨by (with_reducible repeat (first | refine blk_drewN ?_ _ | refine blk_drew ?_ | refine blk_alloc ?_ _)); refine blk_put (cs := #[.int .i64 ((rd_T50 l0 (rd y221 x11_2)).f1), .int .i64 x227001_3, .int .i64 x227002_3, .int .u8 0]) ?_ 1 _ rfl; (with_reducible repeat (first | refine blk_drewN ?_ _ | refine blk_drew ?_ | refine blk_alloc ?_ _)); exact BK226.out⟩
      have n3_ : zA (Below w.heap.size w (w48.setCell ⟨gb226, 1, none⟩ (.int .i64 (wrap64 (x227001_3 + ((rd_T50 l0 x13_3).f2)))))) := ⟨aL HB⟩
      (try clear HO_8)
      (try clear HO_10)
      (try clear BK226)
      (try clear HB)
      generalize (w48.setCell ⟨gb226, 1, none⟩ (.int .i64 (wrap64 (x227001_3 + ((rd_T50 l0 x13_3).f2))))) = w50 at n0_ n1_ n2_ n3_ ⊢
      have HO_8 := n0_; have HO_10 := n1_; have BK226 := n2_; have HB := n3_; clear n0_ n1_ n2_ n3_; have p230 : 0 ≤ (x13_3 : Int) := aD
      have q230 : x13_3 < (l0.length : Int) := aD
      obtain ⟨ad230, e230, hx230_0, hx230_1, hx230_2⟩ := at_T50 HR0.out x13_3 p230 q230; obtain rfl : ad225 = ad230 := (by injection e230)
      replace hx230_0 := (HB.out.cell (World.block_lt_of_cell? w _ hx230_0)).trans hx230_0; replace hx230_1 := (HB.out.cell (World.block_lt_of_cell? w _ hx230_1)).trans hx230_1; replace hx230_2 := (HB.out.cell (World.block_lt_of_cell? w _ hx230_2)).trans hx230_2; replace p230 := eq_true p230; replace q230 := eq_true q230; try go_wp2_with (first | ((with_reducible refine gate_callee (f := 37) rfl ?_); refine goesL_ (some 89) rfl rfl Try.func37 (by kernel_rfl) rfl #[.slice A2 l2.length c2, .int .i32 ((rd_T50 l0 x13_3).f0)] rfl aT ?_; (with_reducible refine (stanzaref01_Of.calls k3 _ _ l2 ((rd_T50 l0 x13_3).f0) t231 _ ?side1 ?side2 A30.out).mono ?_); (case side1 => exact aA HR2 HB); (case side2 => exact HC2.out); rintro e w' ⟨rfl, ⟨nd, rfl⟩⟩; refine ⟨_, rfl, ?_⟩; obtain ⟨hcz51_0, hcz51_1, hcz51_2, hcz51_3, hfz51_0, hfz51_1, hfz51_2, hfz51_3⟩ := aC4 BK226))
      go_roundg k3
      case measure => have := HK1.out; have := HK2.out; have := HK3.out; omega
      case rel => exact ⟨(wrap64 (x13_3 + 1)), (wrap64 (x227001_3 + ((rd_T50 l0 x13_3).f2))), (x227002_3), aZ, H', ⟨by have := HK1.out; have := HK2.out; have := HK3.out; omega⟩, ⟨aR HO_8⟩, ⟨aR HO_10⟩, ⟨aB BK226⟩, ⟨aL HB⟩⟩
     rw [if_pos c42] at H; have c42b0 : decide (x227002_3 < t231) = true := decide_eq_true c42
     clear c42; have H' := zA.mk H
     clear H; have p228 : 0 ≤ ((ji24) : Int) := aD
     have q228 : (ji24) < (y221.length : Int) := aD
     obtain ⟨ad228, e228, hx228_0⟩ := Kd.at_int (Kd.zI HO_8.out).2.2 (ji24) p228 q228; obtain rfl : ad224 = ad228 := (by injection e228)
     replace p228 := eq_true p228; replace q228 := eq_true q228; try go_wp2
     replace HO_8 := zA.mk (Kd.zD HO_8.out); replace HO_10 := zA.mk (Kd.zD HO_10.out); replace BK226 := zA.mk (blk_drew BK226.out); replace HB := zA.mk (below_drew1 HB.out); have p229 : 0 ≤ (x13_3 : Int) := aD
     have q229 : x13_3 < (l0.length : Int) := aD
     obtain ⟨ad229, e229, hx229_0, hx229_1, hx229_2⟩ := at_T50 HR0.out x13_3 p229 q229; have hw229_2 := hx229_2; have hw229_1 := hx229_1; have hw229_0 := hx229_0; obtain rfl : ad225 = ad229 := (by injection e229)
     replace hx229_0 := (HB.out.cell (World.block_lt_of_cell? w _ hx229_0)).trans hx229_0; replace hx229_1 := (HB.out.cell (World.block_lt_of_cell? w _ hx229_1)).trans hx229_1; replace hx229_2 := (HB.out.cell (World.block_lt_of_cell? w _ hx229_2)).trans hx229_2; replace p229 := eq_true p229; replace q229 := eq_true q229; refine start_ (n := 10) (S := fun w' => w'.cell? ⟨gb226, 0, none⟩ = some (.int .i64 ((rd_T50 l0 (rd y221 x11_2)).f1)) ∧ w'.cell? ⟨gb226, 1, none⟩ = some (.int .i64 x227001_3) ∧ w'.cell? ⟨gb226, 2, none⟩ = some (.int .i64 x227002_3) ∧ w'.cell? ⟨gb226, 3, none⟩ = some (.int .u8 0) ∧ w'.cell? (ad225.add ((x13_3).toNat * 3)) = some (.int .i32 ((rd_T50 l0 x13_3).f0)) ∧ w'.cell? ⟨(ad225.add ((x13_3).toNat * 3)).block, (ad225.add ((x13_3).toNat * 3)).off + 1, none⟩ = some (.int .i64 ((rd_T50 l0 x13_3).f1)) ∧ w'.cell? ⟨(ad225.add ((x13_3).toNat * 3)).block, (ad225.add ((x13_3).toNat * 3)).off + 2, none⟩ = some (.int .i64 ((rd_T50 l0 x13_3).f2))) (ds := [9]) #[false, false, false, false, false, false, false, false, false, false] (by kernel_rfl) rfl rfl ⟨(blk_cell BK226.out 0).trans rfl, (blk_cell BK226.out 1).trans rfl, (blk_cell BK226.out 2).trans rfl, (blk_cell BK226.out 3).trans rfl, ((HB.out.cell (World.block_lt_of_cell? w _ hw229_0)).trans hw229_0), ((HB.out.cell (World.block_lt_of_cell? w _ hw229_1)).trans hw229_1), ((HB.out.cell (World.block_lt_of_cell? w _ hw229_2)).trans hw229_2)⟩ (fun hHeld => ?_); refine with_tabW r0_Clusters.tab16 r0_Clusters.bits16 (fun HT_ HW_ => ?_)
     generalize wr.drew = w43 at HO_8 HO_10 BK226 HB hx229_0 hx229_1 hx229_2 hHeld ⊢
     refine aP 0 (some 74) (tf_ 1 10) HT_ ?_
     refine aP 2 (some 76) (tb_ 5 10) HT_ ?_
     refine aP 3 (some 77) (tb_ 13 10) HT_ ?_
     refine aP 4 (some 78) (tb_ 29 10) HT_ ?_
     refine aP 5 (some 79) (tb_ 61 10) HT_ ?_
     refine take_ (i := 1) (N := some 75) (v := ?_) (a' := ?_) (tf_ 6 10) rfl rfl (take_ofW HT_.out HW_.out (by kernel_rfl)) (fun _ _ _ h => h) (Or.inl ⟨by rfl, ?_⟩) hHeld ?_ ?_
     rotate_left
     ·rintro w' ⟨s0, s1, s2, s3, s4, s5, s6⟩
      go_simp
      with_reducible rfl
     rotate_left
     ·simp only [Act.put, sA_, sB_, sC_, i64_w, i32_w]
      rfl
     refine take_ (i := 6) (N := some 80) (v := ?_) (a' := ?_) (tf_ 7 10) rfl rfl (take_ofW HT_.out HW_.out (by kernel_rfl)) (fun _ _ _ h => h) (Or.inl ⟨by rfl, ?_⟩) hHeld ?_ ?_
     rotate_left
     ·rintro w' ⟨s0, s1, s2, s3, s4, s5, s6⟩
      go_simp
      with_reducible rfl
     rotate_left
     ·simp only [Act.put, sA_, sB_, sC_, i64_w, i32_w]
      rfl
     refine aP 7 (some 81) (tf_ 8 10) HT_ ?_
     refine aP 8 (some 82) (tf_ 9 10) HT_ ?_
     refine last_ (i := 9) (N := none) (tb_ 1023 10) rfl rfl (one_of HT_.out (by kernel_rfl)) (by decide) (fun K hK => ?_)
     have hs44 : w43.cell? ⟨gb226, 1, none⟩ = some (.int .i64 x227001_3) := (blk_cell BK226.out 1).trans rfl
     have hfs44 := blk_frozen BK226.out 1; refine skip_ (w1 := ?_) (by rfl) rfl ?_ ?_
     rotate_left
     ·go_simp
      rfl
     refine hK.out _ _ ?_
     clear hK K; refine done_ (done_of HT_.out (by kernel_rfl)) ?_
     have n0_ : zA (Kd.R (Kd.int .i64) 3 (w43.setCell ⟨gb226, 1, none⟩ (.int .i64 (wrap64 (x227001_3 + ((rd_T50 l0 x13_3).f2))))) w.heap.size (fun _ => True) (.slice (some ad224) y221.length co20) y221) := ⟨by (with_reducible repeat (first | apply Kd.zB | apply Kd.zC | apply Kd.zD)); exact Kd.zN (Kd.zK (p := ⟨gb226, 1, none⟩) (Kd.zO HO_8.out BK226.out (by decide)) (fun _ hk => hk.2) (.int .i64 (wrap64 (x227001_3 + ((rd_T50 l0 x13_3).f2))))) (fun _ hk => trivial)⟩
     have n1_ : zA (Kd.R k48 48 (w43.setCell ⟨gb226, 1, none⟩ (.int .i64 (wrap64 (x227001_3 + ((rd_T50 l0 x13_3).f2))))) w.heap.size (fun k_ => k_ ≠ gb226) u10 x10_2) := ⟨by (with_reducible repeat (first | apply Kd.zB | apply Kd.zC | apply Kd.zD)); exact Kd.zN (Kd.zK (p := ⟨gb226, 1, none⟩) (Kd.zN HO_10.out (fun k_ hk => (⟨hk, hk⟩ : _ ∧ k_ ≠ gb226))) (fun _ hk => hk.2) (.int .i64 (wrap64 (x227001_3 + ((rd_T50 l0 x13_3).f2))))) (fun _ hk => hk.1)⟩
     have n2_ : zA ((w43.setCell ⟨gb226, 1, none⟩ (.int .i64 (wrap64 (x227001_3 + ((rd_T50 l0 x13_3).f2))))).heap[gb226]? = some (.cells #[.int .i64 ((rd_T50 l0 (rd y221 x11_2)).f1), .int .i64 (wrap64 (x227001_3 + ((rd_T50 l0 x13_3).f2))), .int .i64 x227002_3, .int .u8 0] 48 (0, 0))) := ⟨by (with_reducible repeat (first | refine blk_drewN ?_ _ | refine blk_drew ?_ | refine blk_alloc ?_ _)); refine blk_put (cs := #[.int .i64 ((rd_T50 l0 (rd y221 x11_2)).f1), .int .i64 x227001_3, .int .i64 x227002_3, .int .u8 0]) ?_ 1 _ rfl; (with_reducible repeat (first | refine blk_drewN ?_ _ | refine blk_drew ?_ | refine blk_alloc ?_ _)); exact BK226.out⟩
     have n3_ : zA (Below w.heap.size w (w43.setCell ⟨gb226, 1, none⟩ (.int .i64 (wrap64 (x227001_3 + ((rd_T50 l0 x13_3).f2)))))) := ⟨aL HB⟩
     (try clear HO_8)
     (try clear HO_10)
     (try clear BK226)
     (try clear HB)
     generalize (w43.setCell ⟨gb226, 1, none⟩ (.int .i64 (wrap64 (x227001_3 + ((rd_T50 l0 x13_3).f2))))) = w45 at n0_ n1_ n2_ n3_ ⊢
     have HO_8 := n0_; have HO_10 := n1_; have BK226 := n2_; have HB := n3_; clear n0_ n1_ n2_ n3_; have p230 : 0 ≤ (x13_3 : Int) := aD
     have q230 : x13_3 < (l0.length : Int) := aD
     obtain ⟨ad230, e230, hx230_0, hx230_1, hx230_2⟩ := at_T50 HR0.out x13_3 p230 q230; obtain rfl : ad225 = ad230 := (by injection e230)
     replace hx230_0 := (HB.out.cell (World.block_lt_of_cell? w _ hx230_0)).trans hx230_0; replace hx230_1 := (HB.out.cell (World.block_lt_of_cell? w _ hx230_1)).trans hx230_1; replace hx230_2 := (HB.out.cell (World.block_lt_of_cell? w _ hx230_2)).trans hx230_2; replace p230 := eq_true p230; replace q230 := eq_true q230; try go_wp2_with (first | ((with_reducible refine gate_callee (f := 37) rfl ?_); refine goesL_ (some 89) rfl rfl Try.func37 (by kernel_rfl) rfl #[.slice A2 l2.length c2, .int .i32 ((rd_T50 l0 x13_3).f0)] rfl aT ?_; (with_reducible refine (stanzaref01_Of.calls k3 _ _ l2 ((rd_T50 l0 x13_3).f0) t231 _ ?side1 ?side2 A30.out).mono ?_); (case side1 => exact aA HR2 HB); (case side2 => exact HC2.out); rintro e w' ⟨rfl, ⟨nd, rfl⟩⟩; refine ⟨_, rfl, ?_⟩; (try (rw [drewN_self w45]; generalize hq_ : World.drewN w45 _ = w45; have n0_ : zA (Kd.R k48 48 w45 w.heap.size (fun k_ => k_ ≠ gb226) u10 x10_2) := ⟨by rw [← hq_]; exact (aR HO_10)⟩; have n1_ : zA (Kd.R (Kd.int .i64) 3 w45 w.heap.size (fun _ => True) (.slice (some ad224) y221.length co20) y221) := ⟨by rw [← hq_]; exact (aR HO_8)⟩; have n2_ : zA (w45.heap[gb226]? = some (.cells #[.int .i64 ((rd_T50 l0 (rd y221 x11_2)).f1), .int .i64 (wrap64 (x227001_3 + ((rd_T50 l0 x13_3).f2))), .int .i64 x227002_3, .int .u8 0] 48 (0, 0))) := ⟨by rw [← hq_]; exact (aB BK226)⟩; have n3_ : zA (Below w.heap.size w w45) := ⟨by rw [← hq_]; exact (aL HB)⟩; clear HO_10 HO_8 BK226 HB hq_; have HO_10 := n0_; have HO_8 := n1_; have BK226 := n2_; have HB := n3_; clear n0_ n1_ n2_ n3_)); obtain ⟨hcz46_0, hcz46_1, hcz46_2, hcz46_3, hfz46_0, hfz46_1, hfz46_2, hfz46_3⟩ := aC4 BK226) | ((with_reducible refine gate_store (t := 3) (p := 97) rfl ?_); refine store_event (t := 3) (p := 97) (v := ?vo_w47) (w1 := (w45.setCell ⟨gb226, 2, none⟩ (.int .i64 t231))) ?hg ?ho ?hn ?hr ?_; (case ho => rfl); (case hg => rfl); (case hn => rfl); (case hr => first | (go_simp; done) | (go_simp; rfl)); intro w47 hw; have n0_ : zA (Kd.R (Kd.int .i64) 3 w47 w.heap.size (fun _ => True) (.slice (some ad224) y221.length co20) y221) := ⟨(by rw [hw]; exact (by (with_reducible repeat (first | apply Kd.zB | apply Kd.zC | apply Kd.zD)); exact Kd.zN (Kd.zK (p := ⟨gb226, 2, none⟩) (Kd.zO HO_8.out BK226.out (by decide)) (fun _ hk => hk.2) (.int .i64 t231)) (fun _ hk => trivial)))⟩; have n1_ : zA (Kd.R k48 48 w47 w.heap.size (fun k_ => k_ ≠ gb226) u10 x10_2) := ⟨(by rw [hw]; exact (by (with_reducible repeat (first | apply Kd.zB | apply Kd.zC | apply Kd.zD)); exact Kd.zN (Kd.zK (p := ⟨gb226, 2, none⟩) (Kd.zN HO_10.out (fun k_ hk => (⟨hk, hk⟩ : _ ∧ k_ ≠ gb226))) (fun _ hk => hk.2) (.int .i64 t231)) (fun _ hk => hk.1)))⟩; have n2_ : zA (w47.heap[gb226]? = some (.cells #[.int .i64 ((rd_T50 l0 (rd y221 x11_2)).f1), .int .i64 (wrap64 (x227001_3 + ((rd_T50 l0 x13_3).f2))), .int .i64 t231, .int .u8 0] 48 (0, 0))) := ⟨(by rw [hw]; exact (by (with_reducible repeat (first | refine blk_drewN ?_ _ | refine blk_drew ?_ | refine blk_alloc ?_ _)); refine blk_put (cs := #[.int .i64 ((rd_T50 l0 (rd y221 x11_2)).f1), .int .i64 (wrap64 (x227001_3 + ((rd_T50 l0 x13_3).f2))), .int .i64 x227002_3, .int .u8 0]) ?_ 2 _ rfl; (with_reducible repeat (first | refine blk_drewN ?_ _ | refine blk_drew ?_ | refine blk_alloc ?_ _)); exact BK226.out))⟩; have n3_ : zA (Below w.heap.size w w47) := ⟨(by rw [hw]; exact (aL HB))⟩; clear hw; clear HO_8; clear HO_10; clear BK226; clear HB; have HO_8 := n0_; have HO_10 := n1_; have BK226 := n2_; have HB := n3_; clear n0_ n1_ n2_ n3_))
     go_roundg k3
     case measure => have := HK1.out; have := HK2.out; have := HK3.out; omega
     case rel => exact ⟨(wrap64 (x13_3 + 1)), (wrap64 (x227001_3 + ((rd_T50 l0 x13_3).f2))), (t231), aZ, H', ⟨by have := HK1.out; have := HK2.out; have := HK3.out; omega⟩, ⟨aR HO_8⟩, ⟨aR HO_10⟩, ⟨aB BK226⟩, ⟨aL HB⟩⟩
    rw [if_neg c27] at H; have c27b0 : decide (x13_3 < (rd y221 (ji24))) = false := decide_eq_false c27
    clear c27; by_cases c52 : 0 ≤ x11_2
    rotate_left
    ·rw [if_neg c52] at H
     exact absurd H (by simp)
    rw [if_pos c52] at H; have c52b0 : decide (0 ≤ x11_2) = true := decide_eq_true c52
    clear c52; by_cases c53 : x11_2 < (y221.length : Int)
    rotate_left
    ·rw [if_neg c53] at H
     exact absurd H (by simp)
    rw [if_pos c53] at H; have c53b0 : decide (x11_2 < (y221.length : Int)) = true := decide_eq_true c53
    clear c53; by_cases c54 : (rd y221 (ji24)) = (wrap64 ((rd y221 x11_2) + 1))
    rotate_left
    ·rw [if_neg c54] at H
     have c54b0 : ((rd y221 (ji24)) == (wrap64 ((rd y221 x11_2) + 1))) = false := beq_eq_false_iff_ne.mpr c54
     have c54b1 : ((rd y221 (ji24)) != (wrap64 ((rd y221 x11_2) + 1))) = true := bne_iff_ne.mpr c54
     by_cases c84 : x10_2.length < 4398046511104
     rotate_left
     ·rw [if_neg c84] at H
      exact absurd H (by simp)
     rw [if_pos c84] at H; have LMc84 := zA.mk c84; clear c84; obtain ⟨y252, hy252⟩ : ∃ y_ : List (S48), y_ = (x10_2 ++ [(⟨((rd_T50 l0 (rd y221 x11_2)).f1), x227001_3, x227002_3, 0⟩ : S48)]) := ⟨_, rfl⟩; replace H : (r0_Clusters.l1 k3 l0 l2 y221 y252 ji24) = some (r1, r2) := by first | (rw [hy252]; with_reducible exact H) | (have H2_ := (Option.bind_some _ _).symm.trans H; rw [hy252]; with_reducible exact H2_) | (have H2_ := (Option.bind_some _ _).symm.trans H; with_reducible exact H2_) | with_reducible exact H | (rw [hy252]; exact H) | exact H
     have Ny252 := zA.mk hy252; clear hy252; have H' := zA.mk H
     clear H; have p228 : 0 ≤ ((ji24) : Int) := aD
     have q228 : (ji24) < (y221.length : Int) := aD
     obtain ⟨ad228, e228, hx228_0⟩ := Kd.at_int (Kd.zI HO_8.out).2.2 (ji24) p228 q228; obtain rfl : ad224 = ad228 := (by injection e228)
     replace p228 := eq_true p228; replace q228 := eq_true q228; try go_wp2
     replace HO_8 := zA.mk (Kd.zD HO_8.out); replace HO_10 := zA.mk (Kd.zD HO_10.out); replace BK226 := zA.mk (blk_drew BK226.out); replace HB := zA.mk (below_drew1 HB.out); have p232 : 0 ≤ ((ji24) : Int) := aD
     have q232 : (ji24) < (y221.length : Int) := aD
     obtain ⟨ad232, e232, hx232_0⟩ := Kd.at_int (Kd.zI HO_8.out).2.2 (ji24) p232 q232; obtain rfl : ad224 = ad232 := (by injection e232)
     replace p232 := eq_true p232; replace q232 := eq_true q232; have p233 : 0 ≤ (x11_2 : Int) := aD
     have q233 : x11_2 < (y221.length : Int) := aD
     obtain ⟨ad233, e233, hx233_0⟩ := Kd.at_int (Kd.zI HO_8.out).2.2 x11_2 p233 q233; obtain rfl : ad224 = ad233 := (by injection e233)
     replace p233 := eq_true p233; replace q233 := eq_true q233; refine start_ (n := 11) (S := fun w' => w'.cell? (ad224.add ((ji24)).toNat) = some (.int .i64 (rd y221 (ji24))) ∧ w'.cell? (ad224.add (x11_2).toNat) = some (.int .i64 (rd y221 x11_2))) (ds := []) #[false, false, false, false, false, false, false, false, false, false, false] (by kernel_rfl) rfl rfl ⟨hx232_0, hx233_0⟩ (fun hHeld => ?_); refine with_tabW r0_Clusters.tab22 r0_Clusters.bits22 (fun HT_ HW_ => ?_)
     generalize wr.drew = w85 at HO_8 HO_10 BK226 HB hx232_0 hx233_0 hHeld ⊢
     refine aP 0 (some 98) (tf_ 1 11) HT_ ?_
     refine aP 1 (some 99) (tf_ 2 11) HT_ ?_
     refine aP 2 (some 100) (tf_ 3 11) HT_ ?_
     refine aP 3 (some 101) (tf_ 4 11) HT_ ?_
     refine aP 5 (some 103) (tb_ 47 11) HT_ ?_
     refine aP 6 (some 104) (tb_ 111 11) HT_ ?_
     refine aP 7 (some 105) (tb_ 239 11) HT_ ?_
     refine take_ (i := 4) (N := some 102) (v := ?_) (a' := ?_) (tf_ 8 11) rfl rfl (take_ofW HT_.out HW_.out (by kernel_rfl)) (fun _ _ _ h => h) (Or.inl ⟨by rfl, ?_⟩) hHeld ?_ ?_
     rotate_left
     ·rintro w' ⟨s0, s1⟩
      go_simp
      with_reducible rfl
     rotate_left
     ·simp only [Act.put, sA_, sB_, sC_, i64_w, i32_w]
      rfl
     refine take_ (i := 8) (N := some 106) (v := ?_) (a' := ?_) (tf_ 9 11) rfl rfl (take_ofW HT_.out HW_.out (by kernel_rfl)) (fun _ _ _ h => h) (Or.inl ⟨by rfl, ?_⟩) hHeld ?_ ?_
     rotate_left
     ·rintro w' ⟨s0, s1⟩
      go_simp
      with_reducible rfl
     rotate_left
     ·simp only [Act.put, sA_, sB_, sC_, i64_w, i32_w]
      rfl
     refine aP 9 (some 107) (tf_ 10 11) HT_ ?_
     refine aP 10 (some 108) (tb_ 2047 11) HT_ ?_
     refine done_ (done_of HT_.out (by kernel_rfl)) ?_
     obtain ⟨hcz86_0, hcz86_1, hcz86_2, hcz86_3, hfz86_0, hfz86_1, hfz86_2, hfz86_3⟩ := aC4 BK226; try go_wp2_with (first | ((with_reducible refine gate_builtin (b := .append) (xs := #[.tmp 129, .tmp 131]) rfl ?_); (try (refine gate_guard (by rfl) ?_; dsimp only)); at_builtin; refine Kd.R_append k48 (w0 := w) w.heap.size rfl (.tmp 129) (.tmp 131) 34 48 (.agg #[(.int .i64 0), (.int .i64 0), (.int .i64 0), (.int .u8 0)]) 32 rfl Try.underlying34 info48 rfl (by decide) (by omega) u10 x10_2 (⟨((rd_T50 l0 (rd y221 x11_2)).f1), x227001_3, x227002_3, 0⟩ : S48) [.int .i64 ((rd_T50 l0 (rd y221 x11_2)).f1), .int .i64 x227001_3, .int .i64 x227002_3, .int .u8 0] (fun k_ => k_ ≠ gb226) (fun _ => False) rfl rfl ?aP (fun _ hk => hk.elim) ?aF ?aO ?aB ?aS ?aL ?_; (case aP => exact k48_mkM _ _ _ (⟨((rd_T50 l0 (rd y221 x11_2)).f1), x227001_3, x227002_3, 0⟩ : S48)); (case aB => exact (aL HB)); (case aF => exact (fun k_ hk => Kd.freshB (g := gb226) (o := .cells #[.int .i64 ((rd_T50 l0 (rd y221 x11_2)).f1), .int .i64 x227001_3, .int .i64 x227002_3, .int .u8 0] 48 (0, 0)) (aB BK226) k_ hk)); (case aO => exact (aR HO_10)); (case aS => exact (below_size (aL HB))); (case aL => have := LMc84.out; omega); intro v253 w87 ho hb hg hat; rw [← Ny252.out] at ho; replace HO_8 := zA.mk (Kd.R_over' (aR HO_8) (Kd.R_typed (aR HO_10)) (by decide) hg); replace BK226 := zA.mk (blk_grown (g := gb226) (o := .cells #[.int .i64 ((rd_T50 l0 (rd y221 x11_2)).f1), .int .i64 x227001_3, .int .i64 x227002_3, .int .u8 0] 48 (0, 0)) (aB BK226) hg (Kd.R_away HO_10.out (fun _ hk => hk))); replace HB := zA.mk (hb); have HO254 := zA.mk (ho); clear HO_10; clear ho hb hg hat))
     go_roundg k3
     case measure => have := HK1.out; have := HK2.out; have := HK3.out; omega
     case rel => exact ⟨(y252), (ji24), (by first | rfl | (simp; done) | (simp only [← hji24, ← hji24] <;> (first | rfl | simp)) | (simp [*]; done)), H', ⟨by have := HK1.out; have := HK2.out; have := HK3.out; omega⟩, ⟨aR HO_8⟩, ⟨by (with_reducible repeat (first | apply Kd.zB | apply Kd.zC | apply Kd.zD)); exact Kd.zN HO254.out (fun _ hk => trivial)⟩, ⟨aL HB⟩⟩
    rw [if_pos c54] at H; have c54b0 : ((rd y221 (ji24)) == (wrap64 ((rd y221 x11_2) + 1))) = true := beq_iff_eq.mpr c54
    have c54b1 : ((rd y221 (ji24)) != (wrap64 ((rd y221 x11_2) + 1))) = false := bne_eq_false_iff_eq.mpr c54
    clear c54; by_cases c55 : 0 ≤ (rd y221 x11_2)
    rotate_left
    ·rw [if_neg c55] at H
     exact absurd H (by simp)
    rw [if_pos c55] at H; have c55b0 : decide (0 ≤ (rd y221 x11_2)) = true := decide_eq_true c55
    clear c55; by_cases c56 : (rd y221 x11_2) < (l0.length : Int)
    rotate_left
    ·rw [if_neg c56] at H
     exact absurd H (by simp)
    rw [if_pos c56] at H; have c56b0 : decide ((rd y221 x11_2) < (l0.length : Int)) = true := decide_eq_true c56
    clear c56; by_cases c57 : ((rd_T50 l0 (rd y221 x11_2)).f0) = 32
    rotate_left
    ·rw [if_neg c57] at H
     have c57b0 : (((rd_T50 l0 (rd y221 x11_2)).f0) == 32) = false := beq_eq_false_iff_ne.mpr c57
     have c57b1 : (((rd_T50 l0 (rd y221 x11_2)).f0) != 32) = true := bne_iff_ne.mpr c57
     by_cases c73 : ((rd_T50 l0 (rd y221 x11_2)).f0) = 9
     rotate_left
     ·rw [if_neg c73] at H
      have c73b0 : (((rd_T50 l0 (rd y221 x11_2)).f0) == 9) = false := beq_eq_false_iff_ne.mpr c73
      have c73b1 : (((rd_T50 l0 (rd y221 x11_2)).f0) != 9) = true := bne_iff_ne.mpr c73
      by_cases c80 : x10_2.length < 4398046511104
      rotate_left
      ·rw [if_neg c80] at H
       exact absurd H (by simp)
      rw [if_pos c80] at H; have LMc80 := zA.mk c80; clear c80; obtain ⟨y249, hy249⟩ : ∃ y_ : List (S48), y_ = (x10_2 ++ [(⟨((rd_T50 l0 (rd y221 x11_2)).f1), x227001_3, x227002_3, 0⟩ : S48)]) := ⟨_, rfl⟩; replace H : (r0_Clusters.l1 k3 l0 l2 y221 y249 ji24) = some (r1, r2) := by first | (rw [hy249]; with_reducible exact H) | (have H2_ := (Option.bind_some _ _).symm.trans H; rw [hy249]; with_reducible exact H2_) | (have H2_ := (Option.bind_some _ _).symm.trans H; with_reducible exact H2_) | with_reducible exact H | (rw [hy249]; exact H) | exact H
      have Ny249 := zA.mk hy249; clear hy249; have H' := zA.mk H
      clear H; have p228 : 0 ≤ ((ji24) : Int) := aD
      have q228 : (ji24) < (y221.length : Int) := aD
      obtain ⟨ad228, e228, hx228_0⟩ := Kd.at_int (Kd.zI HO_8.out).2.2 (ji24) p228 q228; obtain rfl : ad224 = ad228 := (by injection e228)
      replace p228 := eq_true p228; replace q228 := eq_true q228; try go_wp2
      replace HO_8 := zA.mk (Kd.zD HO_8.out); replace HO_10 := zA.mk (Kd.zD HO_10.out); replace BK226 := zA.mk (blk_drew BK226.out); replace HB := zA.mk (below_drew1 HB.out); have p232 : 0 ≤ ((ji24) : Int) := aD
      have q232 : (ji24) < (y221.length : Int) := aD
      obtain ⟨ad232, e232, hx232_0⟩ := Kd.at_int (Kd.zI HO_8.out).2.2 (ji24) p232 q232; obtain rfl : ad224 = ad232 := (by injection e232)
      replace p232 := eq_true p232; replace q232 := eq_true q232; have p233 : 0 ≤ (x11_2 : Int) := aD
      have q233 : x11_2 < (y221.length : Int) := aD
      obtain ⟨ad233, e233, hx233_0⟩ := Kd.at_int (Kd.zI HO_8.out).2.2 x11_2 p233 q233; obtain rfl : ad224 = ad233 := (by injection e233)
      replace p233 := eq_true p233; replace q233 := eq_true q233; refine start_ (n := 11) (S := fun w' => w'.cell? (ad224.add ((ji24)).toNat) = some (.int .i64 (rd y221 (ji24))) ∧ w'.cell? (ad224.add (x11_2).toNat) = some (.int .i64 (rd y221 x11_2))) (ds := []) #[false, false, false, false, false, false, false, false, false, false, false] (by kernel_rfl) rfl rfl ⟨hx232_0, hx233_0⟩ (fun hHeld => ?_); refine with_tabW r0_Clusters.tab22 r0_Clusters.bits22 (fun HT_ HW_ => ?_)
      generalize wr.drew = w81 at HO_8 HO_10 BK226 HB hx232_0 hx233_0 hHeld ⊢
      refine aP 0 (some 98) (tf_ 1 11) HT_ ?_
      refine aP 1 (some 99) (tf_ 2 11) HT_ ?_
      refine aP 2 (some 100) (tf_ 3 11) HT_ ?_
      refine aP 3 (some 101) (tf_ 4 11) HT_ ?_
      refine aP 5 (some 103) (tb_ 47 11) HT_ ?_
      refine aP 6 (some 104) (tb_ 111 11) HT_ ?_
      refine aP 7 (some 105) (tb_ 239 11) HT_ ?_
      refine take_ (i := 4) (N := some 102) (v := ?_) (a' := ?_) (tf_ 8 11) rfl rfl (take_ofW HT_.out HW_.out (by kernel_rfl)) (fun _ _ _ h => h) (Or.inl ⟨by rfl, ?_⟩) hHeld ?_ ?_
      rotate_left
      ·rintro w' ⟨s0, s1⟩
       go_simp
       with_reducible rfl
      rotate_left
      ·simp only [Act.put, sA_, sB_, sC_, i64_w, i32_w]
       rfl
      refine take_ (i := 8) (N := some 106) (v := ?_) (a' := ?_) (tf_ 9 11) rfl rfl (take_ofW HT_.out HW_.out (by kernel_rfl)) (fun _ _ _ h => h) (Or.inl ⟨by rfl, ?_⟩) hHeld ?_ ?_
      rotate_left
      ·rintro w' ⟨s0, s1⟩
       go_simp
       with_reducible rfl
      rotate_left
      ·simp only [Act.put, sA_, sB_, sC_, i64_w, i32_w]
       rfl
      refine aP 9 (some 107) (tf_ 10 11) HT_ ?_
      refine aP 10 (some 108) (tb_ 2047 11) HT_ ?_
      refine done_ (done_of HT_.out (by kernel_rfl)) ?_
      have p234 : 0 ≤ (x11_2 : Int) := aD
      have q234 : x11_2 < (y221.length : Int) := aD
      obtain ⟨ad234, e234, hx234_0⟩ := Kd.at_int (Kd.zI HO_8.out).2.2 x11_2 p234 q234; obtain rfl : ad224 = ad234 := (by injection e234)
      replace p234 := eq_true p234; replace q234 := eq_true q234; have p235 : 0 ≤ ((rd y221 x11_2) : Int) := aD
      have q235 : (rd y221 x11_2) < (l0.length : Int) := aD
      obtain ⟨ad235, e235, hx235_0, hx235_1, hx235_2⟩ := at_T50 HR0.out (rd y221 x11_2) p235 q235; obtain rfl : ad225 = ad235 := (by injection e235)
      replace hx235_0 := (HB.out.cell (World.block_lt_of_cell? w _ hx235_0)).trans hx235_0; replace hx235_1 := (HB.out.cell (World.block_lt_of_cell? w _ hx235_1)).trans hx235_1; replace hx235_2 := (HB.out.cell (World.block_lt_of_cell? w _ hx235_2)).trans hx235_2; replace p235 := eq_true p235; replace q235 := eq_true q235; have p244 : 0 ≤ (x11_2 : Int) := aD
      have q244 : x11_2 < (y221.length : Int) := aD
      obtain ⟨ad244, e244, hx244_0⟩ := Kd.at_int (Kd.zI HO_8.out).2.2 x11_2 p244 q244; obtain rfl : ad224 = ad244 := (by injection e244)
      replace p244 := eq_true p244; replace q244 := eq_true q244; have p245 : 0 ≤ ((rd y221 x11_2) : Int) := aD
      have q245 : (rd y221 x11_2) < (l0.length : Int) := aD
      obtain ⟨ad245, e245, hx245_0, hx245_1, hx245_2⟩ := at_T50 HR0.out (rd y221 x11_2) p245 q245; obtain rfl : ad225 = ad245 := (by injection e245)
      replace hx245_0 := (HB.out.cell (World.block_lt_of_cell? w _ hx245_0)).trans hx245_0; replace hx245_1 := (HB.out.cell (World.block_lt_of_cell? w _ hx245_1)).trans hx245_1; replace hx245_2 := (HB.out.cell (World.block_lt_of_cell? w _ hx245_2)).trans hx245_2; replace p245 := eq_true p245; replace q245 := eq_true q245; obtain ⟨hcz82_0, hcz82_1, hcz82_2, hcz82_3, hfz82_0, hfz82_1, hfz82_2, hfz82_3⟩ := aC4 BK226; try go_wp2_with (first | ((with_reducible refine gate_builtin (b := .append) (xs := #[.tmp 129, .tmp 131]) rfl ?_); (try (refine gate_guard (by rfl) ?_; dsimp only)); at_builtin; refine Kd.R_append k48 (w0 := w) w.heap.size rfl (.tmp 129) (.tmp 131) 34 48 (.agg #[(.int .i64 0), (.int .i64 0), (.int .i64 0), (.int .u8 0)]) 32 rfl Try.underlying34 info48 rfl (by decide) (by omega) u10 x10_2 (⟨((rd_T50 l0 (rd y221 x11_2)).f1), x227001_3, x227002_3, 0⟩ : S48) [.int .i64 ((rd_T50 l0 (rd y221 x11_2)).f1), .int .i64 x227001_3, .int .i64 x227002_3, .int .u8 0] (fun k_ => k_ ≠ gb226) (fun _ => False) rfl rfl ?aP (fun _ hk => hk.elim) ?aF ?aO ?aB ?aS ?aL ?_; (case aP => exact k48_mkM _ _ _ (⟨((rd_T50 l0 (rd y221 x11_2)).f1), x227001_3, x227002_3, 0⟩ : S48)); (case aB => exact (aL HB)); (case aF => exact (fun k_ hk => Kd.freshB (g := gb226) (o := .cells #[.int .i64 ((rd_T50 l0 (rd y221 x11_2)).f1), .int .i64 x227001_3, .int .i64 x227002_3, .int .u8 0] 48 (0, 0)) (aB BK226) k_ hk)); (case aO => exact (aR HO_10)); (case aS => exact (below_size (aL HB))); (case aL => have := LMc80.out; omega); intro v250 w83 ho hb hg hat; rw [← Ny249.out] at ho; replace HO_8 := zA.mk (Kd.R_over' (aR HO_8) (Kd.R_typed (aR HO_10)) (by decide) hg); replace BK226 := zA.mk (blk_grown (g := gb226) (o := .cells #[.int .i64 ((rd_T50 l0 (rd y221 x11_2)).f1), .int .i64 x227001_3, .int .i64 x227002_3, .int .u8 0] 48 (0, 0)) (aB BK226) hg (Kd.R_away HO_10.out (fun _ hk => hk))); replace HB := zA.mk (hb); have HO251 := zA.mk (ho); clear HO_10; clear ho hb hg hat))
      go_roundg k3
      case measure => have := HK1.out; have := HK2.out; have := HK3.out; omega
      case rel => exact ⟨(y249), (ji24), (by first | rfl | (simp; done) | (simp only [← hji24, ← hji24] <;> (first | rfl | simp)) | (simp [*]; done)), H', ⟨by have := HK1.out; have := HK2.out; have := HK3.out; omega⟩, ⟨aR HO_8⟩, ⟨by (with_reducible repeat (first | apply Kd.zB | apply Kd.zC | apply Kd.zD)); exact Kd.zN HO251.out (fun _ hk => trivial)⟩, ⟨aL HB⟩⟩
     rw [if_pos c73] at H; have c73b0 : (((rd_T50 l0 (rd y221 x11_2)).f0) == 9) = true := beq_iff_eq.mpr c73
     have c73b1 : (((rd_T50 l0 (rd y221 x11_2)).f0) != 9) = false := bne_eq_false_iff_eq.mpr c73
     clear c73; by_cases c74 : x10_2.length < 4398046511104
     rotate_left
     ·rw [if_neg c74] at H
      exact absurd H (by simp)
     rw [if_pos c74] at H; have LMc74 := zA.mk c74; clear c74; obtain ⟨y246, hy246⟩ : ∃ y_ : List (S48), y_ = (x10_2 ++ [(⟨((rd_T50 l0 (rd y221 x11_2)).f1), x227001_3, x227002_3, 2⟩ : S48)]) := ⟨_, rfl⟩; replace H : (r0_Clusters.l1 k3 l0 l2 y221 y246 ji24) = some (r1, r2) := by first | (rw [hy246]; with_reducible exact H) | (have H2_ := (Option.bind_some _ _).symm.trans H; rw [hy246]; with_reducible exact H2_) | (have H2_ := (Option.bind_some _ _).symm.trans H; with_reducible exact H2_) | with_reducible exact H | (rw [hy246]; exact H) | exact H
     have Ny246 := zA.mk hy246; clear hy246; have H' := zA.mk H
     clear H; have p228 : 0 ≤ ((ji24) : Int) := aD
     have q228 : (ji24) < (y221.length : Int) := aD
     obtain ⟨ad228, e228, hx228_0⟩ := Kd.at_int (Kd.zI HO_8.out).2.2 (ji24) p228 q228; obtain rfl : ad224 = ad228 := (by injection e228)
     replace p228 := eq_true p228; replace q228 := eq_true q228; try go_wp2
     replace HO_8 := zA.mk (Kd.zD HO_8.out); replace HO_10 := zA.mk (Kd.zD HO_10.out); replace BK226 := zA.mk (blk_drew BK226.out); replace HB := zA.mk (below_drew1 HB.out); have p232 : 0 ≤ ((ji24) : Int) := aD
     have q232 : (ji24) < (y221.length : Int) := aD
     obtain ⟨ad232, e232, hx232_0⟩ := Kd.at_int (Kd.zI HO_8.out).2.2 (ji24) p232 q232; obtain rfl : ad224 = ad232 := (by injection e232)
     replace p232 := eq_true p232; replace q232 := eq_true q232; have p233 : 0 ≤ (x11_2 : Int) := aD
     have q233 : x11_2 < (y221.length : Int) := aD
     obtain ⟨ad233, e233, hx233_0⟩ := Kd.at_int (Kd.zI HO_8.out).2.2 x11_2 p233 q233; obtain rfl : ad224 = ad233 := (by injection e233)
     replace p233 := eq_true p233; replace q233 := eq_true q233; refine start_ (n := 11) (S := fun w' => w'.cell? (ad224.add ((ji24)).toNat) = some (.int .i64 (rd y221 (ji24))) ∧ w'.cell? (ad224.add (x11_2).toNat) = some (.int .i64 (rd y221 x11_2))) (ds := []) #[false, false, false, false, false, false, false, false, false, false, false] (by kernel_rfl) rfl rfl ⟨hx232_0, hx233_0⟩ (fun hHeld => ?_); refine with_tabW r0_Clusters.tab22 r0_Clusters.bits22 (fun HT_ HW_ => ?_)
     generalize wr.drew = w75 at HO_8 HO_10 BK226 HB hx232_0 hx233_0 hHeld ⊢
     refine aP 0 (some 98) (tf_ 1 11) HT_ ?_
     refine aP 1 (some 99) (tf_ 2 11) HT_ ?_
     refine aP 2 (some 100) (tf_ 3 11) HT_ ?_
     refine aP 3 (some 101) (tf_ 4 11) HT_ ?_
     refine aP 5 (some 103) (tb_ 47 11) HT_ ?_
     refine aP 6 (some 104) (tb_ 111 11) HT_ ?_
     refine aP 7 (some 105) (tb_ 239 11) HT_ ?_
     refine take_ (i := 4) (N := some 102) (v := ?_) (a' := ?_) (tf_ 8 11) rfl rfl (take_ofW HT_.out HW_.out (by kernel_rfl)) (fun _ _ _ h => h) (Or.inl ⟨by rfl, ?_⟩) hHeld ?_ ?_
     rotate_left
     ·rintro w' ⟨s0, s1⟩
      go_simp
      with_reducible rfl
     rotate_left
     ·simp only [Act.put, sA_, sB_, sC_, i64_w, i32_w]
      rfl
     refine take_ (i := 8) (N := some 106) (v := ?_) (a' := ?_) (tf_ 9 11) rfl rfl (take_ofW HT_.out HW_.out (by kernel_rfl)) (fun _ _ _ h => h) (Or.inl ⟨by rfl, ?_⟩) hHeld ?_ ?_
     rotate_left
     ·rintro w' ⟨s0, s1⟩
      go_simp
      with_reducible rfl
     rotate_left
     ·simp only [Act.put, sA_, sB_, sC_, i64_w, i32_w]
      rfl
     refine aP 9 (some 107) (tf_ 10 11) HT_ ?_
     refine aP 10 (some 108) (tb_ 2047 11) HT_ ?_
     refine done_ (done_of HT_.out (by kernel_rfl)) ?_
     have p234 : 0 ≤ (x11_2 : Int) := aD
     have q234 : x11_2 < (y221.length : Int) := aD
     obtain ⟨ad234, e234, hx234_0⟩ := Kd.at_int (Kd.zI HO_8.out).2.2 x11_2 p234 q234; obtain rfl : ad224 = ad234 := (by injection e234)
     replace p234 := eq_true p234; replace q234 := eq_true q234; have p235 : 0 ≤ ((rd y221 x11_2) : Int) := aD
     have q235 : (rd y221 x11_2) < (l0.length : Int) := aD
     obtain ⟨ad235, e235, hx235_0, hx235_1, hx235_2⟩ := at_T50 HR0.out (rd y221 x11_2) p235 q235; obtain rfl : ad225 = ad235 := (by injection e235)
     replace hx235_0 := (HB.out.cell (World.block_lt_of_cell? w _ hx235_0)).trans hx235_0; replace hx235_1 := (HB.out.cell (World.block_lt_of_cell? w _ hx235_1)).trans hx235_1; replace hx235_2 := (HB.out.cell (World.block_lt_of_cell? w _ hx235_2)).trans hx235_2; replace p235 := eq_true p235; replace q235 := eq_true q235; have p244 : 0 ≤ (x11_2 : Int) := aD
     have q244 : x11_2 < (y221.length : Int) := aD
     obtain ⟨ad244, e244, hx244_0⟩ := Kd.at_int (Kd.zI HO_8.out).2.2 x11_2 p244 q244; obtain rfl : ad224 = ad244 := (by injection e244)
     replace p244 := eq_true p244; replace q244 := eq_true q244; have p245 : 0 ≤ ((rd y221 x11_2) : Int) := aD
     have q245 : (rd y221 x11_2) < (l0.length : Int) := aD
     obtain ⟨ad245, e245, hx245_0, hx245_1, hx245_2⟩ := at_T50 HR0.out (rd y221 x11_2) p245 q245; obtain rfl : ad225 = ad245 := (by injection e245)
     replace hx245_0 := (HB.out.cell (World.block_lt_of_cell? w _ hx245_0)).trans hx245_0; replace hx245_1 := (HB.out.cell (World.block_lt_of_cell? w _ hx245_1)).trans hx245_1; replace hx245_2 := (HB.out.cell (World.block_lt_of_cell? w _ hx245_2)).trans hx245_2; replace p245 := eq_true p245; replace q245 := eq_true q245; obtain ⟨hcz76_0, hcz76_1, hcz76_2, hcz76_3, hfz76_0, hfz76_1, hfz76_2, hfz76_3⟩ := aC4 BK226; try go_wp2_with (first | ((with_reducible refine gate_store (t := 46) (p := 128) rfl ?_); refine store_event (t := 46) (p := 128) (v := ?vo_w77) (w1 := (w75.setCell ⟨gb226, 3, none⟩ (.int .u8 2))) ?hg ?ho ?hn ?hr ?_; (case ho => rfl); (case hg => rfl); (case hn => rfl); (case hr => first | (go_simp; done) | (go_simp; rfl)); intro w77 hw; have n0_ : zA (Kd.R (Kd.int .i64) 3 w77 w.heap.size (fun _ => True) (.slice (some ad224) y221.length co20) y221) := ⟨(by rw [hw]; exact (by (with_reducible repeat (first | apply Kd.zB | apply Kd.zC | apply Kd.zD)); exact Kd.zN (Kd.zK (p := ⟨gb226, 3, none⟩) (Kd.zO HO_8.out BK226.out (by decide)) (fun _ hk => hk.2) (.int .u8 2)) (fun _ hk => trivial)))⟩; have n1_ : zA (Kd.R k48 48 w77 w.heap.size (fun k_ => k_ ≠ gb226) u10 x10_2) := ⟨(by rw [hw]; exact (by (with_reducible repeat (first | apply Kd.zB | apply Kd.zC | apply Kd.zD)); exact Kd.zN (Kd.zK (p := ⟨gb226, 3, none⟩) (Kd.zN HO_10.out (fun k_ hk => (⟨hk, hk⟩ : _ ∧ k_ ≠ gb226))) (fun _ hk => hk.2) (.int .u8 2)) (fun _ hk => hk.1)))⟩; have n2_ : zA (w77.heap[gb226]? = some (.cells #[.int .i64 ((rd_T50 l0 (rd y221 x11_2)).f1), .int .i64 x227001_3, .int .i64 x227002_3, .int .u8 2] 48 (0, 0))) := ⟨(by rw [hw]; exact (by (with_reducible repeat (first | refine blk_drewN ?_ _ | refine blk_drew ?_ | refine blk_alloc ?_ _)); refine blk_put (cs := #[.int .i64 ((rd_T50 l0 (rd y221 x11_2)).f1), .int .i64 x227001_3, .int .i64 x227002_3, .int .u8 0]) ?_ 3 _ rfl; (with_reducible repeat (first | refine blk_drewN ?_ _ | refine blk_drew ?_ | refine blk_alloc ?_ _)); exact BK226.out))⟩; have n3_ : zA (Below w.heap.size w w77) := ⟨(by rw [hw]; exact (aL HB))⟩; clear hw; clear HO_8; clear HO_10; clear BK226; clear HB; have HO_8 := n0_; have HO_10 := n1_; have BK226 := n2_; have HB := n3_; clear n0_ n1_ n2_ n3_; obtain ⟨hcz78_0, hcz78_1, hcz78_2, hcz78_3, hfz78_0, hfz78_1, hfz78_2, hfz78_3⟩ := aC4 BK226) | ((with_reducible refine gate_builtin (b := .append) (xs := #[.tmp 129, .tmp 131]) rfl ?_); (try (refine gate_guard (by rfl) ?_; dsimp only)); at_builtin; refine Kd.R_append k48 (w0 := w) w.heap.size rfl (.tmp 129) (.tmp 131) 34 48 (.agg #[(.int .i64 0), (.int .i64 0), (.int .i64 0), (.int .u8 0)]) 32 rfl Try.underlying34 info48 rfl (by decide) (by omega) u10 x10_2 (⟨((rd_T50 l0 (rd y221 x11_2)).f1), x227001_3, x227002_3, 2⟩ : S48) [.int .i64 ((rd_T50 l0 (rd y221 x11_2)).f1), .int .i64 x227001_3, .int .i64 x227002_3, .int .u8 2] (fun k_ => k_ ≠ gb226) (fun _ => False) rfl rfl ?aP (fun _ hk => hk.elim) ?aF ?aO ?aB ?aS ?aL ?_; (case aP => exact k48_mkM _ _ _ (⟨((rd_T50 l0 (rd y221 x11_2)).f1), x227001_3, x227002_3, 2⟩ : S48)); (case aB => exact (aL HB)); (case aF => exact (fun k_ hk => Kd.freshB (g := gb226) (o := .cells #[.int .i64 ((rd_T50 l0 (rd y221 x11_2)).f1), .int .i64 x227001_3, .int .i64 x227002_3, .int .u8 2] 48 (0, 0)) (aB BK226) k_ hk)); (case aO => exact (aR HO_10)); (case aS => exact (below_size (aL HB))); (case aL => have := LMc74.out; omega); intro v247 w79 ho hb hg hat; rw [← Ny246.out] at ho; replace HO_8 := zA.mk (Kd.R_over' (aR HO_8) (Kd.R_typed (aR HO_10)) (by decide) hg); replace BK226 := zA.mk (blk_grown (g := gb226) (o := .cells #[.int .i64 ((rd_T50 l0 (rd y221 x11_2)).f1), .int .i64 x227001_3, .int .i64 x227002_3, .int .u8 2] 48 (0, 0)) (aB BK226) hg (Kd.R_away HO_10.out (fun _ hk => hk))); replace HB := zA.mk (hb); have HO248 := zA.mk (ho); clear HO_10; clear ho hb hg hat))
     go_roundg k3
     case measure => have := HK1.out; have := HK2.out; have := HK3.out; omega
     case rel => exact ⟨(y246), (ji24), (by first | rfl | (simp; done) | (simp only [← hji24, ← hji24] <;> (first | rfl | simp)) | (simp [*]; done)), H', ⟨by have := HK1.out; have := HK2.out; have := HK3.out; omega⟩, ⟨aR HO_8⟩, ⟨by (with_reducible repeat (first | apply Kd.zB | apply Kd.zC | apply Kd.zD)); exact Kd.zN HO248.out (fun _ hk => trivial)⟩, ⟨aL HB⟩⟩
    rw [if_pos c57] at H; have c57b0 : (((rd_T50 l0 (rd y221 x11_2)).f0) == 32) = true := beq_iff_eq.mpr c57
    have c57b1 : (((rd_T50 l0 (rd y221 x11_2)).f0) != 32) = false := bne_eq_false_iff_eq.mpr c57
    clear c57; by_cases c58 : ((rd_T50 l0 (rd y221 x11_2)).f0) = 9
    rotate_left
    ·rw [if_neg c58] at H
     have c58b0 : (((rd_T50 l0 (rd y221 x11_2)).f0) == 9) = false := beq_eq_false_iff_ne.mpr c58
     have c58b1 : (((rd_T50 l0 (rd y221 x11_2)).f0) != 9) = true := bne_iff_ne.mpr c58
     by_cases c67 : x10_2.length < 4398046511104
     rotate_left
     ·rw [if_neg c67] at H
      exact absurd H (by simp)
     rw [if_pos c67] at H; have LMc67 := zA.mk c67; clear c67; obtain ⟨y241, hy241⟩ : ∃ y_ : List (S48), y_ = (x10_2 ++ [(⟨((rd_T50 l0 (rd y221 x11_2)).f1), x227001_3, x227002_3, 1⟩ : S48)]) := ⟨_, rfl⟩; replace H : (r0_Clusters.l1 k3 l0 l2 y221 y241 ji24) = some (r1, r2) := by first | (rw [hy241]; with_reducible exact H) | (have H2_ := (Option.bind_some _ _).symm.trans H; rw [hy241]; with_reducible exact H2_) | (have H2_ := (Option.bind_some _ _).symm.trans H; with_reducible exact H2_) | with_reducible exact H | (rw [hy241]; exact H) | exact H
     have Ny241 := zA.mk hy241; clear hy241; have H' := zA.mk H
     clear H; have p228 : 0 ≤ ((ji24) : Int) := aD
     have q228 : (ji24) < (y221.length : Int) := aD
     obtain ⟨ad228, e228, hx228_0⟩ := Kd.at_int (Kd.zI HO_8.out).2.2 (ji24) p228 q228; obtain rfl : ad224 = ad228 := (by injection e228)
     replace p228 := eq_true p228; replace q228 := eq_true q228; try go_wp2
     replace HO_8 := zA.mk (Kd.zD HO_8.out); replace HO_10 := zA.mk (Kd.zD HO_10.out); replace BK226 := zA.mk (blk_drew BK226.out); replace HB := zA.mk (below_drew1 HB.out); have p232 : 0 ≤ ((ji24) : Int) := aD
     have q232 : (ji24) < (y221.length : Int) := aD
     obtain ⟨ad232, e232, hx232_0⟩ := Kd.at_int (Kd.zI HO_8.out).2.2 (ji24) p232 q232; obtain rfl : ad224 = ad232 := (by injection e232)
     replace p232 := eq_true p232; replace q232 := eq_true q232; have p233 : 0 ≤ (x11_2 : Int) := aD
     have q233 : x11_2 < (y221.length : Int) := aD
     obtain ⟨ad233, e233, hx233_0⟩ := Kd.at_int (Kd.zI HO_8.out).2.2 x11_2 p233 q233; obtain rfl : ad224 = ad233 := (by injection e233)
     replace p233 := eq_true p233; replace q233 := eq_true q233; refine start_ (n := 11) (S := fun w' => w'.cell? (ad224.add ((ji24)).toNat) = some (.int .i64 (rd y221 (ji24))) ∧ w'.cell? (ad224.add (x11_2).toNat) = some (.int .i64 (rd y221 x11_2))) (ds := []) #[false, false, false, false, false, false, false, false, false, false, false] (by kernel_rfl) rfl rfl ⟨hx232_0, hx233_0⟩ (fun hHeld => ?_); refine with_tabW r0_Clusters.tab22 r0_Clusters.bits22 (fun HT_ HW_ => ?_)
     generalize wr.drew = w68 at HO_8 HO_10 BK226 HB hx232_0 hx233_0 hHeld ⊢
     refine aP 0 (some 98) (tf_ 1 11) HT_ ?_
     refine aP 1 (some 99) (tf_ 2 11) HT_ ?_
     refine aP 2 (some 100) (tf_ 3 11) HT_ ?_
     refine aP 3 (some 101) (tf_ 4 11) HT_ ?_
     refine aP 5 (some 103) (tb_ 47 11) HT_ ?_
     refine aP 6 (some 104) (tb_ 111 11) HT_ ?_
     refine aP 7 (some 105) (tb_ 239 11) HT_ ?_
     refine take_ (i := 4) (N := some 102) (v := ?_) (a' := ?_) (tf_ 8 11) rfl rfl (take_ofW HT_.out HW_.out (by kernel_rfl)) (fun _ _ _ h => h) (Or.inl ⟨by rfl, ?_⟩) hHeld ?_ ?_
     rotate_left
     ·rintro w' ⟨s0, s1⟩
      go_simp
      with_reducible rfl
     rotate_left
     ·simp only [Act.put, sA_, sB_, sC_, i64_w, i32_w]
      rfl
     refine take_ (i := 8) (N := some 106) (v := ?_) (a' := ?_) (tf_ 9 11) rfl rfl (take_ofW HT_.out HW_.out (by kernel_rfl)) (fun _ _ _ h => h) (Or.inl ⟨by rfl, ?_⟩) hHeld ?_ ?_
     rotate_left
     ·rintro w' ⟨s0, s1⟩
      go_simp
      with_reducible rfl
     rotate_left
     ·simp only [Act.put, sA_, sB_, sC_, i64_w, i32_w]
      rfl
     refine aP 9 (some 107) (tf_ 10 11) HT_ ?_
     refine aP 10 (some 108) (tb_ 2047 11) HT_ ?_
     refine done_ (done_of HT_.out (by kernel_rfl)) ?_
     have p234 : 0 ≤ (x11_2 : Int) := aD
     have q234 : x11_2 < (y221.length : Int) := aD
     obtain ⟨ad234, e234, hx234_0⟩ := Kd.at_int (Kd.zI HO_8.out).2.2 x11_2 p234 q234; obtain rfl : ad224 = ad234 := (by injection e234)
     replace p234 := eq_true p234; replace q234 := eq_true q234; have p235 : 0 ≤ ((rd y221 x11_2) : Int) := aD
     have q235 : (rd y221 x11_2) < (l0.length : Int) := aD
     obtain ⟨ad235, e235, hx235_0, hx235_1, hx235_2⟩ := at_T50 HR0.out (rd y221 x11_2) p235 q235; obtain rfl : ad225 = ad235 := (by injection e235)
     replace hx235_0 := (HB.out.cell (World.block_lt_of_cell? w _ hx235_0)).trans hx235_0; replace hx235_1 := (HB.out.cell (World.block_lt_of_cell? w _ hx235_1)).trans hx235_1; replace hx235_2 := (HB.out.cell (World.block_lt_of_cell? w _ hx235_2)).trans hx235_2; replace p235 := eq_true p235; replace q235 := eq_true q235; obtain ⟨hcz69_0, hcz69_1, hcz69_2, hcz69_3, hfz69_0, hfz69_1, hfz69_2, hfz69_3⟩ := aC4 BK226; try go_wp2_with (first | ((with_reducible refine gate_store (t := 46) (p := 118) rfl ?_); refine store_event (t := 46) (p := 118) (v := ?vo_w70) (w1 := (w68.setCell ⟨gb226, 3, none⟩ (.int .u8 1))) ?hg ?ho ?hn ?hr ?_; (case ho => rfl); (case hg => rfl); (case hn => rfl); (case hr => first | (go_simp; done) | (go_simp; rfl)); intro w70 hw; have n0_ : zA (Kd.R (Kd.int .i64) 3 w70 w.heap.size (fun _ => True) (.slice (some ad224) y221.length co20) y221) := ⟨(by rw [hw]; exact (by (with_reducible repeat (first | apply Kd.zB | apply Kd.zC | apply Kd.zD)); exact Kd.zN (Kd.zK (p := ⟨gb226, 3, none⟩) (Kd.zO HO_8.out BK226.out (by decide)) (fun _ hk => hk.2) (.int .u8 1)) (fun _ hk => trivial)))⟩; have n1_ : zA (Kd.R k48 48 w70 w.heap.size (fun k_ => k_ ≠ gb226) u10 x10_2) := ⟨(by rw [hw]; exact (by (with_reducible repeat (first | apply Kd.zB | apply Kd.zC | apply Kd.zD)); exact Kd.zN (Kd.zK (p := ⟨gb226, 3, none⟩) (Kd.zN HO_10.out (fun k_ hk => (⟨hk, hk⟩ : _ ∧ k_ ≠ gb226))) (fun _ hk => hk.2) (.int .u8 1)) (fun _ hk => hk.1)))⟩; have n2_ : zA (w70.heap[gb226]? = some (.cells #[.int .i64 ((rd_T50 l0 (rd y221 x11_2)).f1), .int .i64 x227001_3, .int .i64 x227002_3, .int .u8 1] 48 (0, 0))) := ⟨(by rw [hw]; exact (by (with_reducible repeat (first | refine blk_drewN ?_ _ | refine blk_drew ?_ | refine blk_alloc ?_ _)); refine blk_put (cs := #[.int .i64 ((rd_T50 l0 (rd y221 x11_2)).f1), .int .i64 x227001_3, .int .i64 x227002_3, .int .u8 0]) ?_ 3 _ rfl; (with_reducible repeat (first | refine blk_drewN ?_ _ | refine blk_drew ?_ | refine blk_alloc ?_ _)); exact BK226.out))⟩; have n3_ : zA (Below w.heap.size w w70) := ⟨(by rw [hw]; exact (aL HB))⟩; clear hw; clear HO_8; clear HO_10; clear BK226; clear HB; have HO_8 := n0_; have HO_10 := n1_; have BK226 := n2_; have HB := n3_; clear n0_ n1_ n2_ n3_; have p236 : 0 ≤ (x11_2 : Int) := aD; have q236 : x11_2 < (y221.length : Int) := aD; obtain ⟨ad236, e236, hx236_0⟩ := Kd.at_int (Kd.zI HO_8.out).2.2 x11_2 p236 q236; obtain rfl : ad224 = ad236 := (by injection e236); replace p236 := eq_true p236; replace q236 := eq_true q236; have p237 : 0 ≤ ((rd y221 x11_2) : Int) := aD; have q237 : (rd y221 x11_2) < (l0.length : Int) := aD; obtain ⟨ad237, e237, hx237_0, hx237_1, hx237_2⟩ := at_T50 HR0.out (rd y221 x11_2) p237 q237; obtain rfl : ad225 = ad237 := (by injection e237); replace hx237_0 := (HB.out.cell (World.block_lt_of_cell? w _ hx237_0)).trans hx237_0; replace hx237_1 := (HB.out.cell (World.block_lt_of_cell? w _ hx237_1)).trans hx237_1; replace hx237_2 := (HB.out.cell (World.block_lt_of_cell? w _ hx237_2)).trans hx237_2; replace p237 := eq_true p237; replace q237 := eq_true q237; obtain ⟨hcz71_0, hcz71_1, hcz71_2, hcz71_3, hfz71_0, hfz71_1, hfz71_2, hfz71_3⟩ := aC4 BK226) | ((with_reducible refine gate_builtin (b := .append) (xs := #[.tmp 129, .tmp 131]) rfl ?_); (try (refine gate_guard (by rfl) ?_; dsimp only)); at_builtin; refine Kd.R_append k48 (w0 := w) w.heap.size rfl (.tmp 129) (.tmp 131) 34 48 (.agg #[(.int .i64 0), (.int .i64 0), (.int .i64 0), (.int .u8 0)]) 32 rfl Try.underlying34 info48 rfl (by decide) (by omega) u10 x10_2 (⟨((rd_T50 l0 (rd y221 x11_2)).f1), x227001_3, x227002_3, 1⟩ : S48) [.int .i64 ((rd_T50 l0 (rd y221 x11_2)).f1), .int .i64 x227001_3, .int .i64 x227002_3, .int .u8 1] (fun k_ => k_ ≠ gb226) (fun _ => False) rfl rfl ?aP (fun _ hk => hk.elim) ?aF ?aO ?aB ?aS ?aL ?_; (case aP => exact k48_mkM _ _ _ (⟨((rd_T50 l0 (rd y221 x11_2)).f1), x227001_3, x227002_3, 1⟩ : S48)); (case aB => exact (aL HB)); (case aF => exact (fun k_ hk => Kd.freshB (g := gb226) (o := .cells #[.int .i64 ((rd_T50 l0 (rd y221 x11_2)).f1), .int .i64 x227001_3, .int .i64 x227002_3, .int .u8 1] 48 (0, 0)) (aB BK226) k_ hk)); (case aO => exact (aR HO_10)); (case aS => exact (below_size (aL HB))); (case aL => have := LMc67.out; omega); intro v242 w72 ho hb hg hat; rw [← Ny241.out] at ho; replace HO_8 := zA.mk (Kd.R_over' (aR HO_8) (Kd.R_typed (aR HO_10)) (by decide) hg); replace BK226 := zA.mk (blk_grown (g := gb226) (o := .cells #[.int .i64 ((rd_T50 l0 (rd y221 x11_2)).f1), .int .i64 x227001_3, .int .i64 x227002_3, .int .u8 1] 48 (0, 0)) (aB BK226) hg (Kd.R_away HO_10.out (fun _ hk => hk))); replace HB := zA.mk (hb); have HO243 := zA.mk (ho); clear HO_10; clear ho hb hg hat))
     go_roundg k3
     case measure => have := HK1.out; have := HK2.out; have := HK3.out; omega
     case rel => exact ⟨(y241), (ji24), (by first | rfl | (simp; done) | (simp only [← hji24, ← hji24] <;> (first | rfl | simp)) | (simp [*]; done)), H', ⟨by have := HK1.out; have := HK2.out; have := HK3.out; omega⟩, ⟨aR HO_8⟩, ⟨by (with_reducible repeat (first | apply Kd.zB | apply Kd.zC | apply Kd.zD)); exact Kd.zN HO243.out (fun _ hk => trivial)⟩, ⟨aL HB⟩⟩
    rw [if_pos c58] at H; have c58b0 : (((rd_T50 l0 (rd y221 x11_2)).f0) == 9) = true := beq_iff_eq.mpr c58
    have c58b1 : (((rd_T50 l0 (rd y221 x11_2)).f0) != 9) = false := bne_eq_false_iff_eq.mpr c58
    clear c58; by_cases c59 : x10_2.length < 4398046511104
    rotate_left
    ·rw [if_neg c59] at H
     exact absurd H (by simp)
    rw [if_pos c59] at H; have LMc59 := zA.mk c59; clear c59; obtain ⟨y238, hy238⟩ : ∃ y_ : List (S48), y_ = (x10_2 ++ [(⟨((rd_T50 l0 (rd y221 x11_2)).f1), x227001_3, x227002_3, 2⟩ : S48)]) := ⟨_, rfl⟩; replace H : (r0_Clusters.l1 k3 l0 l2 y221 y238 ji24) = some (r1, r2) := by first | (rw [hy238]; with_reducible exact H) | (have H2_ := (Option.bind_some _ _).symm.trans H; rw [hy238]; with_reducible exact H2_) | (have H2_ := (Option.bind_some _ _).symm.trans H; with_reducible exact H2_) | with_reducible exact H | (rw [hy238]; exact H) | exact H
    have Ny238 := zA.mk hy238; clear hy238; have H' := zA.mk H
    clear H; have p228 : 0 ≤ ((ji24) : Int) := aD
    have q228 : (ji24) < (y221.length : Int) := aD
    obtain ⟨ad228, e228, hx228_0⟩ := Kd.at_int (Kd.zI HO_8.out).2.2 (ji24) p228 q228; obtain rfl : ad224 = ad228 := (by injection e228)
    replace p228 := eq_true p228; replace q228 := eq_true q228; try go_wp2
    replace HO_8 := zA.mk (Kd.zD HO_8.out); replace HO_10 := zA.mk (Kd.zD HO_10.out); replace BK226 := zA.mk (blk_drew BK226.out); replace HB := zA.mk (below_drew1 HB.out); have p232 : 0 ≤ ((ji24) : Int) := aD
    have q232 : (ji24) < (y221.length : Int) := aD
    obtain ⟨ad232, e232, hx232_0⟩ := Kd.at_int (Kd.zI HO_8.out).2.2 (ji24) p232 q232; obtain rfl : ad224 = ad232 := (by injection e232)
    replace p232 := eq_true p232; replace q232 := eq_true q232; have p233 : 0 ≤ (x11_2 : Int) := aD
    have q233 : x11_2 < (y221.length : Int) := aD
    obtain ⟨ad233, e233, hx233_0⟩ := Kd.at_int (Kd.zI HO_8.out).2.2 x11_2 p233 q233; obtain rfl : ad224 = ad233 := (by injection e233)
    replace p233 := eq_true p233; replace q233 := eq_true q233; refine start_ (n := 11) (S := fun w' => w'.cell? (ad224.add ((ji24)).toNat) = some (.int .i64 (rd y221 (ji24))) ∧ w'.cell? (ad224.add (x11_2).toNat) = some (.int .i64 (rd y221 x11_2))) (ds := []) #[false, false, false, false, false, false, false, false, false, false, false] (by kernel_rfl) rfl rfl ⟨hx232_0, hx233_0⟩ (fun hHeld => ?_); refine with_tabW r0_Clusters.tab22 r0_Clusters.bits22 (fun HT_ HW_ => ?_)
    generalize wr.drew = w60 at HO_8 HO_10 BK226 HB hx232_0 hx233_0 hHeld ⊢
    refine aP 0 (some 98) (tf_ 1 11) HT_ ?_
    refine aP 1 (some 99) (tf_ 2 11) HT_ ?_
    refine aP 2 (some 100) (tf_ 3 11) HT_ ?_
    refine aP 3 (some 101) (tf_ 4 11) HT_ ?_
    refine aP 5 (some 103) (tb_ 47 11) HT_ ?_
    refine aP 6 (some 104) (tb_ 111 11) HT_ ?_
    refine aP 7 (some 105) (tb_ 239 11) HT_ ?_
    refine take_ (i := 4) (N := some 102) (v := ?_) (a' := ?_) (tf_ 8 11) rfl rfl (take_ofW HT_.out HW_.out (by kernel_rfl)) (fun _ _ _ h => h) (Or.inl ⟨by rfl, ?_⟩) hHeld ?_ ?_
    rotate_left
    ·rintro w' ⟨s0, s1⟩
     go_simp
     with_reducible rfl
    rotate_left
    ·simp only [Act.put, sA_, sB_, sC_, i64_w, i32_w]
     rfl
    refine take_ (i := 8) (N := some 106) (v := ?_) (a' := ?_) (tf_ 9 11) rfl rfl (take_ofW HT_.out HW_.out (by kernel_rfl)) (fun _ _ _ h => h) (Or.inl ⟨by rfl, ?_⟩) hHeld ?_ ?_
    rotate_left
    ·rintro w' ⟨s0, s1⟩
     go_simp
     with_reducible rfl
    rotate_left
    ·simp only [Act.put, sA_, sB_, sC_, i64_w, i32_w]
     rfl
    refine aP 9 (some 107) (tf_ 10 11) HT_ ?_
    refine aP 10 (some 108) (tb_ 2047 11) HT_ ?_
    refine done_ (done_of HT_.out (by kernel_rfl)) ?_
    have p234 : 0 ≤ (x11_2 : Int) := aD
    have q234 : x11_2 < (y221.length : Int) := aD
    obtain ⟨ad234, e234, hx234_0⟩ := Kd.at_int (Kd.zI HO_8.out).2.2 x11_2 p234 q234; obtain rfl : ad224 = ad234 := (by injection e234)
    replace p234 := eq_true p234; replace q234 := eq_true q234; have p235 : 0 ≤ ((rd y221 x11_2) : Int) := aD
    have q235 : (rd y221 x11_2) < (l0.length : Int) := aD
    obtain ⟨ad235, e235, hx235_0, hx235_1, hx235_2⟩ := at_T50 HR0.out (rd y221 x11_2) p235 q235; obtain rfl : ad225 = ad235 := (by injection e235)
    replace hx235_0 := (HB.out.cell (World.block_lt_of_cell? w _ hx235_0)).trans hx235_0; replace hx235_1 := (HB.out.cell (World.block_lt_of_cell? w _ hx235_1)).trans hx235_1; replace hx235_2 := (HB.out.cell (World.block_lt_of_cell? w _ hx235_2)).trans hx235_2; replace p235 := eq_true p235; replace q235 := eq_true q235; obtain ⟨hcz61_0, hcz61_1, hcz61_2, hcz61_3, hfz61_0, hfz61_1, hfz61_2, hfz61_3⟩ := aC4 BK226; try go_wp2_with (first | ((with_reducible refine gate_store (t := 46) (p := 118) rfl ?_); refine store_event (t := 46) (p := 118) (v := ?vo_w62) (w1 := (w60.setCell ⟨gb226, 3, none⟩ (.int .u8 1))) ?hg ?ho ?hn ?hr ?_; (case ho => rfl); (case hg => rfl); (case hn => rfl); (case hr => first | (go_simp; done) | (go_simp; rfl)); intro w62 hw; have n0_ : zA (Kd.R (Kd.int .i64) 3 w62 w.heap.size (fun _ => True) (.slice (some ad224) y221.length co20) y221) := ⟨(by rw [hw]; exact (by (with_reducible repeat (first | apply Kd.zB | apply Kd.zC | apply Kd.zD)); exact Kd.zN (Kd.zK (p := ⟨gb226, 3, none⟩) (Kd.zO HO_8.out BK226.out (by decide)) (fun _ hk => hk.2) (.int .u8 1)) (fun _ hk => trivial)))⟩; have n1_ : zA (Kd.R k48 48 w62 w.heap.size (fun k_ => k_ ≠ gb226) u10 x10_2) := ⟨(by rw [hw]; exact (by (with_reducible repeat (first | apply Kd.zB | apply Kd.zC | apply Kd.zD)); exact Kd.zN (Kd.zK (p := ⟨gb226, 3, none⟩) (Kd.zN HO_10.out (fun k_ hk => (⟨hk, hk⟩ : _ ∧ k_ ≠ gb226))) (fun _ hk => hk.2) (.int .u8 1)) (fun _ hk => hk.1)))⟩; have n2_ : zA (w62.heap[gb226]? = some (.cells #[.int .i64 ((rd_T50 l0 (rd y221 x11_2)).f1), .int .i64 x227001_3, .int .i64 x227002_3, .int .u8 1] 48 (0, 0))) := ⟨(by rw [hw]; exact (by (with_reducible repeat (first | refine blk_drewN ?_ _ | refine blk_drew ?_ | refine blk_alloc ?_ _)); refine blk_put (cs := #[.int .i64 ((rd_T50 l0 (rd y221 x11_2)).f1), .int .i64 x227001_3, .int .i64 x227002_3, .int .u8 0]) ?_ 3 _ rfl; (with_reducible repeat (first | refine blk_drewN ?_ _ | refine blk_drew ?_ | refine blk_alloc ?_ _)); exact BK226.out))⟩; have n3_ : zA (Below w.heap.size w w62) := ⟨(by rw [hw]; exact (aL HB))⟩; clear hw; clear HO_8; clear HO_10; clear BK226; clear HB; have HO_8 := n0_; have HO_10 := n1_; have BK226 := n2_; have HB := n3_; clear n0_ n1_ n2_ n3_; have p236 : 0 ≤ (x11_2 : Int) := aD; have q236 : x11_2 < (y221.length : Int) := aD; obtain ⟨ad236, e236, hx236_0⟩ := Kd.at_int (Kd.zI HO_8.out).2.2 x11_2 p236 q236; obtain rfl : ad224 = ad236 := (by injection e236); replace p236 := eq_true p236; replace q236 := eq_true q236; have p237 : 0 ≤ ((rd y221 x11_2) : Int) := aD; have q237 : (rd y221 x11_2) < (l0.length : Int) := aD; obtain ⟨ad237, e237, hx237_0, hx237_1, hx237_2⟩ := at_T50 HR0.out (rd y221 x11_2) p237 q237; obtain rfl : ad225 = ad237 := (by injection e237); replace hx237_0 := (HB.out.cell (World.block_lt_of_cell? w _ hx237_0)).trans hx237_0; replace hx237_1 := (HB.out.cell (World.block_lt_of_cell? w _ hx237_1)).trans hx237_1; replace hx237_2 := (HB.out.cell (World.block_lt_of_cell? w _ hx237_2)).trans hx237_2; replace p237 := eq_true p237; replace q237 := eq_true q237; obtain ⟨hcz63_0, hcz63_1, hcz63_2, hcz63_3, hfz63_0, hfz63_1, hfz63_2, hfz63_3⟩ := aC4 BK226) | ((with_reducible refine gate_store (t := 46) (p := 128) rfl ?_); refine store_event (t := 46) (p := 128) (v := ?vo_w64) (w1 := (w62.setCell ⟨gb226, 3, none⟩ (.int .u8 2))) ?hg ?ho ?hn ?hr ?_; (case ho => rfl); (case hg => rfl); (case hn => rfl); (case hr => first | (go_simp; done) | (go_simp; rfl)); intro w64 hw; have n0_ : zA (Kd.R (Kd.int .i64) 3 w64 w.heap.size (fun _ => True) (.slice (some ad224) y221.length co20) y221) := ⟨(by rw [hw]; exact (by (with_reducible repeat (first | apply Kd.zB | apply Kd.zC | apply Kd.zD)); exact Kd.zN (Kd.zK (p := ⟨gb226, 3, none⟩) (Kd.zO HO_8.out BK226.out (by decide)) (fun _ hk => hk.2) (.int .u8 2)) (fun _ hk => trivial)))⟩; have n1_ : zA (Kd.R k48 48 w64 w.heap.size (fun k_ => k_ ≠ gb226) u10 x10_2) := ⟨(by rw [hw]; exact (by (with_reducible repeat (first | apply Kd.zB | apply Kd.zC | apply Kd.zD)); exact Kd.zN (Kd.zK (p := ⟨gb226, 3, none⟩) (Kd.zN HO_10.out (fun k_ hk => (⟨hk, hk⟩ : _ ∧ k_ ≠ gb226))) (fun _ hk => hk.2) (.int .u8 2)) (fun _ hk => hk.1)))⟩; have n2_ : zA (w64.heap[gb226]? = some (.cells #[.int .i64 ((rd_T50 l0 (rd y221 x11_2)).f1), .int .i64 x227001_3, .int .i64 x227002_3, .int .u8 2] 48 (0, 0))) := ⟨(by rw [hw]; exact (by (with_reducible repeat (first | refine blk_drewN ?_ _ | refine blk_drew ?_ | refine blk_alloc ?_ _)); refine blk_put (cs := #[.int .i64 ((rd_T50 l0 (rd y221 x11_2)).f1), .int .i64 x227001_3, .int .i64 x227002_3, .int .u8 1]) ?_ 3 _ rfl; (with_reducible repeat (first | refine blk_drewN ?_ _ | refine blk_drew ?_ | refine blk_alloc ?_ _)); exact BK226.out))⟩; have n3_ : zA (Below w.heap.size w w64) := ⟨(by rw [hw]; exact (aL HB))⟩; clear hw; clear HO_8; clear HO_10; clear BK226; clear HB; have HO_8 := n0_; have HO_10 := n1_; have BK226 := n2_; have HB := n3_; clear n0_ n1_ n2_ n3_; obtain ⟨hcz65_0, hcz65_1, hcz65_2, hcz65_3, hfz65_0, hfz65_1, hfz65_2, hfz65_3⟩ := aC4 BK226) | ((with_reducible refine gate_builtin (b := .append) (xs := #[.tmp 129, .tmp 131]) rfl ?_); (try (refine gate_guard (by rfl) ?_; dsimp only)); at_builtin; refine Kd.R_append k48 (w0 := w) w.heap.size rfl (.tmp 129) (.tmp 131) 34 48 (.agg #[(.int .i64 0), (.int .i64 0), (.int .i64 0), (.int .u8 0)]) 32 rfl Try.underlying34 info48 rfl (by decide) (by omega) u10 x10_2 (⟨((rd_T50 l0 (rd y221 x11_2)).f1), x227001_3, x227002_3, 2⟩ : S48) [.int .i64 ((rd_T50 l0 (rd y221 x11_2)).f1), .int .i64 x227001_3, .int .i64 x227002_3, .int .u8 2] (fun k_ => k_ ≠ gb226) (fun _ => False) rfl rfl ?aP (fun _ hk => hk.elim) ?aF ?aO ?aB ?aS ?aL ?_; (case aP => exact k48_mkM _ _ _ (⟨((rd_T50 l0 (rd y221 x11_2)).f1), x227001_3, x227002_3, 2⟩ : S48)); (case aB => exact (aL HB)); (case aF => exact (fun k_ hk => Kd.freshB (g := gb226) (o := .cells #[.int .i64 ((rd_T50 l0 (rd y221 x11_2)).f1), .int .i64 x227001_3, .int .i64 x227002_3, .int .u8 2] 48 (0, 0)) (aB BK226) k_ hk)); (case aO => exact (aR HO_10)); (case aS => exact (below_size (aL HB))); (case aL => have := LMc59.out; omega); intro v239 w66 ho hb hg hat; rw [← Ny238.out] at ho; replace HO_8 := zA.mk (Kd.R_over' (aR HO_8) (Kd.R_typed (aR HO_10)) (by decide) hg); replace BK226 := zA.mk (blk_grown (g := gb226) (o := .cells #[.int .i64 ((rd_T50 l0 (rd y221 x11_2)).f1), .int .i64 x227001_3, .int .i64 x227002_3, .int .u8 2] 48 (0, 0)) (aB BK226) hg (Kd.R_away HO_10.out (fun _ hk => hk))); replace HB := zA.mk (hb); have HO240 := zA.mk (ho); clear HO_10; clear ho hb hg hat))
    go_roundg k3
    case measure => have := HK1.out; have := HK2.out; have := HK3.out; omega
    case rel => exact ⟨(y238), (ji24), (by first | rfl | (simp; done) | (simp only [← hji24, ← hji24] <;> (first | rfl | simp)) | (simp [*]; done)), H', ⟨by have := HK1.out; have := HK2.out; have := HK3.out; omega⟩, ⟨aR HO_8⟩, ⟨by (with_reducible repeat (first | apply Kd.zB | apply Kd.zC | apply Kd.zD)); exact Kd.zN HO240.out (fun _ hk => trivial)⟩, ⟨aL HB⟩⟩
attribute [local go_sem high] eqA48
def stanzalaw10_same.l0 : Nat → List (S48) → List (S48) → Int → Int → Option (Bool)
 | 0, _, _, _, _ => none
 | k + 1, x0, x1, x12, x13 => if x13 < x12 then (if 0 ≤ x13 then (if x13 < (x0.length : Int) then (if x13 < (x1.length : Int) then (if (!(((rd_T48 x0 x13).f0) == ((rd_T48 x1 x13).f0)) || (!(((rd_T48 x0 x13).f1) == ((rd_T48 x1 x13).f1)) || (!(((rd_T48 x0 x13).f2) == ((rd_T48 x1 x13).f2)) || (!(((rd_T48 x0 x13).f3) == ((rd_T48 x1 x13).f3)))))) = true then (some false) else (stanzalaw10_same.l0 k x0 x1 x12 (wrap64 (x13 + 1)))) else (none)) else (none)) else (none)) else (some true)
def stanzalaw10_same.f (k : Nat) (l0 : List (S48)) (l1 : List (S48)) : Option (Bool) := if (l0.length : Int) = (l1.length : Int) then (stanzalaw10_same.l0 k l0 l1 (l0.length : Int) 0) else (some false)
theorem stanzalaw10_same.mono_l : ∀ k, (∀ y0 y1 y2 y3, LeO (stanzalaw10_same.l0 k y0 y1 y2 y3) (stanzalaw10_same.l0 (k + 1) y0 y1 y2 y3))
 | 0 => fun _ _ _ _ r h => by simp [stanzalaw10_same.l0] at h
 | k + 1 => by
  have ih0 := stanzalaw10_same.mono_l k
  ·intro y0 y1 y2 y3
   unfold stanzalaw10_same.l0
   repeat' (with_reducible first | exact ih0 _ _ _ _ | exact LeO.refl _ | exact LeO.none _ | refine LeO.ite ?_ ?_ | refine LeO.bind ?_ (fun _ => ?_))
theorem stanzalaw10_same.mono : ∀ a0 a1 k, LeO (stanzalaw10_same.f k a0 a1) (stanzalaw10_same.f (k + 1) a0 a1) := by
 intro a0 a1 k
 have ih0 := stanzalaw10_same.mono_l k; unfold stanzalaw10_same.f
 repeat' (with_reducible first | exact ih0 _ _ _ _ | exact LeO.refl _ | exact LeO.none _ | refine LeO.ite ?_ ?_ | refine LeO.bind ?_ (fun _ => ?_))
set_option maxHeartbeats 8000000 in
set_option maxRecDepth 100000 in
theorem stanzalaw10_same.calls (k : Nat) (A0 : Option Addr) (c0 : Nat) (l0 : List (S48)) (A1 : Option Addr) (c1 : Nat) (l1 : List (S48)) (r : Bool) (w : World) (hr0 : Kd.C k48 w A0 l0.length l0) (hc0 : l0.length ≤ c0) (hr1 : Kd.C k48 w A1 l1.length l1) (hc1 : l1.length ≤ c1) (h : stanzalaw10_same.f k l0 l1 = some r) :
  Calls Try.prog 20 #[.slice A0 l0.length c0, .slice A1 l1.length c1] w fun e w' => e = .returned (.bool r) ∧ Drawn0 w w' := by
 have hu48 := Try.underlying48; have HR0 := zA.mk hr0; have HC0 := zA.mk hc0; clear hr0 hc0; have HR1 := zA.mk hr1; have HC1 := zA.mk hc1; clear hr1 hc1; have H : (if (l0.length : Int) = (l1.length : Int) then (stanzalaw10_same.l0 k l0 l1 (l0.length : Int) 0) else (some false)) = some r := h
 clear h; by_cases c3 : (l0.length : Int) = (l1.length : Int)
 rotate_left
 ·rw [if_neg c3] at H
  have c3b0 : ((l0.length : Int) == (l1.length : Int)) = false := beq_eq_false_iff_ne.mpr c3
  have c3b1 : ((l0.length : Int) != (l1.length : Int)) = true := bne_iff_ne.mpr c3
  have c3b2 : (l0.length == l1.length) = false := by first | simpa using c3 | (simp at c3 ⊢; omega)
  obtain rfl := Option.some.inj H
  go_enter Try.func20, Try.ntmps20
  go_wp2
  repeat (go_quiet (fail); try go_wp2)
  go_ret
  exact ⟨by first | rfl | (simp; done) | (simp [*]; done), by repeat (first | exact Drawn0.refl _ | apply Drawn0.step)⟩
 rw [if_pos c3] at H; have c3b0 : ((l0.length : Int) == (l1.length : Int)) = true := beq_iff_eq.mpr c3
 have c3b1 : ((l0.length : Int) != (l1.length : Int)) = false := bne_eq_false_iff_eq.mpr c3
 have c3b2 : (l0.length == l1.length) = true := by first | simpa using c3 | (simp at c3 ⊢; omega)
 clear c3; have H' := zA.mk H
 clear H; go_enter Try.func20, Try.ntmps20
 go_wp2
 repeat (go_quiet (fail); try go_wp2)
 go_loopg [13] k (fun kq v13 w' => ∃ (x13_1 : Int), v13 = .int .i64 x13_1 ∧ zA (stanzalaw10_same.l0 kq l0 l1 (l0.length : Int) x13_1 = some r) ∧ zA (kq ≤ k) ∧ Drawn0 w w')
 case atStart => exact ⟨(0), aZ, H', ⟨Nat.le_refl _⟩, by repeat (first | exact Drawn0.refl _ | apply Drawn0.step)⟩
 clear H'; obtain ⟨x13_1, rfl, HA, HK1, ⟨m1, rfl⟩⟩ := hrel; cases gk with
 | zero => exact absurd HA.out (by simp [stanzalaw10_same.l0])
 | succ k1 =>
  have H := HA.out; clear HA; simp only [stanzalaw10_same.l0] at H; by_cases c4 : x13_1 < (l0.length : Int)
  rotate_left
  ·rw [if_neg c4] at H
   have c4b0 : decide (x13_1 < (l0.length : Int)) = false := decide_eq_false c4
   clear c4; obtain rfl := Option.some.inj H
   go_wp2
   repeat (go_quiet (fail); try go_wp2)
   go_ret
   exact ⟨by first | rfl | (simp; done) | (simp [*]; done), by repeat (first | exact Drawn0.refl _ | apply Drawn0.step)⟩
  rw [if_pos c4] at H; have c4b0 : decide (x13_1 < (l0.length : Int)) = true := decide_eq_true c4
  clear c4; by_cases c5 : 0 ≤ x13_1
  rotate_left
  ·rw [if_neg c5] at H
   exact absurd H (by simp)
  rw [if_pos c5] at H; have c5b0 : decide (0 ≤ x13_1) = true := decide_eq_true c5
  clear c5; by_cases c6 : x13_1 < (l0.length : Int)
  rotate_left
  ·rw [if_neg c6] at H
   exact absurd H (by simp)
  rw [if_pos c6] at H; have c6b0 : decide (x13_1 < (l0.length : Int)) = true := decide_eq_true c6
  clear c6; by_cases c7 : x13_1 < (l1.length : Int)
  rotate_left
  ·rw [if_neg c7] at H
   exact absurd H (by simp)
  rw [if_pos c7] at H; have c7b0 : decide (x13_1 < (l1.length : Int)) = true := decide_eq_true c7
  clear c7; by_cases c8 : (!(((rd_T48 l0 x13_1).f0) == ((rd_T48 l1 x13_1).f0)) || (!(((rd_T48 l0 x13_1).f1) == ((rd_T48 l1 x13_1).f1)) || (!(((rd_T48 l0 x13_1).f2) == ((rd_T48 l1 x13_1).f2)) || (!(((rd_T48 l0 x13_1).f3) == ((rd_T48 l1 x13_1).f3)))))) = true
  ·rw [if_pos c8] at H
   have c8b0 : (!(((rd_T48 l0 x13_1).f0) == ((rd_T48 l1 x13_1).f0)) || (!(((rd_T48 l0 x13_1).f1) == ((rd_T48 l1 x13_1).f1)) || (!(((rd_T48 l0 x13_1).f2) == ((rd_T48 l1 x13_1).f2)) || (!(((rd_T48 l0 x13_1).f3) == ((rd_T48 l1 x13_1).f3)))))) = true := c8
   clear c8; obtain rfl := Option.some.inj H
   have p255 : 0 ≤ (x13_1 : Int) := aD
   have q255 : x13_1 < (l0.length : Int) := aD
   obtain ⟨ad255, e255, hx255_0, hx255_1, hx255_2, hx255_3⟩ := at_T48 HR0.out x13_1 p255 q255; cases e255
   replace p255 := eq_true p255; replace q255 := eq_true q255; have p256 : 0 ≤ (x13_1 : Int) := aD
   have q256 : x13_1 < (l1.length : Int) := aD
   obtain ⟨ad256, e256, hx256_0, hx256_1, hx256_2, hx256_3⟩ := at_T48 HR1.out x13_1 p256 q256; cases e256
   replace p256 := eq_true p256; replace q256 := eq_true q256; go_wp2
   repeat (go_quiet (fail); try go_wp2)
   go_ret
   exact ⟨by first | rfl | (simp; done) | (simp [*]; done), by repeat (first | exact Drawn0.refl _ | apply Drawn0.step)⟩
  rw [if_neg c8] at H; have c8b0 : (!(((rd_T48 l0 x13_1).f0) == ((rd_T48 l1 x13_1).f0)) || (!(((rd_T48 l0 x13_1).f1) == ((rd_T48 l1 x13_1).f1)) || (!(((rd_T48 l0 x13_1).f2) == ((rd_T48 l1 x13_1).f2)) || (!(((rd_T48 l0 x13_1).f3) == ((rd_T48 l1 x13_1).f3)))))) = false := by simpa using c8
  clear c8; have H' := zA.mk H
  clear H; have p255 : 0 ≤ (x13_1 : Int) := aD
  have q255 : x13_1 < (l0.length : Int) := aD
  obtain ⟨ad255, e255, hx255_0, hx255_1, hx255_2, hx255_3⟩ := at_T48 HR0.out x13_1 p255 q255; cases e255
  replace p255 := eq_true p255; replace q255 := eq_true q255; have p256 : 0 ≤ (x13_1 : Int) := aD
  have q256 : x13_1 < (l1.length : Int) := aD
  obtain ⟨ad256, e256, hx256_0, hx256_1, hx256_2, hx256_3⟩ := at_T48 HR1.out x13_1 p256 q256; cases e256
  replace p256 := eq_true p256; replace q256 := eq_true q256; go_wp2
  repeat (go_quiet (fail); try go_wp2)
  go_roundg k1
  case measure => have := HK1.out; omega
  case rel => exact ⟨(wrap64 (x13_1 + 1)), aZ, H', ⟨by have := HK1.out; omega⟩, by repeat (first | exact Drawn0.refl _ | apply Drawn0.step)⟩
def stanzaref01_SameInts.l0 : Nat → List Int → List Int → Int → Option (Bool)
 | 0, _, _, _ => none
 | k + 1, x0, x1, x5 => if x5 < (x0.length : Int) then (if 0 ≤ x5 then (if x5 < (x1.length : Int) then (if (rd x0 x5) = (rd x1 x5) then (stanzaref01_SameInts.l0 k x0 x1 (wrap64 (x5 + 1))) else (some false)) else (none)) else (none)) else (some true)
def stanzaref01_SameInts.f (k : Nat) (l0 : List Int) (l1 : List Int) : Option (Bool) := if (l0.length : Int) = (l1.length : Int) then (stanzaref01_SameInts.l0 k l0 l1 0) else (some false)
theorem stanzaref01_SameInts.mono_l : ∀ k, (∀ y0 y1 y2, LeO (stanzaref01_SameInts.l0 k y0 y1 y2) (stanzaref01_SameInts.l0 (k + 1) y0 y1 y2))
 | 0 => fun _ _ _ r h => by simp [stanzaref01_SameInts.l0] at h
 | k + 1 => by
  have ih0 := stanzaref01_SameInts.mono_l k
  ·intro y0 y1 y2
   unfold stanzaref01_SameInts.l0
   repeat' (with_reducible first | exact ih0 _ _ _ | exact LeO.refl _ | exact LeO.none _ | refine LeO.ite ?_ ?_ | refine LeO.bind ?_ (fun _ => ?_))
theorem stanzaref01_SameInts.mono : ∀ a0 a1 k, LeO (stanzaref01_SameInts.f k a0 a1) (stanzaref01_SameInts.f (k + 1) a0 a1) := by
 intro a0 a1 k
 have ih0 := stanzaref01_SameInts.mono_l k; unfold stanzaref01_SameInts.f
 repeat' (with_reducible first | exact ih0 _ _ _ | exact LeO.refl _ | exact LeO.none _ | refine LeO.ite ?_ ?_ | refine LeO.bind ?_ (fun _ => ?_))
set_option maxHeartbeats 8000000 in
set_option maxRecDepth 100000 in
theorem stanzaref01_SameInts.calls (k : Nat) (A0 : Option Addr) (c0 : Nat) (l0 : List Int) (A1 : Option Addr) (c1 : Nat) (l1 : List Int) (r : Bool) (w : World) (hr0 : Kd.C (Kd.int .i64) w A0 l0.length l0) (hc0 : l0.length ≤ c0) (hr1 : Kd.C (Kd.int .i64) w A1 l1.length l1) (hc1 : l1.length ≤ c1) (h : stanzaref01_SameInts.f k l0 l1 = some r) :
  Calls Try.prog 21 #[.slice A0 l0.length c0, .slice A1 l1.length c1] w fun e w' => e = .returned (.bool r) ∧ Drawn0 w w' := by
 have HR0 := zA.mk hr0; have HC0 := zA.mk hc0; clear hr0 hc0; have HR1 := zA.mk hr1; have HC1 := zA.mk hc1; clear hr1 hc1; have H : (if (l0.length : Int) = (l1.length : Int) then (stanzaref01_SameInts.l0 k l0 l1 0) else (some false)) = some r := h
 clear h; by_cases c3 : (l0.length : Int) = (l1.length : Int)
 rotate_left
 ·rw [if_neg c3] at H
  have c3b0 : ((l0.length : Int) == (l1.length : Int)) = false := beq_eq_false_iff_ne.mpr c3
  have c3b1 : ((l0.length : Int) != (l1.length : Int)) = true := bne_iff_ne.mpr c3
  have c3b2 : (l0.length == l1.length) = false := by first | simpa using c3 | (simp at c3 ⊢; omega)
  obtain rfl := Option.some.inj H
  go_enter Try.func21, Try.ntmps21
  go_wp2
  repeat (go_quiet (fail); try go_wp2)
  go_ret
  exact ⟨by first | rfl | (simp; done) | (simp [*]; done), by repeat (first | exact Drawn0.refl _ | apply Drawn0.step)⟩
 rw [if_pos c3] at H; have c3b0 : ((l0.length : Int) == (l1.length : Int)) = true := beq_iff_eq.mpr c3
 have c3b1 : ((l0.length : Int) != (l1.length : Int)) = false := bne_eq_false_iff_eq.mpr c3
 have c3b2 : (l0.length == l1.length) = true := by first | simpa using c3 | (simp at c3 ⊢; omega)
 clear c3; have H' := zA.mk H
 clear H; go_enter Try.func21, Try.ntmps21
 go_wp2
 repeat (go_quiet (fail); try go_wp2)
 go_loopg [5] k (fun kq v5 w' => ∃ (x5_1 : Int), v5 = .int .i64 x5_1 ∧ zA (stanzaref01_SameInts.l0 kq l0 l1 x5_1 = some r) ∧ zA (kq ≤ k) ∧ Drawn0 w w')
 case atStart => exact ⟨(0), aZ, H', ⟨Nat.le_refl _⟩, by repeat (first | exact Drawn0.refl _ | apply Drawn0.step)⟩
 clear H'; obtain ⟨x5_1, rfl, HA, HK1, ⟨m1, rfl⟩⟩ := hrel; cases gk with
 | zero => exact absurd HA.out (by simp [stanzaref01_SameInts.l0])
 | succ k1 =>
  have H := HA.out; clear HA; simp only [stanzaref01_SameInts.l0] at H; by_cases c4 : x5_1 < (l0.length : Int)
  rotate_left
  ·rw [if_neg c4] at H
   have c4b0 : decide (x5_1 < (l0.length : Int)) = false := decide_eq_false c4
   clear c4; obtain rfl := Option.some.inj H
   go_wp2
   repeat (go_quiet (fail); try go_wp2)
   go_ret
   exact ⟨by first | rfl | (simp; done) | (simp [*]; done), by repeat (first | exact Drawn0.refl _ | apply Drawn0.step)⟩
  rw [if_pos c4] at H; have c4b0 : decide (x5_1 < (l0.length : Int)) = true := decide_eq_true c4
  clear c4; by_cases c5 : 0 ≤ x5_1
  rotate_left
  ·rw [if_neg c5] at H
   exact absurd H (by simp)
  rw [if_pos c5] at H; have c5b0 : decide (0 ≤ x5_1) = true := decide_eq_true c5
  clear c5; by_cases c6 : x5_1 < (l1.length : Int)
  rotate_left
  ·rw [if_neg c6] at H
   exact absurd H (by simp)
  rw [if_pos c6] at H; have c6b0 : decide (x5_1 < (l1.length : Int)) = true := decide_eq_true c6
  clear c6; by_cases c7 : (rd l0 x5_1) = (rd l1 x5_1)
  rotate_left
  ·rw [if_neg c7] at H
   have c7b0 : ((rd l0 x5_1) == (rd l1 x5_1)) = false := beq_eq_false_iff_ne.mpr c7
   have c7b1 : ((rd l0 x5_1) != (rd l1 x5_1)) = true := bne_iff_ne.mpr c7
   obtain rfl := Option.some.inj H
   have p257 : 0 ≤ (x5_1 : Int) := aD
   have q257 : x5_1 < (l0.length : Int) := aD
   obtain ⟨ad257, e257, hx257_0⟩ := Kd.at_int HR0.out x5_1 p257 q257; cases e257
   replace p257 := eq_true p257; replace q257 := eq_true q257; have p258 : 0 ≤ (x5_1 : Int) := aD
   have q258 : x5_1 < (l1.length : Int) := aD
   obtain ⟨ad258, e258, hx258_0⟩ := Kd.at_int HR1.out x5_1 p258 q258; cases e258
   replace p258 := eq_true p258; replace q258 := eq_true q258; go_wp2
   repeat (go_quiet (fail); try go_wp2)
   go_ret
   exact ⟨by first | rfl | (simp; done) | (simp [*]; done), by repeat (first | exact Drawn0.refl _ | apply Drawn0.step)⟩
  rw [if_pos c7] at H; have c7b0 : ((rd l0 x5_1) == (rd l1 x5_1)) = true := beq_iff_eq.mpr c7
  have c7b1 : ((rd l0 x5_1) != (rd l1 x5_1)) = false := bne_eq_false_iff_eq.mpr c7
  clear c7; have H' := zA.mk H
  clear H; have p257 : 0 ≤ (x5_1 : Int) := aD
  have q257 : x5_1 < (l0.length : Int) := aD
  obtain ⟨ad257, e257, hx257_0⟩ := Kd.at_int HR0.out x5_1 p257 q257; cases e257
  replace p257 := eq_true p257; replace q257 := eq_true q257; have p258 : 0 ≤ (x5_1 : Int) := aD
  have q258 : x5_1 < (l1.length : Int) := aD
  obtain ⟨ad258, e258, hx258_0⟩ := Kd.at_int HR1.out x5_1 p258 q258; cases e258
  replace p258 := eq_true p258; replace q258 := eq_true q258; go_wp2
  repeat (go_quiet (fail); try go_wp2)
  go_roundg k1
  case measure => have := HK1.out; omega
  case rel => exact ⟨(wrap64 (x5_1 + 1)), aZ, H', ⟨by have := HK1.out; omega⟩, by repeat (first | exact Drawn0.refl _ | apply Drawn0.step)⟩
mutual
def stanzalaw10_CellsMakes.j0 : Nat → List Int → List Int → List Int → List (S45) → Bool → Option (Bool)
 | 0, _, _, _, _, _ => none
 | k + 1, x0, x1, x2, x3, x28 => if x28 = true then (some true) else ((stanzalaw02_Right.f k x3 5).bind fun t260 => (if prop_Make.c t260 5 = true then ((prop_MakeY.f t260 5).bind fun t265 => ((h3_Words.f k x1).bind fun t266 => ((some (([x0, t266] : List (List Int)) : List (List Int))).bind fun y269 => (stanzalaw10_CellsMakes.l0 k x2 t260 t265 y269 (y269.length : Int) 0)))) else ((prop_MakeN.f t260 5).bind fun _ => (some false))))
def stanzalaw10_CellsMakes.l0 : Nat → List Int → List (S45) → Option (List (Int × Int × Int)) → List (List Int) → Int → Int → Option (Bool)
 | 0, _, _, _, _, _, _ => none
 | k + 1, x2, x9, x10, x41, x42, x43 => if x43 < x42 then (if 0 ≤ x43 then (if x43 < (x41.length : Int) then ((stanzaref01_All.f k (rd_L8 x41 x43)).bind fun t273 => ((h3_Opps.f k x2).bind fun t276 => ((cells_Make.f k t273 t276 x10).bind fun bt279 => ((h3_Opps.f k x2).bind fun t285 => ((r0_Clusters.f k t273 t285 x9).bind fun bt288 => ((stanzalaw10_same.f k bt279.1 bt288.1).bind fun t294 => (if t294 = true then ((stanzaref01_SameInts.f k bt279.2 bt288.2).bind fun t295 => (if t295 = true then (stanzalaw10_CellsMakes.l0 k x2 x9 x10 x41 x42 (wrap64 (x43 + 1))) else (some false))) else (some false)))))))) else (none)) else (none)) else (some true)
end
def stanzalaw10_CellsMakes.f (k : Nat) (l0 : List Int) (l1 : List Int) (l2 : List Int) (l3 : List (S45)) : Option (Bool) := (stanzalaw10_Awake.f k).bind fun t259 => (if t259 = true then (if (l0.length : Int) > 2000 then (stanzalaw10_CellsMakes.j0 k l0 l1 l2 l3 true) else (stanzalaw10_CellsMakes.j0 k l0 l1 l2 l3 (decide ((l1.length : Int) > 500)))) else (some false))
theorem stanzalaw10_CellsMakes.mono_l : ∀ k, (∀ y0 y1 y2 y3 y4, LeO (stanzalaw10_CellsMakes.j0 k y0 y1 y2 y3 y4) (stanzalaw10_CellsMakes.j0 (k + 1) y0 y1 y2 y3 y4)) ∧ (∀ y0 y1 y2 y3 y4 y5, LeO (stanzalaw10_CellsMakes.l0 k y0 y1 y2 y3 y4 y5) (stanzalaw10_CellsMakes.l0 (k + 1) y0 y1 y2 y3 y4 y5))
 | 0 => ⟨fun _ _ _ _ _ r h => by simp [stanzalaw10_CellsMakes.j0] at h, fun _ _ _ _ _ _ r h => by simp [stanzalaw10_CellsMakes.l0] at h⟩
 | k + 1 => by
  obtain ⟨ih0, ih1⟩ := stanzalaw10_CellsMakes.mono_l k; refine ⟨?_, ?_⟩
  ·intro y0 y1 y2 y3 y4
   unfold stanzalaw10_CellsMakes.j0
   repeat' (with_reducible first | exact ih0 _ _ _ _ _ | exact ih1 _ _ _ _ _ _ | exact cells_Make.mono _ _ _ _ | exact h3_Opps.mono _ _ | exact h3_Words.mono _ _ | exact stanzalaw02_Right.mono _ _ _ | exact stanzalaw10_Awake.mono _ | exact stanzalaw10_same.mono _ _ _ | exact stanzaref01_All.mono _ _ | exact stanzaref01_SameInts.mono _ _ _ | exact r0_Clusters.mono _ _ _ _ | exact LeO.refl _ | exact LeO.none _ | refine LeO.ite ?_ ?_ | refine LeO.bind ?_ (fun _ => ?_))
  ·intro y0 y1 y2 y3 y4 y5
   unfold stanzalaw10_CellsMakes.l0
   repeat' (with_reducible first | exact ih0 _ _ _ _ _ | exact ih1 _ _ _ _ _ _ | exact cells_Make.mono _ _ _ _ | exact h3_Opps.mono _ _ | exact h3_Words.mono _ _ | exact stanzalaw02_Right.mono _ _ _ | exact stanzalaw10_Awake.mono _ | exact stanzalaw10_same.mono _ _ _ | exact stanzaref01_All.mono _ _ | exact stanzaref01_SameInts.mono _ _ _ | exact r0_Clusters.mono _ _ _ _ | exact LeO.refl _ | exact LeO.none _ | refine LeO.ite ?_ ?_ | refine LeO.bind ?_ (fun _ => ?_))
theorem stanzalaw10_CellsMakes.mono : ∀ a0 a1 a2 a3 k, LeO (stanzalaw10_CellsMakes.f k a0 a1 a2 a3) (stanzalaw10_CellsMakes.f (k + 1) a0 a1 a2 a3) := by
 intro a0 a1 a2 a3 k
 obtain ⟨ih0, ih1⟩ := stanzalaw10_CellsMakes.mono_l k; unfold stanzalaw10_CellsMakes.f
 repeat' (with_reducible first | exact ih0 _ _ _ _ _ | exact ih1 _ _ _ _ _ _ | exact cells_Make.mono _ _ _ _ | exact h3_Opps.mono _ _ | exact h3_Words.mono _ _ | exact stanzalaw02_Right.mono _ _ _ | exact stanzalaw10_Awake.mono _ | exact stanzalaw10_same.mono _ _ _ | exact stanzaref01_All.mono _ _ | exact stanzaref01_SameInts.mono _ _ _ | exact r0_Clusters.mono _ _ _ _ | exact LeO.refl _ | exact LeO.none _ | refine LeO.ite ?_ ?_ | refine LeO.bind ?_ (fun _ => ?_))
set_option maxHeartbeats 8000000 in
set_option maxRecDepth 100000 in
theorem stanzalaw10_CellsMakes.calls (k : Nat) (P0_ : Nat → Prop) (A0 : Option Addr) (c0 : Nat) (l0 : List Int) (A1 : Option Addr) (c1 : Nat) (l1 : List Int) (A2 : Option Addr) (c2 : Nat) (l2 : List Int) (A3 : Option Addr) (c3 : Nat) (l3 : List (S45)) (r : Bool) (w : World) (hs0 : Kd.V (Kd.int .u8) 5 w w.heap.size (fun k_ => P0_ k_) (.slice A0 l0.length c0) l0) (hr1 : Kd.C (Kd.int .u8) w A1 l1.length l1) (hc1 : l1.length ≤ c1) (hr2 : Kd.C (Kd.int .u8) w A2 l2.length l2) (hc2 : l2.length ≤ c2) (hr3 : Kd.C k45 w A3 l3.length l3) (hc3 : l3.length ≤ c3) (h : stanzalaw10_CellsMakes.f k l0 l1 l2 l3 = some r) (hrt_ : zA (r = true)) :
  Calls Try.prog 3 #[.slice A0 l0.length c0, .slice A1 l1.length c1, .slice A2 l2.length c2, .slice A3 l3.length c3] w fun e w' => e = .returned (.bool r) ∧ Below w.heap.size w w' := by
 have HO0 := zA.mk (show Kd.V (Kd.int .u8) 5 w w.heap.size (fun k_ => (P0_ k_ ∨ w.heap.size ≤ k_)) (.slice A0 l0.length c0) l0 from Kd.V_mono hs0 (fun k_ hk => .inl hk))
 have HR1 := zA.mk hr1; have HC1 := zA.mk hc1; clear hr1 hc1; have HR2 := zA.mk hr2; have HC2 := zA.mk hc2; clear hr2 hc2; have HR3 := zA.mk hr3; have HC3 := zA.mk hc3; clear hr3 hc3; have HB := zA.mk (Below.refl w.heap.size w); have H : ((stanzalaw10_Awake.f k).bind fun t259 => (if t259 = true then (if (l0.length : Int) > 2000 then (stanzalaw10_CellsMakes.j0 k l0 l1 l2 l3 true) else (stanzalaw10_CellsMakes.j0 k l0 l1 l2 l3 (decide ((l1.length : Int) > 500)))) else (some false))) = some r := h
 clear h; replace H := Option.bind_eq_some_iff.mp H; obtain ⟨t259, A50, H⟩ := H; replace H : (if t259 = true then (if (l0.length : Int) > 2000 then (stanzalaw10_CellsMakes.j0 k l0 l1 l2 l3 true) else (stanzalaw10_CellsMakes.j0 k l0 l1 l2 l3 (decide ((l1.length : Int) > 500)))) else (some false)) = some r := H; have A5 := zA.mk A50; clear A50; by_cases c6 : t259 = true
 rotate_left
 ·replace c6 := Bool.eq_false_iff.mpr c6
  subst c6; have H1 : (some false) = some r := by rw [if_neg (show ¬ (false = true) by decide)] at H; exact H
  clear H; have H := H1; clear H1; exact absurd ((Option.some.inj H).trans hrt_.out) (by decide)
 subst c6; have H1 : (if (l0.length : Int) > 2000 then (stanzalaw10_CellsMakes.j0 k l0 l1 l2 l3 true) else (stanzalaw10_CellsMakes.j0 k l0 l1 l2 l3 (decide ((l1.length : Int) > 500)))) = some r := by rw [if_pos rfl] at H; exact H
 clear H; have H := H1; clear H1; have HC7 := zA.mk H; clear H; go_enter Try.func3, Try.ntmps3
 go_upto_region 3 with (first | ((with_reducible refine gate_callee (f := 12) rfl ?_); refine goesL_ (some 19) rfl rfl Try.func12 (by kernel_rfl) rfl #[] rfl aT ?_; (with_reducible refine (stanzalaw10_Awake.calls k  true _ A5.out (by first | exact ⟨rfl⟩ | exact hrt_)).mono ?_); rintro e w8 ⟨rfl, hb⟩; refine ⟨_, rfl, ?_⟩; have n0_ := zA.mk (Kd.V_below (aV HO0) hb); have n1_ := zA.mk (below_step (aL HB) hb); clear HO0; clear HB; have HO0 := n0_; have HB := n1_; clear n0_ n1_; (try clear hb); (try clear hb2); (try clear hk); (try clear hi)))
 (try simp only [Act.put, sA_, sB_, sC_])
 go_cut [28] (fun v28 wc => ∃ (kq : Nat) (x28_6 : Bool), v28 = .bool x28_6 ∧ zA (stanzalaw10_CellsMakes.j0 kq l0 l1 l2 l3 x28_6 = some r) ∧ zA (kq ≤ k) ∧ zA (Kd.V (Kd.int .u8) 5 wc w.heap.size (fun k_ => (P0_ k_ ∨ w.heap.size ≤ k_)) (.slice A0 l0.length c0) l0) ∧ zA (Below w.heap.size w wc))
 case first =>
  have H := HC7.out; clear HC7; by_cases c9 : (l0.length : Int) > 2000
  ·rw [if_pos c9] at H
   have c9b0 : decide (2000 < (l0.length : Int)) = true := decide_eq_true c9
   have c9b1 : decide (2000 < l0.length) = true := decide_eq_true (by omega)
   clear c9; (first | rw [c9b0] | (simp only [i64_w, i32_w]; rw [c9b0]) | skip)
   have H' := zA.mk H
   clear H; go_wp2
   go_meet
   case rel => exact ⟨_, (true), aZ, H', ⟨by first | omega | exact Nat.le_refl _⟩, ⟨aV HO0⟩, ⟨aL HB⟩⟩
  rw [if_neg c9] at H; have c9b0 : decide (2000 < (l0.length : Int)) = false := decide_eq_false c9
  have c9b1 : decide (2000 < l0.length) = false := decide_eq_false (by omega)
  clear c9; (first | rw [c9b0] | (simp only [i64_w, i32_w]; rw [c9b0]) | skip)
  have H' := zA.mk H
  clear H; go_wp2
  go_meet
  case rel => exact ⟨_, (decide ((l1.length : Int) > 500)), aZ, H', ⟨by first | omega | exact Nat.le_refl _⟩, ⟨aV HO0⟩, ⟨aL HB⟩⟩
 clear HC7; try clear c1
 try clear c2
 try clear p2
 try clear c3
 try clear c6
 try clear c9
 try clear c9b0
 try clear c9b1
 obtain ⟨kq, x28_6, rfl, HA, HJ6, HO_0, HB⟩ := hcut; cases kq with
 | zero => exact absurd HA.out (by simp [stanzalaw10_CellsMakes.j0])
 | succ kj6 =>
  have H := HA.out; clear HA; simp only [stanzalaw10_CellsMakes.j0] at H; by_cases c10 : x28_6 = true
  ·subst c10
   have H1 : (some true) = some r := by rw [if_pos rfl] at H; exact H
   clear H; have H := H1; clear H1; obtain rfl := Option.some.inj H
   go_wp2
   go_ret
   exact ⟨aX, aL HB⟩
  replace c10 := Bool.eq_false_iff.mpr c10; subst c10; have H1 : ((stanzalaw02_Right.f kj6 l3 5).bind fun t260 => (if prop_Make.c t260 5 = true then ((prop_MakeY.f t260 5).bind fun t265 => ((h3_Words.f kj6 l1).bind fun t266 => ((some (([l0, t266] : List (List Int)) : List (List Int))).bind fun y269 => (stanzalaw10_CellsMakes.l0 kj6 l2 t260 t265 y269 (y269.length : Int) 0)))) else ((prop_MakeN.f t260 5).bind fun _ => (some false)))) = some r := by rw [if_neg (show ¬ (false = true) by decide)] at H; exact H
  clear H; have H := H1; clear H1; replace H := Option.bind_eq_some_iff.mp H; obtain ⟨t260, A110, H⟩ := H; replace H : (if prop_Make.c t260 5 = true then ((prop_MakeY.f t260 5).bind fun t265 => ((h3_Words.f kj6 l1).bind fun t266 => ((some (([l0, t266] : List (List Int)) : List (List Int))).bind fun y269 => (stanzalaw10_CellsMakes.l0 kj6 l2 t260 t265 y269 (y269.length : Int) 0)))) else ((prop_MakeN.f t260 5).bind fun _ => (some false))) = some r := H
  have A11 := zA.mk A110; clear A110; by_cases c12 : prop_Make.c t260 5 = true
  rotate_left
  ·rw [if_neg c12] at H
   have c12b0 : prop_Make.c t260 5 = false := by simpa using c12
   clear c12; replace H := Option.bind_eq_some_iff.mp H; obtain ⟨_, A470, H⟩ := H; replace H : (some false) = some r := H; have A47 := zA.mk A470; clear A470; exact absurd ((Option.some.inj H).trans hrt_.out) (by decide)
  rw [if_pos c12] at H; have c12b0 : prop_Make.c t260 5 = true := c12
  clear c12; replace H := Option.bind_eq_some_iff.mp H; obtain ⟨t265, A130, H⟩ := H; replace H : ((h3_Words.f kj6 l1).bind fun t266 => ((some (([l0, t266] : List (List Int)) : List (List Int))).bind fun y269 => (stanzalaw10_CellsMakes.l0 kj6 l2 t260 t265 y269 (y269.length : Int) 0))) = some r := H
  have A13 := zA.mk A130; clear A130; replace H := Option.bind_eq_some_iff.mp H; obtain ⟨t266, A140, H⟩ := H; replace H : ((some (([l0, t266] : List (List Int)) : List (List Int))).bind fun y269 => (stanzalaw10_CellsMakes.l0 kj6 l2 t260 t265 y269 (y269.length : Int) 0)) = some r := H
  have A14 := zA.mk A140; clear A140; obtain ⟨y269, hy269⟩ : ∃ y_ : List (List Int), y_ = (([l0, t266] : List (List Int))) := ⟨_, rfl⟩; replace H : (stanzalaw10_CellsMakes.l0 kj6 l2 t260 t265 y269 (y269.length : Int) 0) = some r := by first | (rw [hy269]; with_reducible exact H) | (have H2_ := (Option.bind_some _ _).symm.trans H; rw [hy269]; with_reducible exact H2_) | (have H2_ := (Option.bind_some _ _).symm.trans H; with_reducible exact H2_) | with_reducible exact H | (rw [hy269]; exact H) | exact H
  have Ny269 := zA.mk hy269; clear hy269; have H' := zA.mk H
  clear H; go_wp2_with (first | ((with_reducible refine gate_callee (f := 13) rfl ?_); refine goesL_ (some 30) rfl rfl Try.func13 (by kernel_rfl) rfl #[.slice A3 l3.length c3, .int .i64 5] rfl aT ?_; (with_reducible refine (stanzalaw02_Right.calls kj6 _ _ l3 5 t260 _ ?side1 ?side2 A11.out).mono ?_); (case side1 => exact aA HR3 HB); (case side2 => exact HC3.out); rintro e w15 ⟨v261, rfl, ho0, hb⟩; refine ⟨_, rfl, ?_⟩; have n0_ := zA.mk (Kd.V_elder' (aV HO_0) (Kd.R_base ho0) hb); have n1_ := zA.mk (Kd.zM (Kd.R_newM (M := fun k_ => (w.heap.size ≤ k_)) ho0 (below_size (aL HB)) (fun k_ h_ => h_)) (below_size (aL HB))); have n2_ := zA.mk (below_step (aL HB) hb); clear HO_0; clear HB; have HO_0 := n0_; have HO262 := n1_; have HB := n2_; clear n0_ n1_ n2_; (try clear hb); (try clear hb2); (try clear hk); (try clear hi); (try clear ho0); obtain ⟨Ao16, co16, eo16⟩ := Kd.zL HO262.out; subst eo16) | ((with_reducible refine gate_callee (f := 14) rfl ?_); refine goesL_ (some 33) rfl rfl Try.func14 (by kernel_rfl) rfl #[.slice Ao16 t260.length co16, .int .i64 5] rfl aT ?_; (with_reducible refine (prop_MakeY.calls _ _ t260 5 t265 _ ?side1 ?side2 A13.out).mono ?_); (case side1 => exact aF HO262); (case side2 => exact (Kd.zI HO262.out).2.1); rintro e w17 ⟨gb264, ob264, gb265, ob265, rfl, hx1, hx2, hg1, hg2, hne, htb, hb⟩; refine ⟨_, rfl, ?_⟩; have n0_ := zA.mk (Kd.V_below (Kd.V_elderB (Kd.V_elderB (aV HO_0) gb264 hg1) gb265 hg2) hb); have n1_ := zA.mk (Kd.zJ (Kd.R_elderB (Kd.R_elderB (aR HO262) gb264 hg1) gb265 hg2) hb); have n2_ := zA.mk (below_step (aL HB) hb); have n3_ := zA.mk (hx1); have n4_ := zA.mk ((Nat.le_trans (below_size (aL HB)) hg1 : w.heap.size ≤ gb264)); have n5_ := zA.mk ((Nat.le_trans (below_size (aL HB)) hg1 : w.heap.size ≤ gb264)); have n6_ := zA.mk (hne); have n7_ := zA.mk (hx2); have n8_ := zA.mk ((Nat.le_trans (below_size (aL HB)) hg2 : w.heap.size ≤ gb265)); have n9_ := zA.mk ((Nat.le_trans (below_size (aL HB)) hg2 : w.heap.size ≤ gb265)); have n10_ := zA.mk (Ne.symm hne); have n11_ := zA.mk (htb); clear HO_0; clear HO262; clear HB; have HO_0 := n0_; have HO262 := n1_; have HB := n2_; have BK264 := n3_; have GW264 := n4_; have GE264 := n5_; have NB264_265 := n6_; have BK265 := n7_; have GW265 := n8_; have GE265 := n9_; have NB265_264 := n10_; have HTt265 := n11_; clear n0_ n1_ n2_ n3_ n4_ n5_ n6_ n7_ n8_ n9_ n10_ n11_; clear hb hx1 hx2 hg1 hg2 hne htb) | ((with_reducible refine gate_callee (f := 15) rfl ?_); refine goesL_ (some 40) rfl rfl Try.func15 (by kernel_rfl) rfl #[.slice A1 l1.length c1] rfl aT ?_; (with_reducible refine (h3_Words.calls kj6 _ _ l1 t266 _ ?side1 ?side2 A14.out).mono ?_); (case side1 => exact aA HR1 HB); (case side2 => exact HC1.out); rintro e w18 ⟨v267, rfl, ho0, hb⟩; refine ⟨_, rfl, ?_⟩; have n0_ := zA.mk (Kd.V_elder' (aV HO_0) (Kd.R_base ho0) hb); have n1_ := zA.mk (Kd.zJ (aR HO262) hb); have n2_ := zA.mk (Kd.zM (Kd.R_newB (Kd.R_newB (Kd.R_newM (M := fun k_ => (w.heap.size ≤ k_)) ho0 (below_size (aL HB)) (fun k_ h_ => h_)) (g := gb264) (o := ob264) (aB BK264)) (g := gb265) (o := ob265) (aB BK265)) (below_size (aL HB))); have n3_ := zA.mk (blk_below (g := gb264) (o := ob264) (aB BK264) hb); have n4_ := zA.mk (blk_below (g := gb265) (o := ob265) (aB BK265) hb); have n5_ := zA.mk (below_step (aL HB) hb); clear HO_0; clear HO262; clear BK264; clear BK265; clear HB; have HO_0 := n0_; have HO262 := n1_; have HO268 := n2_; have BK264 := n3_; have BK265 := n4_; have HB := n5_; clear n0_ n1_ n2_ n3_ n4_ n5_; (try clear hb); (try clear hb2); (try clear hk); (try clear hi); (try clear ho0); obtain ⟨Ao19, co19, eo19⟩ := Kd.zL HO268.out; subst eo19) | ((with_reducible refine gate_dst (N := 41) rfl ?_); (try (refine gate_guard (by rfl) ?_; dsimp only)); refine Kd.N_lit (Kd.slice 5 (Kd.int .u8)) _ 22 ?hg (N' := 41) ?hd (xs := ([l0, t266] : List (List Int))) (inner := [.slice A0 l0.length c0, .slice Ao19 t266.length co19]) (ok := (fun k_ => (P0_ k_ ∨ w.heap.size ≤ k_) ∧ some k_ ≠ (.slice Ao16 t260.length co16 : Value).ownBlock ∧ k_ ≠ gb264 ∧ k_ ≠ gb265)) (okp := (fun k_ => (P0_ k_ ∨ w.heap.size ≤ k_) ∧ some k_ ≠ (.slice Ao16 t260.length co16 : Value).ownBlock ∧ k_ ≠ gb264 ∧ k_ ≠ gb265)) ?hr ?hp (fun _ hk => hk) ((show ∀ k_, w18.heap.size ≤ k_ → (fun k_ => (P0_ k_ ∨ w.heap.size ≤ k_) ∧ some k_ ≠ (.slice Ao16 t260.length co16 : Value).ownBlock ∧ k_ ≠ gb264 ∧ k_ ≠ gb265) k_ from fun k_ hk => ⟨(.inr (Nat.le_trans (below_size (aL HB)) hk)), Kd.fresh' (Kd.R_lt (aR HO262)) k_ hk, Kd.freshB (g := gb264) (o := ob264) (aB BK264) k_ hk, Kd.freshB (g := gb265) (o := ob265) (aB BK265) k_ hk⟩) _ (Nat.le_refl _)) (Below.refl _ _) (Nat.le_refl _) (by simp) ?_; (case hd => rfl); (case hg => rfl); (case hr => first | (go_simp; done) | (go_simp; rfl)); (case hp => exact (Reps.one (show Kd.FK (Kd.slice 5 (Kd.int .u8)) _ _ l0 [.slice A0 l0.length c0] from (Kd.FK_slice_mk (Kd.V_reads' (Kd.V_mono (ok' := (fun k_ => (P0_ k_ ∨ w.heap.size ≤ k_) ∧ some k_ ≠ (.slice Ao16 t260.length co16 : Value).ownBlock ∧ k_ ≠ gb264 ∧ k_ ≠ gb265)) (HO_0.out) (fun k_ hk => ⟨hk.1.1.1.1, ⟨hk.1.1.1.2, ⟨hk.1.1.2, hk.1.2⟩⟩⟩))).2.1 (Kd.V_F (Kd.V_mono (ok' := (fun k_ => (P0_ k_ ∨ w.heap.size ≤ k_) ∧ some k_ ≠ (.slice Ao16 t260.length co16 : Value).ownBlock ∧ k_ ≠ gb264 ∧ k_ ≠ gb265)) (HO_0.out) (fun k_ hk => ⟨hk.1.1.1.1, ⟨hk.1.1.1.2, ⟨hk.1.1.2, hk.1.2⟩⟩⟩))))) (Reps.one (show Kd.FK (Kd.slice 5 (Kd.int .u8)) _ _ t266 [.slice Ao19 t266.length co19] from (Kd.FK_slice_mk (Kd.zI (Kd.zN (ok' := (fun k_ => (P0_ k_ ∨ w.heap.size ≤ k_) ∧ some k_ ≠ (.slice Ao16 t260.length co16 : Value).ownBlock ∧ k_ ≠ gb264 ∧ k_ ≠ gb265)) (Kd.R_apart' (HO268.out) (Kd.R_typed HO262.out) (by decide)) (fun k_ hk => ⟨(.inr (hk.1.1.1.1)), ⟨hk.2, ⟨hk.1.1.2, hk.1.2⟩⟩⟩))).2.1 (Kd.R_F (Kd.zN (ok' := (fun k_ => (P0_ k_ ∨ w.heap.size ≤ k_) ∧ some k_ ≠ (.slice Ao16 t260.length co16 : Value).ownBlock ∧ k_ ≠ gb264 ∧ k_ ≠ gb265)) (Kd.R_apart' (HO268.out) (Kd.R_typed HO262.out) (by decide)) (fun k_ hk => ⟨(.inr (hk.1.1.1.1)), ⟨hk.2, ⟨hk.1.1.2, hk.1.2⟩⟩⟩))))) (Reps.none _ _)))); intro v270 w20 ho21 hb hg_ hnew_; clear hg_ hnew_; (first | rw [← Ny269.out] at ho21 | (simp only [Int.reduceToNat] at ho21; rw [← Ny269.out] at ho21)); have n0_ := zA.mk (Kd.V_elder' (aV HO_0) (Kd.N_base ho21) hb); have n1_ := zA.mk (Kd.zJ (aR HO262) hb); have n2_ := zA.mk (Kd.N_lower ho21 (below_size (aL HB))); have n3_ := zA.mk (blk_below (g := gb264) (o := ob264) (aB BK264) hb); have n4_ := zA.mk (blk_below (g := gb265) (o := ob265) (aB BK265) hb); have n5_ := zA.mk (below_step (aL HB) hb); clear HO_0; clear HO262; clear BK264; clear BK265; clear HB; clear HO268; have HO_0 := n0_; have HO262 := n1_; have HO271 := n2_; have BK264 := n3_; have BK265 := n4_; have HB := n5_; clear n0_ n1_ n2_ n3_ n4_ n5_; clear hb ho21; obtain ⟨Ao22, co22, eo22⟩ := Kd.N_slice HO271.out; subst eo22))
  go_loopg [43] kj6 (fun kq v43 w' => ∃ (x43_2 : Int), v43 = .int .i64 x43_2 ∧ zA (stanzalaw10_CellsMakes.l0 kq l2 t260 t265 y269 (y269.length : Int) x43_2 = some r) ∧ zA (kq ≤ kj6) ∧ zA (Kd.R k45 45 w' w.heap.size (fun k_ => (w.heap.size ≤ k_) ∧ k_ ≠ gb264 ∧ k_ ≠ gb265) (.slice Ao16 t260.length co16) t260) ∧ zA (Kd.N (Kd.slice 5 (Kd.int .u8)) 22 w' w.heap.size (fun k_ => (P0_ k_ ∨ w.heap.size ≤ k_) ∧ some k_ ≠ ((.slice Ao16 t260.length co16) : Value).ownBlock ∧ k_ ≠ gb264 ∧ k_ ≠ gb265) (.slice Ao22 y269.length co22) y269) ∧ zA (w'.heap[gb264]? = some ob264) ∧ zA (w'.heap[gb265]? = some ob265) ∧ zA (Below w.heap.size w w'))
  case atStart => exact ⟨(0), aZ, H', ⟨Nat.le_refl _⟩, ⟨by (with_reducible repeat (first | apply Kd.zB | apply Kd.zC | apply Kd.zD)); exact Kd.zN HO262.out (fun _ hk => ⟨hk.1.1.1, ⟨hk.1.2, hk.2⟩⟩)⟩, ⟨aN HO271⟩, ⟨aB BK264⟩, ⟨aB BK265⟩, ⟨aL HB⟩⟩
  clear H'; try clear c1
  try clear hx1
  try clear c2
  try clear p2
  try clear hx2
  try clear c3
  try clear c6
  try clear c9
  try clear c9b0
  try clear c9b1
  try clear c10
  try clear c12
  try clear c12b0
  try clear c13
  try clear c14
  try clear c15
  try clear p2
  obtain ⟨x43_2, rfl, HA, HK2, HO_9, HO_41, BK264, BK265, HB⟩ := hrel; cases gk with
  | zero => exact absurd HA.out (by simp [stanzalaw10_CellsMakes.l0])
  | succ k2 =>
   have H := HA.out; clear HA; simp only [stanzalaw10_CellsMakes.l0] at H; by_cases c23 : x43_2 < (y269.length : Int)
   rotate_left
   ·rw [if_neg c23] at H
    have c23b0 : decide (x43_2 < (y269.length : Int)) = false := decide_eq_false c23
    clear c23; obtain rfl := Option.some.inj H
    go_wp2
    go_ret
    exact ⟨aX, aL HB⟩
   rw [if_pos c23] at H; have c23b0 : decide (x43_2 < (y269.length : Int)) = true := decide_eq_true c23
   clear c23; by_cases c24 : 0 ≤ x43_2
   rotate_left
   ·rw [if_neg c24] at H
    exact absurd H (by simp)
   rw [if_pos c24] at H; have c24b0 : decide (0 ≤ x43_2) = true := decide_eq_true c24
   clear c24; by_cases c25 : x43_2 < (y269.length : Int)
   rotate_left
   ·rw [if_neg c25] at H
    exact absurd H (by simp)
   rw [if_pos c25] at H; have c25b0 : decide (x43_2 < (y269.length : Int)) = true := decide_eq_true c25
   clear c25; replace H := Option.bind_eq_some_iff.mp H; obtain ⟨t273, A260, H⟩ := H; replace H : ((h3_Opps.f k2 l2).bind fun t276 => ((cells_Make.f k2 t273 t276 t265).bind fun bt279 => ((h3_Opps.f k2 l2).bind fun t285 => ((r0_Clusters.f k2 t273 t285 t260).bind fun bt288 => ((stanzalaw10_same.f k2 bt279.1 bt288.1).bind fun t294 => (if t294 = true then ((stanzaref01_SameInts.f k2 bt279.2 bt288.2).bind fun t295 => (if t295 = true then (stanzalaw10_CellsMakes.l0 k2 l2 t260 t265 y269 (y269.length : Int) (wrap64 (x43_2 + 1))) else (some false))) else (some false))))))) = some r := H
   have A26 := zA.mk A260; clear A260; replace H := Option.bind_eq_some_iff.mp H; obtain ⟨t276, A270, H⟩ := H; replace H : ((cells_Make.f k2 t273 t276 t265).bind fun bt279 => ((h3_Opps.f k2 l2).bind fun t285 => ((r0_Clusters.f k2 t273 t285 t260).bind fun bt288 => ((stanzalaw10_same.f k2 bt279.1 bt288.1).bind fun t294 => (if t294 = true then ((stanzaref01_SameInts.f k2 bt279.2 bt288.2).bind fun t295 => (if t295 = true then (stanzalaw10_CellsMakes.l0 k2 l2 t260 t265 y269 (y269.length : Int) (wrap64 (x43_2 + 1))) else (some false))) else (some false)))))) = some r := H
   have A27 := zA.mk A270; clear A270; replace H := Option.bind_eq_some_iff.mp H; obtain ⟨⟨t279, t280⟩, A280, H⟩ := H; replace H : ((h3_Opps.f k2 l2).bind fun t285 => ((r0_Clusters.f k2 t273 t285 t260).bind fun bt288 => ((stanzalaw10_same.f k2 t279 bt288.1).bind fun t294 => (if t294 = true then ((stanzaref01_SameInts.f k2 t280 bt288.2).bind fun t295 => (if t295 = true then (stanzalaw10_CellsMakes.l0 k2 l2 t260 t265 y269 (y269.length : Int) (wrap64 (x43_2 + 1))) else (some false))) else (some false))))) = some r := H
   have A28 := zA.mk A280; clear A280; replace H := Option.bind_eq_some_iff.mp H; obtain ⟨t285, A290, H⟩ := H; replace H : ((r0_Clusters.f k2 t273 t285 t260).bind fun bt288 => ((stanzalaw10_same.f k2 t279 bt288.1).bind fun t294 => (if t294 = true then ((stanzaref01_SameInts.f k2 t280 bt288.2).bind fun t295 => (if t295 = true then (stanzalaw10_CellsMakes.l0 k2 l2 t260 t265 y269 (y269.length : Int) (wrap64 (x43_2 + 1))) else (some false))) else (some false)))) = some r := H
   have A29 := zA.mk A290; clear A290; replace H := Option.bind_eq_some_iff.mp H; obtain ⟨⟨t288, t289⟩, A300, H⟩ := H; replace H : ((stanzalaw10_same.f k2 t279 t288).bind fun t294 => (if t294 = true then ((stanzaref01_SameInts.f k2 t280 t289).bind fun t295 => (if t295 = true then (stanzalaw10_CellsMakes.l0 k2 l2 t260 t265 y269 (y269.length : Int) (wrap64 (x43_2 + 1))) else (some false))) else (some false))) = some r := H
   have A30 := zA.mk A300; clear A300; replace H := Option.bind_eq_some_iff.mp H; obtain ⟨t294, A310, H⟩ := H; replace H : (if t294 = true then ((stanzaref01_SameInts.f k2 t280 t289).bind fun t295 => (if t295 = true then (stanzalaw10_CellsMakes.l0 k2 l2 t260 t265 y269 (y269.length : Int) (wrap64 (x43_2 + 1))) else (some false))) else (some false)) = some r := H
   have A31 := zA.mk A310; clear A310; by_cases c32 : t294 = true
   rotate_left
   ·replace c32 := Bool.eq_false_iff.mpr c32
    subst c32; have H1 : (some false) = some r := by rw [if_neg (show ¬ (false = true) by decide)] at H; exact H
    clear H; have H := H1; clear H1; exact absurd ((Option.some.inj H).trans hrt_.out) (by decide)
   subst c32; have H1 : ((stanzaref01_SameInts.f k2 t280 t289).bind fun t295 => (if t295 = true then (stanzalaw10_CellsMakes.l0 k2 l2 t260 t265 y269 (y269.length : Int) (wrap64 (x43_2 + 1))) else (some false))) = some r := by rw [if_pos rfl] at H; exact H
   clear H; have H := H1; clear H1; replace H := Option.bind_eq_some_iff.mp H; obtain ⟨t295, A330, H⟩ := H; replace H : (if t295 = true then (stanzalaw10_CellsMakes.l0 k2 l2 t260 t265 y269 (y269.length : Int) (wrap64 (x43_2 + 1))) else (some false)) = some r := H; have A33 := zA.mk A330; clear A330; by_cases c34 : t295 = true
   rotate_left
   ·replace c34 := Bool.eq_false_iff.mpr c34
    subst c34; have H1 : (some false) = some r := by rw [if_neg (show ¬ (false = true) by decide)] at H; exact H
    clear H; have H := H1; clear H1; exact absurd ((Option.some.inj H).trans hrt_.out) (by decide)
   subst c34; have H1 : (stanzalaw10_CellsMakes.l0 k2 l2 t260 t265 y269 (y269.length : Int) (wrap64 (x43_2 + 1))) = some r := by rw [if_pos rfl] at H; exact H
   clear H; have H := H1; clear H1; have H' := zA.mk H
   clear H; have p272 : 0 ≤ (x43_2 : Int) := aD
   have q272 : x43_2 < (y269.length : Int) := aD
   obtain ⟨ad272, A272_0, c272_0, e272, hx272_0, hl272_0, hi272_0⟩ := at_L8 (Kd.N_reads' HO_41.out).2.2 x43_2 p272 q272; cases e272
   obtain ⟨ce272, hce272, hMe272, hcc272⟩ := Kd.N_get HO_41.out [] x43_2 p272 (by first | exact q272 | exact aD | (have e_ := (Kd.N_reads' HO_41.out).1; omega))
   obtain ⟨ua272_0, uc272_0, rfl, ul272_0, ge272_0⟩ := Kd.FK_slice_open hMe272; have hv272_0 := hcc272 0 _ rfl; rw [Nat.add_zero, show ((Kd.slice 5 (Kd.int .u8))).sz = 1 from rfl, Nat.mul_one] at hv272_0; replace hv272_0 := Option.some.inj (hv272_0.symm.trans hx272_0); injection hv272_0 with hva_ hvn_ hvc_
   rw [hva_] at ge272_0; rw [hvc_] at ul272_0; have HL272_0 := zA.mk (show Kd.V (Kd.int .u8) 5 _ w.heap.size _ _ (rd_L8 y269 x43_2) from Kd.V_mk ul272_0 ge272_0); clear hva_ hvn_ hvc_ ge272_0 ul272_0; clear hcc272 hce272; have HR272_0 := zA.mk hi272_0; have HC272_0 := zA.mk hl272_0; clear hi272_0 hl272_0; replace p272 := eq_true p272; replace q272 := eq_true q272; go_wp2_with (first | ((with_reducible refine gate_callee (f := 16) rfl ?_); refine goesL_ (some 48) rfl rfl Try.func16 (by kernel_rfl) rfl #[.slice A272_0 (rd_L8 y269 x43_2).length c272_0] rfl aT ?_; (with_reducible refine (stanzaref01_All.calls k2 _ _ (rd_L8 y269 x43_2) t273 _ ?side1 ?side2 A26.out).mono ?_); (case side1 => exact aH HR272_0); (case side2 => exact HC272_0.out); rintro e w35 ⟨v274, rfl, ho0, hb⟩; refine ⟨_, rfl, ?_⟩; have n0_ := zA.mk (Kd.zJ (aR HO_9) hb); have n1_ := zA.mk (Kd.N_elder' (aN HO_41) (Kd.R_base ho0) hb); have n2_ := zA.mk (Kd.V_elder' (aV HL272_0) (Kd.R_base ho0) hb); have n3_ := zA.mk (Kd.zM (Kd.R_newB (Kd.R_newB (Kd.R_newM (M := fun k_ => (w.heap.size ≤ k_)) ho0 (below_size (aL HB)) (fun k_ h_ => h_)) (g := gb264) (o := ob264) (aB BK264)) (g := gb265) (o := ob265) (aB BK265)) (below_size (aL HB))); have n4_ := zA.mk (blk_below (g := gb264) (o := ob264) (aB BK264) hb); have n5_ := zA.mk (blk_below (g := gb265) (o := ob265) (aB BK265) hb); have n6_ := zA.mk (Kd.zH (aH HR272_0) hb); have n7_ := zA.mk (below_step (aL HB) hb); clear HO_9; clear HO_41; clear HL272_0; clear BK264; clear BK265; clear HR272_0; clear HB; have HO_9 := n0_; have HO_41 := n1_; have HL272_0 := n2_; have HO275 := n3_; have BK264 := n4_; have BK265 := n5_; have HR272_0 := n6_; have HB := n7_; clear n0_ n1_ n2_ n3_ n4_ n5_ n6_ n7_; (try clear hb); (try clear hb2); (try clear hk); (try clear hi); (try clear ho0)) | ((with_reducible refine gate_callee (f := 18) rfl ?_); refine goesL_ (some 52) rfl rfl Try.func18 (by kernel_rfl) rfl #[.slice A2 l2.length c2] rfl aT ?_; (with_reducible refine (h3_Opps.calls k2 _ _ l2 t276 _ ?side1 ?side2 A27.out).mono ?_); (case side1 => exact aA HR2 HB); (case side2 => exact HC2.out); rintro e w36 ⟨v277, rfl, ho0, hb⟩; refine ⟨_, rfl, ?_⟩; have n0_ := zA.mk (Kd.zJ (aR HO_9) hb); have n1_ := zA.mk (Kd.N_elder' (aN HO_41) (Kd.R_base ho0) hb); have n2_ := zA.mk (Kd.V_elder' (aV HL272_0) (Kd.R_base ho0) hb); have n3_ := zA.mk (Kd.zJ (aR HO275) hb); have n4_ := zA.mk (Kd.zM (Kd.R_newB (Kd.R_newB (Kd.R_newM (M := fun k_ => (w.heap.size ≤ k_)) ho0 (below_size (aL HB)) (fun k_ h_ => h_)) (g := gb264) (o := ob264) (aB BK264)) (g := gb265) (o := ob265) (aB BK265)) (below_size (aL HB))); have n5_ := zA.mk (blk_below (g := gb264) (o := ob264) (aB BK264) hb); have n6_ := zA.mk (blk_below (g := gb265) (o := ob265) (aB BK265) hb); have n7_ := zA.mk (Kd.zH (aH HR272_0) hb); have n8_ := zA.mk (below_step (aL HB) hb); clear HO_9; clear HO_41; clear HL272_0; clear HO275; clear BK264; clear BK265; clear HR272_0; clear HB; have HO_9 := n0_; have HO_41 := n1_; have HL272_0 := n2_; have HO275 := n3_; have HO278 := n4_; have BK264 := n5_; have BK265 := n6_; have HR272_0 := n7_; have HB := n8_; clear n0_ n1_ n2_ n3_ n4_ n5_ n6_ n7_ n8_; (try clear hb); (try clear hb2); (try clear hk); (try clear hi); (try clear ho0); obtain ⟨Ao37, co37, eo37⟩ := Kd.zL HO275.out; subst eo37; obtain ⟨Ao38, co38, eo38⟩ := Kd.zL HO278.out; subst eo38) | ((with_reducible refine gate_callee (f := 17) rfl ?_); refine goesL_ (some 54) rfl rfl Try.func17 (by kernel_rfl) rfl #[.slice Ao37 t273.length co37, .slice Ao38 t276.length co38, .pointer (some ⟨gb264, 0, none⟩)] rfl aT ?_; (with_reducible refine (cells_Make.calls k2 _ _ t273 _ _ t276 (.pointer (some ⟨gb264, 0, none⟩)) t265 t279 t280 _ ?side1 ?side2 ?side3 ?side4 ?side5 A28.out).mono ?_); (case side1 => exact aF HO275); (case side2 => exact (Kd.zI HO275.out).2.1); (case side3 => exact aF HO278); (case side4 => exact (Kd.zI HO278.out).2.1); (case side5 => exact TabO.at HTt265.out (aB BK264) (aB BK265)); rintro e w39 ⟨v281, v283, rfl, ho0, ho1, hb⟩; refine ⟨_, rfl, ?_⟩; have n0_ := zA.mk (Kd.zJ (aR HO_9) hb); have n1_ := zA.mk (Kd.N_mono (Kd.N_told (Kd.N_told (Kd.N_old (aN HO_41) hb) (Kd.R_base ho0)) (Kd.R_base ho1)) (fun _ h_ => h_.1)); have n2_ := zA.mk (Kd.V_mono (Kd.V_told (Kd.V_told (Kd.V_old (aV HL272_0) hb) (Kd.R_base ho0)) (Kd.R_base ho1)) (fun _ h_ => h_.1)); have n3_ := zA.mk (Kd.zJ (aR HO275) hb); have n4_ := zA.mk (Kd.zJ (aR HO278) hb); have n5_ := zA.mk (Kd.zM (Kd.R_newB (Kd.R_newB (Kd.R_newM (M := fun k_ => (w.heap.size ≤ k_)) ho0 (below_size (aL HB)) (fun k_ h_ => h_)) (g := gb264) (o := ob264) (aB BK264)) (g := gb265) (o := ob265) (aB BK265)) (below_size (aL HB))); have n6_ := zA.mk (Kd.zM (Kd.R_newB (Kd.R_newB (Kd.R_newM (M := fun k_ => (w.heap.size ≤ k_)) ho1 (below_size (aL HB)) (fun k_ h_ => h_)) (g := gb264) (o := ob264) (aB BK264)) (g := gb265) (o := ob265) (aB BK265)) (below_size (aL HB))); have n7_ := zA.mk (blk_below (g := gb264) (o := ob264) (aB BK264) hb); have n8_ := zA.mk (blk_below (g := gb265) (o := ob265) (aB BK265) hb); have n9_ := zA.mk (Kd.zH (aH HR272_0) hb); have n10_ := zA.mk (below_step (aL HB) hb); clear HO_9; clear HO_41; clear HL272_0; clear HO275; clear HO278; clear BK264; clear BK265; clear HR272_0; clear HB; have HO_9 := n0_; have HO_41 := n1_; have HL272_0 := n2_; have HO275 := n3_; have HO278 := n4_; have HO282 := n5_; have HO284 := n6_; have BK264 := n7_; have BK265 := n8_; have HR272_0 := n9_; have HB := n10_; clear n0_ n1_ n2_ n3_ n4_ n5_ n6_ n7_ n8_ n9_ n10_; (try clear hb); (try clear hb2); (try clear hk); (try clear hi); (try clear ho0); (try clear ho1)) | ((with_reducible refine gate_callee (f := 18) rfl ?_); refine goesL_ (some 60) rfl rfl Try.func18 (by kernel_rfl) rfl #[.slice A2 l2.length c2] rfl aT ?_; (with_reducible refine (h3_Opps.calls k2 _ _ l2 t285 _ ?side1 ?side2 A29.out).mono ?_); (case side1 => exact aA HR2 HB); (case side2 => exact HC2.out); rintro e w40 ⟨v286, rfl, ho0, hb⟩; refine ⟨_, rfl, ?_⟩; have n0_ := zA.mk (Kd.zJ (aR HO_9) hb); have n1_ := zA.mk (Kd.N_elder' (aN HO_41) (Kd.R_base ho0) hb); have n2_ := zA.mk (Kd.V_elder' (aV HL272_0) (Kd.R_base ho0) hb); have n3_ := zA.mk (Kd.zJ (aR HO275) hb); have n4_ := zA.mk (Kd.R_elder' (aR HO278) (Kd.R_base ho0) hb); have n5_ := zA.mk (Kd.zJ (aR HO282) hb); have n6_ := zA.mk (Kd.zJ (aR HO284) hb); have n7_ := zA.mk (Kd.zM (Kd.R_newB (Kd.R_newB (Kd.R_new' (Kd.R_newM (M := fun k_ => (w.heap.size ≤ k_)) ho0 (below_size (aL HB)) (fun k_ h_ => h_)) (Kd.R_lt (aR HO278))) (g := gb264) (o := ob264) (aB BK264)) (g := gb265) (o := ob265) (aB BK265)) (below_size (aL HB))); have n8_ := zA.mk (blk_below (g := gb264) (o := ob264) (aB BK264) hb); have n9_ := zA.mk (blk_below (g := gb265) (o := ob265) (aB BK265) hb); have n10_ := zA.mk (Kd.zH (aH HR272_0) hb); have n11_ := zA.mk (below_step (aL HB) hb); clear HO_9; clear HO_41; clear HL272_0; clear HO275; clear HO278; clear HO282; clear HO284; clear BK264; clear BK265; clear HR272_0; clear HB; have HO_9 := n0_; have HO_41 := n1_; have HL272_0 := n2_; have HO275 := n3_; have HO278 := n4_; have HO282 := n5_; have HO284 := n6_; have HO287 := n7_; have BK264 := n8_; have BK265 := n9_; have HR272_0 := n10_; have HB := n11_; clear n0_ n1_ n2_ n3_ n4_ n5_ n6_ n7_ n8_ n9_ n10_ n11_; (try clear hb); (try clear hb2); (try clear hk); (try clear hi); (try clear ho0); obtain ⟨Ao41, co41, eo41⟩ := Kd.zL HO287.out; subst eo41) | ((with_reducible refine gate_callee (f := 19) rfl ?_); refine goesL_ (some 62) rfl rfl Try.func19 (by kernel_rfl) rfl #[.slice Ao37 t273.length co37, .slice Ao41 t285.length co41, .slice Ao16 t260.length co16] rfl aT ?_; (with_reducible refine (r0_Clusters.calls k2 _ _ t273 _ _ t285 _ _ t260 t288 t289 _ ?side1 ?side2 ?side3 ?side4 ?side5 ?side6 A30.out).mono ?_); (case side1 => exact aF HO275); (case side2 => exact (Kd.zI HO275.out).2.1); (case side3 => exact aF HO287); (case side4 => exact (Kd.zI HO287.out).2.1); (case side5 => exact aF HO_9); (case side6 => exact (Kd.zI HO_9.out).2.1); rintro e w42 ⟨v290, v292, rfl, ho0, ho1, hb⟩; refine ⟨_, rfl, ?_⟩; have n0_ := zA.mk (Kd.zJ (aR HO_9) hb); have n1_ := zA.mk (Kd.N_mono (Kd.N_told (Kd.N_told (Kd.N_old (aN HO_41) hb) (Kd.R_base ho0)) (Kd.R_base ho1)) (fun _ h_ => h_.1)); have n2_ := zA.mk (Kd.V_mono (Kd.V_told (Kd.V_told (Kd.V_old (aV HL272_0) hb) (Kd.R_base ho0)) (Kd.R_base ho1)) (fun _ h_ => h_.1)); have n3_ := zA.mk (Kd.zJ (aR HO275) hb); have n4_ := zA.mk (Kd.zJ (aR HO278) hb); have n5_ := zA.mk (Kd.R_elder' (aR HO282) (Kd.R_base ho0) hb); have n6_ := zA.mk (Kd.R_elder' (aR HO284) (Kd.R_base ho1) hb); have n7_ := zA.mk (Kd.zJ (aR HO287) hb); have n8_ := zA.mk (Kd.zM (Kd.R_newB (Kd.R_newB (Kd.R_new' (Kd.R_newM (M := fun k_ => (w.heap.size ≤ k_)) ho0 (below_size (aL HB)) (fun k_ h_ => h_)) (Kd.R_lt (aR HO282))) (g := gb264) (o := ob264) (aB BK264)) (g := gb265) (o := ob265) (aB BK265)) (below_size (aL HB))); have n9_ := zA.mk (Kd.zM (Kd.R_newB (Kd.R_newB (Kd.R_new' (Kd.R_newM (M := fun k_ => (w.heap.size ≤ k_)) ho1 (below_size (aL HB)) (fun k_ h_ => h_)) (Kd.R_lt (aR HO284))) (g := gb264) (o := ob264) (aB BK264)) (g := gb265) (o := ob265) (aB BK265)) (below_size (aL HB))); have n10_ := zA.mk (blk_below (g := gb264) (o := ob264) (aB BK264) hb); have n11_ := zA.mk (blk_below (g := gb265) (o := ob265) (aB BK265) hb); have n12_ := zA.mk (Kd.zH (aH HR272_0) hb); have n13_ := zA.mk (below_step (aL HB) hb); clear HO_9; clear HO_41; clear HL272_0; clear HO275; clear HO278; clear HO282; clear HO284; clear HO287; clear BK264; clear BK265; clear HR272_0; clear HB; have HO_9 := n0_; have HO_41 := n1_; have HL272_0 := n2_; have HO275 := n3_; have HO278 := n4_; have HO282 := n5_; have HO284 := n6_; have HO287 := n7_; have HO291 := n8_; have HO293 := n9_; have BK264 := n10_; have BK265 := n11_; have HR272_0 := n12_; have HB := n13_; clear n0_ n1_ n2_ n3_ n4_ n5_ n6_ n7_ n8_ n9_ n10_ n11_ n12_ n13_; (try clear hb); (try clear hb2); (try clear hk); (try clear hi); (try clear ho0); (try clear ho1); obtain ⟨Ao43, co43, eo43⟩ := Kd.zL HO282.out; subst eo43; obtain ⟨Ao44, co44, eo44⟩ := Kd.zL HO291.out; subst eo44) | ((with_reducible refine gate_callee (f := 20) rfl ?_); refine goesL_ (some 67) rfl rfl Try.func20 (by kernel_rfl) rfl #[.slice Ao43 t279.length co43, .slice Ao44 t288.length co44] rfl aT ?_; (with_reducible refine (stanzalaw10_same.calls k2 _ _ t279 _ _ t288 true _ ?side1 ?side2 ?side3 ?side4 A31.out).mono ?_); (case side1 => exact aF HO282); (case side2 => exact (Kd.zI HO282.out).2.1); (case side3 => exact aF HO291); (case side4 => exact (Kd.zI HO291.out).2.1); rintro e w' ⟨rfl, ⟨nd, rfl⟩⟩; refine ⟨_, rfl, ?_⟩; obtain ⟨Ao45, co45, eo45⟩ := Kd.zL HO284.out; subst eo45; obtain ⟨Ao46, co46, eo46⟩ := Kd.zL HO293.out; subst eo46) | (go_at_call 21; (with_reducible refine (stanzaref01_SameInts.calls k2 _ _ t280 _ _ t289 true _ ?side1 ?side2 ?side3 ?side4 A33.out).mono ?_); (case side1 => exact aF HO284); (case side2 => exact (Kd.zI HO284.out).2.1); (case side3 => exact aF HO293); (case side4 => exact (Kd.zI HO293.out).2.1); rintro e w' ⟨rfl, ⟨nd, rfl⟩⟩))
   go_roundg k2
   case measure => have := HJ6.out; have := HK2.out; omega
   case rel => exact ⟨(wrap64 (x43_2 + 1)), aZ, H', ⟨by have := HJ6.out; have := HK2.out; omega⟩, ⟨aR HO_9⟩, ⟨by (with_reducible repeat (first | apply Kd.N_alloc | apply Kd.N_drewN | apply Kd.N_drew)); exact Kd.N_mono HO_41.out (fun _ hk => ⟨hk.1.1.1.1.1.1.1.1, ⟨hk.1.1.1.1.1.1.1.2.1, ⟨hk.1.1.1.1.1.1.1.2.2.1, hk.1.1.1.1.1.1.1.2.2.2⟩⟩⟩)⟩, ⟨aB BK264⟩, ⟨aB BK265⟩, ⟨aL HB⟩⟩
def stanzalaw10_CellsMakes.Pure : Prop := ∀ (l0 : List Int) (l1 : List Int) (l2 : List Int) (l3 : List (S45)), (l0.length * 1 ≤ 140737488351232 ∧ ∀ y0 ∈ l0, (Lit.int .u8 y0).wf = true) → (l1.length * 1 ≤ 140737488351232 ∧ ∀ y0 ∈ l1, (Lit.int .u8 y0).wf = true) → (l2.length * 1 ≤ 140737488351232 ∧ ∀ y0 ∈ l2, (Lit.int .u8 y0).wf = true) → (l3.length * 16 ≤ 140737488351232 ∧ ∀ y0 ∈ l3, ((Lit.int .i32 y0.f0).wf = true ∧ ((Lit.int .i32 y0.f1).wf = true ∧ (Lit.int .i64 y0.f2).wf = true))) → ∃ k, stanzalaw10_CellsMakes.f k l0 l1 l2 l3 = some true
end Go.Proofs.Ytigajcipjklknaa.F
end
