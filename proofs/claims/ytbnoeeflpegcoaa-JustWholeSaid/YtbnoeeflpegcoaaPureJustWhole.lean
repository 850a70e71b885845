/- JustWhole: room that is a multiple of the gaps is spread alike; so much more for each gap is so much more in each. -/
import Derived.Test.YtbnoeeflpegcoaaJust1
import Derived.Test.YtbnoeeflpegcoaaF8
namespace Go.Proofs.Ytbnoeeflpegcoaa.Pure
open Go.RowKit Go.Proofs.YtbnoeeflpegcoaaW.PrintWords Go.Proofs.Ytbnoeeflpegcoaa.F
theorem whole_loop (k g r : Int) (hk : 0 ≤ k ∧ k ≤ 199) (hr : 0 ≤ r ∧ r ≤ 4999) (hg : 1 ≤ g ∧ g ≤ 256) : ∀ (d i : Nat), ((i + d : Nat) : Int) = g →
    Ev (fun n => stanzalaw18_JustWhole.l0 n k (spr (k * g) g) (spr r g) (spr (r + k * g) g) g (i : Int)) true := by
  have hkg : 0 ≤ k * g ∧ k * g ≤ 199 * 256 := ⟨Int.mul_nonneg hk.1 (by omega), Int.mul_le_mul hk.2 hg.2 (by omega) (by omega)⟩
  have e1 : spr (k * g) g = (List.range g.toNat).map (shr1 (k * g) g) := if_pos (by omega)
  have e2 : spr r g = (List.range g.toNat).map (shr1 r g) := if_pos (by omega)
  have e3 : spr (r + k * g) g = (List.range g.toNat).map (shr1 (r + k * g) g) := if_pos (by omega)
  rw [e1, e2, e3]
  intro d
  induction d with
  | zero =>
    intro i hi
    exact Ev.step (fun n => by unfold stanzalaw18_JustWhole.l0; rfl) (ev_neg (by omega) (Ev.now _))
  | succ d ih =>
    intro i hi
    have hlt : i < g.toNat := by omega
    have s1 : shr1 (k * g) g i = k := by
      unfold shr1
      rw [Int.mul_right_comm k g ((i : Int) + 1), Int.mul_right_comm k g (i : Int), Int.mul_ediv_cancel _ (by omega), Int.mul_ediv_cancel _ (by omega), Int.mul_add, Int.mul_one]
      omega
    have s2 : shr1 (r + k * g) g i = shr1 r g i + k := by
      unfold shr1
      rw [Int.add_mul, Int.add_mul, Int.mul_right_comm k g ((i : Int) + 1), Int.mul_right_comm k g (i : Int), Int.add_mul_ediv_right _ _ (by omega), Int.add_mul_ediv_right _ _ (by omega), Int.mul_add k, Int.mul_one]
      omega
    have b1 := share_bd (room := r) (g := g) (i := i) (by omega) (by omega)
    have b2 := share_bd (room := r) (g := g) (i := i + 1) (by omega) (by omega)
    rw [Int.natCast_add, Int.natCast_one] at b2
    refine Ev.step (fun n => by unfold stanzalaw18_JustWhole.l0; rfl) (ev_pos (by omega) (ev_pos (by omega) (ev_pos (by simp; omega) (ev_pos ?_ (ev_pos (by simp; omega) (ev_pos (by simp; omega) (ev_pos ?_ ?_)))))))
    · rw [rd_map_range _ hlt, s1]
    · rw [rd_map_range _ hlt, rd_map_range _ hlt, s2, w64 (by unfold shr1; omega) (by unfold shr1; omega)]
    · rw [show wrap64 ((i : Int) + 1) = ((i + 1 : Nat) : Int) from by rw [w64 (by omega) (by omega)]; rfl]
      exact ih (i + 1) (by omega)
theorem JustWhole : stanzalaw18_JustWhole.Pure := by
  intro a b c ha hb hc
  rw [wfu16] at ha hb
  rw [wfu8] at hc
  refine Ev.rounds ?_
  unfold stanzalaw18_JustWhole.f
  refine ev_bind awake18 (ev_pos rfl ?_)
  rw [tmodp ha.1, tmodp hb.1, w64 (x := c) (by omega) (by omega), w64 (x := 1 + c) (by omega) (by omega), w64 (x := b % 200) (by omega) (by omega), w64 (x := a % 5000) (by omega) (by omega)]
  have hk : 0 ≤ b % 200 ∧ b % 200 ≤ 199 := by omega
  have hr : 0 ≤ a % 5000 ∧ a % 5000 ≤ 4999 := by omega
  have hg : 1 ≤ 1 + c ∧ 1 + c ≤ 256 := by omega
  generalize b % 200 = k at hk ⊢
  generalize a % 5000 = r at hr ⊢
  generalize 1 + c = g at hg ⊢
  have hkg : 0 ≤ k * g ∧ k * g ≤ 199 * 256 := ⟨Int.mul_nonneg hk.1 (by omega), Int.mul_le_mul hk.2 hg.2 (by omega) (by omega)⟩
  rw [w64 (x := k * g) (by omega) (by omega), w64 (x := r + k * g) (by omega) (by omega)]
  have len : ∀ q, 0 ≤ q ∧ q ≤ 1048576 → ((spr q g).length : Int) = g := by
    intro q hq
    unfold spr
    rw [if_pos (by omega)]
    simp
    omega
  refine ev_bind (spread_ev _ _) (ev_bind (spread_ev _ _) (ev_bind (spread_ev _ _) (ev_pos (len _ (by omega)) (ev_pos (len _ (by omega)) ?_))))
  rw [show (((spr (r + k * g) g).length : Int) != g) = false from by rw [len _ (by omega)]; simp]
  refine Ev.step (fun n => by unfold stanzalaw18_JustWhole.j0; rfl) (ev_neg (by decide) ?_)
  rw [len _ (by omega)]
  exact whole_loop k g r hk hr hg g.toNat 0 (by omega)
end Go.Proofs.Ytbnoeeflpegcoaa.Pure
