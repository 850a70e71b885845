/- Printed by a program: Lean functions that answer as the Go functions do, and the proofs of it. -/
import Derived.Test.YtigajcipjklknaaXItemsParts0
import Derived.Test.YtigajcipjklknaaVItemsParts0
section
namespace Go.Proofs.Ytigajcipjklknaa.F
open Go.RowKit Go.Proofs.YtigajcipjklknaaW.PrintWords Go.Proofs.YtigajcipjklknaaW.PrintLast Go.Proofs.YtigajcipjklknaaW.PrintMore
attribute [local go_sem] max2_int min2_int max_two min_two max_three min_three max_four min_four   -- for this text's walks alone
set_option linter.unusedVariables false
set_option linter.unusedSimpArgs false
mutual
def items_Make.l0 : Nat → List (S50) → List Int → List Bool → List Int → Int → Int → List (S48) → List Int → Option ((List (S48)) × List Int)
 | 0, _, _, _, _, _, _, _, _ => none
 | k + 1, x0, x2, x3, x25, x26, x27, x346000, x346001 => if x27 < x26 then (if 0 ≤ x27 then (if x27 < (x25.length : Int) then (if (rd x25 x27) = (x0.length : Int) then (if x346001.length < 140737488355328 then (items_Make.l0 k x0 x2 x3 x25 x26 (wrap64 (x27 + 1)) x346000 (x346001 ++ [2])) else (none)) else (if (rd x25 x27) = 0 then (items_Make.j1 k x0 x2 x3 (rd x25 x27) x25 x26 x27 true x346000 x346001) else (items_Make.j1 k x0 x2 x3 (rd x25 x27) x25 x26 x27 (decide ((rd x25 x27) ≥ (x2.length : Int))) x346000 x346001))) else (none)) else (none)) else (some (x346000, x346001))
def items_Make.j1 : Nat → List (S50) → List Int → List Bool → Int → List Int → Int → Int → Bool → List (S48) → List Int → Option ((List (S48)) × List Int)
 | 0, _, _, _, _, _, _, _, _, _, _ => none
 | k + 1, x0, x2, x3, x15, x25, x26, x27, x50, x346000, x346001 => if x50 = true then (if x346001.length < 140737488355328 then (items_Make.l0 k x0 x2 x3 x25 x26 (wrap64 (x27 + 1)) x346000 (x346001 ++ [0])) else (none)) else (if 0 ≤ x15 then (if x15 < (x2.length : Int) then (if (rd x2 x15) = 0 then (if x15 < (x3.length : Int) then (if rdOf false x3 x15 = true then (if x346001.length < 140737488355328 then (items_Make.l0 k x0 x2 x3 x25 x26 (wrap64 (x27 + 1)) x346000 (x346001 ++ [3])) else (none)) else (if x346001.length < 140737488355328 then (items_Make.l0 k x0 x2 x3 x25 x26 (wrap64 (x27 + 1)) x346000 (x346001 ++ [rd x2 x15])) else (none))) else (if x346001.length < 140737488355328 then (items_Make.l0 k x0 x2 x3 x25 x26 (wrap64 (x27 + 1)) x346000 (x346001 ++ [rd x2 x15])) else (none))) else (if x346001.length < 140737488355328 then (items_Make.l0 k x0 x2 x3 x25 x26 (wrap64 (x27 + 1)) x346000 (x346001 ++ [rd x2 x15])) else (none))) else (none)) else (none))
end
def items_Make.f (k : Nat) (l0 : List (S50)) (l1 : List Int) (l2 : List Int) (l3 : List Bool) (a4 : Option (List (Int × Int × Int))) : Option ((List (S48)) × List Int) := (cells_Make.f k l0 l1 a4).bind fun bt339 => (items_Make.l0 k l0 l2 l3 bt339.2 (bt339.2.length : Int) 0 bt339.1 ([] : List Int))
theorem items_Make.mono_l : ∀ k, (∀ y0 y1 y2 y3 y4 y5 y6 y7, LeO (items_Make.l0 k y0 y1 y2 y3 y4 y5 y6 y7) (items_Make.l0 (k + 1) y0 y1 y2 y3 y4 y5 y6 y7)) ∧ (∀ y0 y1 y2 y3 y4 y5 y6 y7 y8 y9, LeO (items_Make.j1 k y0 y1 y2 y3 y4 y5 y6 y7 y8 y9) (items_Make.j1 (k + 1) y0 y1 y2 y3 y4 y5 y6 y7 y8 y9))
 | 0 => ⟨fun _ _ _ _ _ _ _ _ r h => by simp [items_Make.l0] at h, fun _ _ _ _ _ _ _ _ _ _ r h => by simp [items_Make.j1] at h⟩
 | k + 1 => by
  obtain ⟨ih0, ih1⟩ := items_Make.mono_l k; refine ⟨?_, ?_⟩
  ·intro y0 y1 y2 y3 y4 y5 y6 y7
   unfold items_Make.l0
   repeat' (with_reducible first | exact ih0 _ _ _ _ _ _ _ _ | exact ih1 _ _ _ _ _ _ _ _ _ _ | exact cells_Make.mono _ _ _ _ | exact LeO.refl _ | exact LeO.none _ | refine LeO.ite ?_ ?_ | refine LeO.bind ?_ (fun _ => ?_))
  ·intro y0 y1 y2 y3 y4 y5 y6 y7 y8 y9
   unfold items_Make.j1
   repeat' (with_reducible first | exact ih0 _ _ _ _ _ _ _ _ | exact ih1 _ _ _ _ _ _ _ _ _ _ | exact cells_Make.mono _ _ _ _ | exact LeO.refl _ | exact LeO.none _ | refine LeO.ite ?_ ?_ | refine LeO.bind ?_ (fun _ => ?_))
theorem items_Make.mono : ∀ a0 a1 a2 a3 a4 k, LeO (items_Make.f k a0 a1 a2 a3 a4) (items_Make.f (k + 1) a0 a1 a2 a3 a4) := by
 intro a0 a1 a2 a3 a4 k
 obtain ⟨ih0, ih1⟩ := items_Make.mono_l k; unfold items_Make.f
 repeat' (with_reducible first | exact ih0 _ _ _ _ _ _ _ _ | exact ih1 _ _ _ _ _ _ _ _ _ _ | exact cells_Make.mono _ _ _ _ | exact LeO.refl _ | exact LeO.none _ | refine LeO.ite ?_ ?_ | refine LeO.bind ?_ (fun _ => ?_))
def items_Make.T6 : Bool × List (List Nat × List Nat) := (true, [([], []), ([0], [0]), ([], []), ([], []), ([2, 3], [2, 3]), ([4], [4]), ([5], [5]), ([1, 6], [1, 6]), ([0, 1, 2, 3, 4, 5, 6, 7], []), ([8, 7, 7, 0, 1, 2, 3, 4, 5, 6, 7], [7, 8])])
def items_Make.B6 : List Nat := [0, 1, 0, 0, 12, 28, 60, 127, 255, 511]
theorem items_Make.tab6 : rtab .any (opsOf Try.f24 6) = items_Make.T6 := by kernel_rfl
theorem items_Make.bits6 : waitsOk items_Make.T6.2 items_Make.B6 = true := by kernel_rfl
set_option maxHeartbeats 8000000 in
set_option maxRecDepth 100000 in
theorem items_Make.calls (k : Nat) (A0 : Option Addr) (c0 : Nat) (l0 : List (S50)) (A1 : Option Addr) (c1 : Nat) (l1 : List Int) (A2 : Option Addr) (c2 : Nat) (l2 : List Int) (A3 : Option Addr) (c3 : Nat) (l3 : List Bool) (vt4_ : Value) (a4 : Option (List (Int × Int × Int))) (r1 : List (S48)) (r2 : List Int) (w : World) (hr0 : Kd.C k50 w A0 l0.length l0) (hc0 : l0.length ≤ c0) (hr1 : Kd.C (Kd.int .u8) w A1 l1.length l1) (hc1 : l1.length ≤ c1) (hr2 : Kd.C (Kd.int .u8) w A2 l2.length l2) (hc2 : l2.length ≤ c2) (hr3 : Kd.C Kd.bool w A3 l3.length l3) (hc3 : l3.length ≤ c3) (hta4 : TabAt w a4 vt4_) (h : items_Make.f k l0 l1 l2 l3 a4 = some (r1, r2)) :
  Calls Try.prog 24 #[.slice A0 l0.length c0, .slice A1 l1.length c1, .slice A2 l2.length c2, .slice A3 l3.length c3, vt4_] w fun e w' => ∃ v0_ v1_ : Value, e = .returned (.agg #[v0_, v1_]) ∧ Kd.R k48 48 w' w.heap.size (fun _ => True) v0_ r1 ∧ Kd.R (Kd.int .u8) 53 w' w.heap.size (fun _ => True) v1_ r2 ∧ Below w.heap.size w w' := by
 have hu60 := Try.underlying60; have HR0 := zA.mk hr0; have HC0 := zA.mk hc0; clear hr0 hc0; have HR1 := zA.mk hr1; have HC1 := zA.mk hc1; clear hr1 hc1; have HR2 := zA.mk hr2; have HC2 := zA.mk hc2; clear hr2 hc2; have HR3 := zA.mk hr3; have HC3 := zA.mk hc3; clear hr3 hc3; have HTa4 := zA.mk hta4; clear hta4; have HB := zA.mk (Below.refl w.heap.size w); have H : ((cells_Make.f k l0 l1 a4).bind fun bt339 => (items_Make.l0 k l0 l2 l3 bt339.2 (bt339.2.length : Int) 0 bt339.1 ([] : List Int))) = some (r1, r2) := h
 clear h; replace H := Option.bind_eq_some_iff.mp H; obtain ⟨⟨t339, t340⟩, A60, H⟩ := H; replace H : (items_Make.l0 k l0 l2 l3 t340 (t340.length : Int) 0 t339 ([] : List Int)) = some (r1, r2) := H; have A6 := zA.mk A60; clear A60; have H' := zA.mk H
 clear H; go_enter Try.func24, Try.ntmps24
 go_wp2_with (first | ((with_reducible refine gate_dst (N := 10) rfl ?_); (try (refine gate_guard (by rfl) ?_; dsimp only)); refine box_event ?hg (N := 10) ?hd (cs := #[.slice none 0 0, .slice none 0 0]) (t := 60) ?hr ?_; (case hd => rfl); (case hg => rfl); (case hr => first | (go_simp; done) | (go_simp; rfl)); intro gb338 hg w7 hbox hb; have BK338 := zA.mk (hbox); have GW338 := zA.mk ((by rw [hg]; exact (below_size (aL HB)) : w.heap.size ≤ gb338)); replace HB := zA.mk (below_step (aL HB) hb); have GE338 := GW338; clear hb hbox hg) | ((with_reducible refine gate_callee (f := 17) rfl ?_); refine goesL_ (some 20) rfl rfl Try.func17 (by kernel_rfl) rfl #[.slice A0 l0.length c0, .slice A1 l1.length c1, vt4_] rfl aT ?_; (with_reducible refine (cells_Make.calls k _ _ l0 _ _ l1 vt4_ a4 t339 t340 _ ?side1 ?side2 ?side3 ?side4 ?side5 A6.out).mono ?_); (case side1 => exact aA HR0 HB); (case side2 => exact HC0.out); (case side3 => exact aA HR1 HB); (case side4 => exact HC1.out); (case side5 => exact TabAt.below HTa4.out (aL HB)); rintro e w8 ⟨v341, v343, rfl, ho0, ho1, hb⟩; refine ⟨_, rfl, ?_⟩; have HO342 := zA.mk (Kd.zP ho0 (below_size (aL HB))); have HO344 := zA.mk (Kd.zP ho1 (below_size (aL HB))); replace BK338 := zA.mk (blk_below (aB BK338) hb); replace HB := zA.mk (below_step (aL HB) hb); (try clear hb); (try clear hb2); (try clear hk); (try clear hi); (try clear ho0); (try clear ho1); obtain ⟨Ao9, co9, eo9⟩ := Kd.zO HO342.out; subst eo9) | ((with_reducible refine gate_dst (N := 13) rfl ?_); (try (refine gate_guard (by rfl) ?_; dsimp only)); refine box_event ?hg (N := 13) ?hd (cs := #[.slice none 0 0, .slice none 0 0]) (t := 60) ?hr ?_; (case hd => rfl); (case hg => rfl); (case hr => first | (go_simp; done) | (go_simp; rfl)); intro gb345 hg w10 hbox hb; replace HO342 := zA.mk (Kd.zM (aR HO342) hb); replace HO344 := zA.mk (Kd.zM (aR HO344) hb); have BK345 := zA.mk (hbox); have GW345 := zA.mk ((by rw [hg]; exact (below_size (aL HB)) : w.heap.size ≤ gb345)); replace HB := zA.mk (below_step (aL HB) hb); have GE345 := GW345; have NB338_345 := zA.mk ((by rw [hg]; exact Nat.ne_of_lt (blk_lt (aB BK338)) : gb338 ≠ gb345)); have NB345_338 := zA.mk ((by rw [hg]; exact Nat.ne_of_gt (blk_lt (g := gb338) (o := .cells #[.slice none 0 0, .slice none 0 0] 60 (0, 0)) (aB BK338)) : gb345 ≠ gb338)); replace BK338 := zA.mk (blk_below (aB BK338) hb); clear hb hbox hg; have hnb11 := NB345_338.out; have hnc11 := NB338_345.out; obtain ⟨hcz12_0, hcz12_1, hfz12_0, hfz12_1⟩ := aC2 BK345) | ((with_reducible refine gate_store (t := 60) (p := 13) rfl ?_); refine store_event (t := 60) (p := 13) (v := ?vo_w13) (w1 := ((w10.setCell ⟨gb345, 0, none⟩ (.slice Ao9 t339.length co9)).setCell ⟨gb345, 1, none⟩ (.slice none 0 0))) ?hg ?ho ?hn ?hr ?_; (case ho => rfl); (case hg => rfl); (case hn => rfl); (case hr => first | (go_simp; done) | (go_simp; rfl)); intro w13 hw; have n0_ : zA (Kd.R k48 48 w13 w.heap.size (fun _ => True) (.slice Ao9 t339.length co9) t339) := ⟨(by rw [hw]; exact (by (with_reducible repeat (first | apply Kd.zE | apply Kd.zF | apply Kd.zG)); exact Kd.zQ (Kd.zN (p := ⟨gb345, 1, none⟩) (Kd.zN (p := ⟨gb345, 0, none⟩) (Kd.zR HO342.out BK345.out (by decide)) (fun _ hk => hk.2) (.slice Ao9 t339.length co9)) (fun _ hk => hk.2) (.slice none 0 0)) (fun _ hk => trivial)))⟩; have n1_ : zA (Kd.R (Kd.int .i64) 3 w13 w.heap.size (fun _ => True) v343 t340) := ⟨(by rw [hw]; exact (by (with_reducible repeat (first | apply Kd.zE | apply Kd.zF | apply Kd.zG)); exact Kd.zQ (Kd.zN (p := ⟨gb345, 1, none⟩) (Kd.zN (p := ⟨gb345, 0, none⟩) (Kd.zR HO344.out BK345.out (by decide)) (fun _ hk => hk.2) (.slice Ao9 t339.length co9)) (fun _ hk => hk.2) (.slice none 0 0)) (fun _ hk => trivial)))⟩; have n2_ : zA (w13.heap[gb338]? = some (.cells #[.slice none 0 0, .slice none 0 0] 60 (0, 0))) := ⟨(by rw [hw]; exact (aB BK338))⟩; have n3_ : zA (w13.heap[gb345]? = some (.cells #[.slice Ao9 t339.length co9, .slice none 0 0] 60 (0, 0))) := ⟨(by rw [hw]; exact (by (with_reducible repeat (first | refine zC ?_ _ | refine zD ?_ | refine zB ?_ _)); refine blk_put (cs := #[.slice Ao9 t339.length co9, .slice none 0 0]) ?_ 1 _ rfl; (with_reducible repeat (first | refine zC ?_ _ | refine zD ?_ | refine zB ?_ _)); refine blk_put (cs := #[.slice none 0 0, .slice none 0 0]) ?_ 0 _ rfl; (with_reducible repeat (first | refine zC ?_ _ | refine zD ?_ | refine zB ?_ _)); exact BK345.out))⟩; have n4_ : zA (Below w.heap.size w w13) := ⟨(by rw [hw]; exact (aL HB))⟩; clear hw; clear HO342; clear HO344; clear BK338; clear BK345; clear HB; have HO342 := n0_; have HO344 := n1_; have BK338 := n2_; have BK345 := n3_; have HB := n4_; clear n0_ n1_ n2_ n3_ n4_; obtain ⟨Ao14, co14, eo14⟩ := Kd.zO HO344.out; subst eo14))
 go_loopg [27] k (fun kq v27 w' => ∃ (x27_1 : Int) (x346001_1 : List Int) (u346001 : Value), v27 = .int .i64 x27_1 ∧ zA (items_Make.l0 kq l0 l2 l3 t340 (t340.length : Int) x27_1 t339 x346001_1 = some (r1, r2)) ∧ zA (kq ≤ k) ∧ zA (Kd.R (Kd.int .i64) 3 w' w.heap.size (fun _ => True) (.slice Ao14 t340.length co14) t340) ∧ zA (Kd.R k48 48 w' w.heap.size (fun _ => True) (.slice Ao9 t339.length co9) t339) ∧ zA (Kd.R (Kd.int .u8) 53 w' w.heap.size (fun _ => True) u346001 x346001_1) ∧ zA (w'.heap[gb338]? = some (.cells #[(.slice none 0 0), (.slice none 0 0)] 60 (0, 0))) ∧ zA (w'.heap[gb345]? = some (.cells #[(.slice Ao9 t339.length co9), u346001] 60 (0, 0))) ∧ zA (Below w.heap.size w w'))
 case atStart => exact ⟨(0), (([] : List Int)), (.slice none 0 0), aZ, H', ⟨Nat.le_refl _⟩, ⟨aR HO344⟩, ⟨aR HO342⟩, ⟨by first | exact Kd.R_nil _ _ _ _ _ | exact Kd.N_nil _ _ _ _ _ | exact Kd.V_nil _ _ _ _ _ | exact Kd.Q_nil _ _ _ _ _ | exact Kd.S_nil _ _ _ _ _⟩, ⟨aB BK338⟩, ⟨aB BK345⟩, ⟨aL HB⟩⟩
 clear H'; obtain ⟨x27_1, x346001_1, u346001, rfl, HA, HK1, HO_25, HO_346000, HO_346001, BK338, BK345, HB⟩ := hrel; cases gk with
 | zero => exact absurd HA.out (by simp [items_Make.l0])
 | succ k1 =>
  have H := HA.out; clear HA; simp only [items_Make.l0] at H; by_cases c15 : x27_1 < (t340.length : Int)
  rotate_left
  ·rw [if_neg c15] at H
   have c15b0 : decide (x27_1 < (t340.length : Int)) = false := decide_eq_false c15
   clear c15; simp only [Option.some.injEq, Prod.mk.injEq] at H; obtain ⟨rfl, rfl⟩ := H; have hnb61 := NB345_338.out; have hnc61 := NB338_345.out; obtain ⟨hcz62_0, hcz62_1, hfz62_0, hfz62_1⟩ := aC2 BK345; obtain ⟨hcz63_0, hcz63_1, hfz63_0, hfz63_1⟩ := aC2 BK338; obtain ⟨Ao64, co64, eo64⟩ := Kd.zO HO_346001.out; subst eo64; go_wp2_with (first | ((with_reducible refine gate_store (t := 60) (p := 10) rfl ?_); refine store_event (t := 60) (p := 10) (v := ?vo_w65) (w1 := ((wr.setCell ⟨gb338, 0, none⟩ (.slice Ao9 t339.length co9)).setCell ⟨gb338, 1, none⟩ (.slice Ao64 x346001_1.length co64))) ?hg ?ho ?hn ?hr ?_; (case ho => rfl); (case hg => rfl); (case hn => rfl); (case hr => first | (go_simp; done) | (go_simp; rfl)); intro w65 hw; have n0_ : zA (Kd.R (Kd.int .i64) 3 w65 w.heap.size (fun _ => True) (.slice Ao14 t340.length co14) t340) := ⟨(by rw [hw]; exact (by (with_reducible repeat (first | apply Kd.zE | apply Kd.zF | apply Kd.zG)); exact Kd.zQ (Kd.zN (p := ⟨gb338, 1, none⟩) (Kd.zN (p := ⟨gb338, 0, none⟩) (Kd.zR HO_25.out BK338.out (by decide)) (fun _ hk => hk.2) (.slice Ao9 t339.length co9)) (fun _ hk => hk.2) (.slice Ao64 x346001_1.length co64)) (fun _ hk => trivial)))⟩; have n1_ : zA (Kd.R k48 48 w65 w.heap.size (fun _ => True) (.slice Ao9 t339.length co9) t339) := ⟨(by rw [hw]; exact (by (with_reducible repeat (first | apply Kd.zE | apply Kd.zF | apply Kd.zG)); exact Kd.zQ (Kd.zN (p := ⟨gb338, 1, none⟩) (Kd.zN (p := ⟨gb338, 0, none⟩) (Kd.zR HO_346000.out BK338.out (by decide)) (fun _ hk => hk.2) (.slice Ao9 t339.length co9)) (fun _ hk => hk.2) (.slice Ao64 x346001_1.length co64)) (fun _ hk => trivial)))⟩; have n2_ : zA (Kd.R (Kd.int .u8) 53 w65 w.heap.size (fun _ => True) (.slice Ao64 x346001_1.length co64) x346001_1) := ⟨(by rw [hw]; exact (by (with_reducible repeat (first | apply Kd.zE | apply Kd.zF | apply Kd.zG)); exact Kd.zQ (Kd.zN (p := ⟨gb338, 1, none⟩) (Kd.zN (p := ⟨gb338, 0, none⟩) (Kd.zR HO_346001.out BK338.out (by decide)) (fun _ hk => hk.2) (.slice Ao9 t339.length co9)) (fun _ hk => hk.2) (.slice Ao64 x346001_1.length co64)) (fun _ hk => trivial)))⟩; have n3_ : zA (w65.heap[gb338]? = some (.cells #[.slice Ao9 t339.length co9, .slice Ao64 x346001_1.length co64] 60 (0, 0))) := ⟨(by rw [hw]; exact (by (with_reducible repeat (first | refine zC ?_ _ | refine zD ?_ | refine zB ?_ _)); refine blk_put (cs := #[.slice Ao9 t339.length co9, .slice none 0 0]) ?_ 1 _ rfl; (with_reducible repeat (first | refine zC ?_ _ | refine zD ?_ | refine zB ?_ _)); refine blk_put (cs := #[.slice none 0 0, .slice none 0 0]) ?_ 0 _ rfl; (with_reducible repeat (first | refine zC ?_ _ | refine zD ?_ | refine zB ?_ _)); exact BK338.out))⟩; have n4_ : zA (w65.heap[gb345]? = some (.cells #[.slice Ao9 t339.length co9, .slice Ao64 x346001_1.length co64] 60 (0, 0))) := ⟨(by rw [hw]; exact (aB BK345))⟩; have n5_ : zA (Below w.heap.size w w65) := ⟨(by rw [hw]; exact (aL HB))⟩; clear hw; clear HO_25; clear HO_346000; clear HO_346001; clear BK338; clear BK345; clear HB; have HO_25 := n0_; have HO_346000 := n1_; have HO_346001 := n2_; have BK338 := n3_; have BK345 := n4_; have HB := n5_; clear n0_ n1_ n2_ n3_ n4_ n5_))
   refine bodyPost_ret (results_cell_row rfl _ _ gb338 60 #[.slice Ao9 t339.length co9, .slice Ao64 x346001_1.length co64] (0, 0) _ rfl (aB BK338) Try.underlying60 rfl (by kernel_rfl)) rfl ?_
   exact ⟨_, _, aX, aR HO_346000, aR HO_346001, aL HB⟩
  rw [if_pos c15] at H; have c15b0 : decide (x27_1 < (t340.length : Int)) = true := decide_eq_true c15
  clear c15; by_cases c16 : 0 ≤ x27_1
  rotate_left
  ·rw [if_neg c16] at H
   exact absurd H (by simp)
  rw [if_pos c16] at H; have c16b0 : decide (0 ≤ x27_1) = true := decide_eq_true c16
  clear c16; by_cases c17 : x27_1 < (t340.length : Int)
  rotate_left
  ·rw [if_neg c17] at H
   exact absurd H (by simp)
  rw [if_pos c17] at H; have c17b0 : decide (x27_1 < (t340.length : Int)) = true := decide_eq_true c17
  clear c17; by_cases c18 : (rd t340 x27_1) = (l0.length : Int)
  ·rw [if_pos c18] at H
   have c18b0 : ((rd t340 x27_1) == (l0.length : Int)) = true := beq_iff_eq.mpr c18
   have c18b1 : ((rd t340 x27_1) != (l0.length : Int)) = false := bne_eq_false_iff_eq.mpr c18
   clear c18; by_cases c19 : x346001_1.length < 140737488355328
   rotate_left
   ·rw [if_neg c19] at H
    exact absurd H (by simp)
   rw [if_pos c19] at H; have LMc19 := zA.mk c19; clear c19; obtain ⟨y347, hy347⟩ : ∃ y_ : List Int, y_ = (x346001_1 ++ [2]) := ⟨_, rfl⟩; replace H : (items_Make.l0 k1 l0 l2 l3 t340 (t340.length : Int) (wrap64 (x27_1 + 1)) t339 y347) = some (r1, r2) := by first | (rw [hy347]; with_reducible exact H) | (have H2_ := (Option.bind_some _ _).symm.trans H; rw [hy347]; with_reducible exact H2_) | (have H2_ := (Option.bind_some _ _).symm.trans H; with_reducible exact H2_) | with_reducible exact H | (rw [hy347]; exact H) | exact H
   have Ny347 := zA.mk hy347; clear hy347; have H' := zA.mk H
   clear H; have p346 : 0 ≤ (x27_1 : Int) := aD
   have q346 : x27_1 < (t340.length : Int) := aD
   obtain ⟨ad346, e346, hx346_0⟩ := Kd.at_int (Kd.zL HO_25.out).2.2 x27_1 p346 q346; cases e346
   replace p346 := eq_true p346; replace q346 := eq_true q346; have hnb20 := NB345_338.out; have hnc20 := NB338_345.out; obtain ⟨hcz21_0, hcz21_1, hfz21_0, hfz21_1⟩ := aC2 BK345; go_wp2_with (first | ((with_reducible refine gate_builtin (b := .append) (xs := #[.tmp 46, .tmp 47]) rfl ?_); (try (refine gate_guard (by rfl) ?_; dsimp only)); at_builtin; refine Kd.R_append (Kd.int .u8) (w0 := w) w.heap.size rfl (.tmp 46) (.tmp 47) 38 53 (.int .u8 0) 1 rfl Try.underlying38 info53 rfl (by decide) (by omega) u346001 x346001_1 2 [.int .u8 2] (fun _ => True) (fun _ => False) rfl rfl ?aP (fun _ hk => hk.elim) ?aF ?aO ?aB ?aS ?aL ?_; (case aP => exact rfl); (case aB => exact (aL HB)); (case aF => exact (fun _ _ => trivial)); (case aO => exact (aR HO_346001)); (case aS => exact (below_size (aL HB))); (case aL => have := LMc19.out; omega); intro v348 w22 ho hb hg hat; rw [← Ny347.out] at ho; replace HO_25 := zA.mk (Kd.R_over' (aR HO_25) (Kd.R_typed (aR HO_346001)) (by decide) hg); replace HO_346000 := zA.mk (Kd.R_over' (aR HO_346000) (Kd.R_typed (aR HO_346001)) (by decide) hg); replace BK338 := zA.mk (blk_grown (g := gb338) (o := .cells #[.slice none 0 0, .slice none 0 0] 60 (0, 0)) (aB BK338) hg (Kd.R_ne HO_346001.out BK338.out (by decide))); replace BK345 := zA.mk (blk_grown (g := gb345) (o := .cells #[.slice Ao9 t339.length co9, u346001] 60 (0, 0)) (aB BK345) hg (Kd.R_ne HO_346001.out BK345.out (by decide))); replace HB := zA.mk (hb); have HO349 := zA.mk (ho); clear HO_346001; clear ho hb hg hat; obtain ⟨Ao23, co23, eo23⟩ := Kd.zO HO349.out; subst eo23; obtain ⟨hcz24_0, hcz24_1, hfz24_0, hfz24_1⟩ := aC2 BK345))
   go_roundg k1
   case measure => have := HK1.out; omega
   case rel => exact ⟨(wrap64 (x27_1 + 1)), (y347), (.slice Ao23 y347.length co23), aZ, H', ⟨by have := HK1.out; omega⟩, ⟨by (with_reducible repeat (first | apply Kd.zE | apply Kd.zF | apply Kd.zG)); exact Kd.zQ (Kd.zN (p := ⟨gb345, 1, none⟩) (Kd.zR HO_25.out BK345.out (by decide)) (fun _ hk => hk.2) (.slice Ao23 y347.length co23)) (fun _ hk => trivial)⟩, ⟨by (with_reducible repeat (first | apply Kd.zE | apply Kd.zF | apply Kd.zG)); exact Kd.zQ (Kd.zN (p := ⟨gb345, 1, none⟩) (Kd.zR HO_346000.out BK345.out (by decide)) (fun _ hk => hk.2) (.slice Ao23 y347.length co23)) (fun _ hk => trivial)⟩, ⟨by (with_reducible repeat (first | apply Kd.zE | apply Kd.zF | apply Kd.zG)); exact Kd.zQ (Kd.zN (p := ⟨gb345, 1, none⟩) (Kd.zR HO349.out BK345.out (by decide)) (fun _ hk => hk.2) (.slice Ao23 y347.length co23)) (fun _ hk => trivial)⟩, ⟨by (with_reducible repeat (first | refine zC ?_ _ | refine zD ?_ | refine zB ?_ _)); refine blk_far ?_ NB338_345.out _; (with_reducible repeat (first | refine zC ?_ _ | refine zD ?_ | refine zB ?_ _)); exact BK338.out⟩, ⟨by (with_reducible repeat (first | refine zC ?_ _ | refine zD ?_ | refine zB ?_ _)); refine blk_put (cs := #[.slice Ao9 t339.length co9, u346001]) ?_ 1 _ rfl; (with_reducible repeat (first | refine zC ?_ _ | refine zD ?_ | refine zB ?_ _)); exact BK345.out⟩, ⟨aL HB⟩⟩
  rw [if_neg c18] at H; have c18b0 : ((rd t340 x27_1) == (l0.length : Int)) = false := beq_eq_false_iff_ne.mpr c18
  have c18b1 : ((rd t340 x27_1) != (l0.length : Int)) = true := bne_iff_ne.mpr c18
  have HC25 := zA.mk H; clear H; have p346 : 0 ≤ (x27_1 : Int) := aD
  have q346 : x27_1 < (t340.length : Int) := aD
  obtain ⟨ad346, e346, hx346_0⟩ := Kd.at_int (Kd.zL HO_25.out).2.2 x27_1 p346 q346; cases e346
  replace p346 := eq_true p346; replace q346 := eq_true q346; go_upto_region 9 with (fail)
  go_cut [50] (fun v50 wc => ∃ (kq : Nat) (x50_24 : Bool), v50 = .bool x50_24 ∧ zA (items_Make.j1 kq l0 l2 l3 (rd t340 x27_1) t340 (t340.length : Int) x27_1 x50_24 t339 x346001_1 = some (r1, r2)) ∧ zA (kq ≤ k1) ∧ zA (Kd.R (Kd.int .i64) 3 wc w.heap.size (fun _ => True) (.slice (some ad346) t340.length co14) t340) ∧ zA (Kd.R k48 48 wc w.heap.size (fun _ => True) (.slice Ao9 t339.length co9) t339) ∧ zA (Kd.R (Kd.int .u8) 53 wc w.heap.size (fun _ => True) u346001 x346001_1) ∧ zA (wc.heap[gb338]? = some (.cells #[(.slice none 0 0), (.slice none 0 0)] 60 (0, 0))) ∧ zA (wc.heap[gb345]? = some (.cells #[(.slice Ao9 t339.length co9), u346001] 60 (0, 0))) ∧ zA (Below w.heap.size w wc))
  case first =>
   have H := HC25.out; clear HC25; by_cases c26 : (rd t340 x27_1) = 0
   ·rw [if_pos c26] at H
    have c26b0 : ((rd t340 x27_1) == 0) = true := beq_iff_eq.mpr c26
    have c26b1 : ((rd t340 x27_1) != 0) = false := bne_eq_false_iff_eq.mpr c26
    clear c26; (first | rw [c26b0] | (simp only [i64_w, i32_w]; rw [c26b0]) | skip)
    have H' := zA.mk H
    clear H; go_wp2
    go_meet
    case rel => exact ⟨_, (true), aZ, H', ⟨by have := HK1.out; first | omega | exact Nat.le_refl _⟩, ⟨aR HO_25⟩, ⟨aR HO_346000⟩, ⟨aR HO_346001⟩, ⟨aB BK338⟩, ⟨aB BK345⟩, ⟨aL HB⟩⟩
   rw [if_neg c26] at H; have c26b0 : ((rd t340 x27_1) == 0) = false := beq_eq_false_iff_ne.mpr c26
   have c26b1 : ((rd t340 x27_1) != 0) = true := bne_iff_ne.mpr c26
   (first | rw [c26b0] | (simp only [i64_w, i32_w]; rw [c26b0]) | skip)
   have H' := zA.mk H
   clear H; go_wp2
   go_meet
   case rel => exact ⟨_, (decide ((rd t340 x27_1) ≥ (l2.length : Int))), aZ, H', ⟨by have := HK1.out; first | omega | exact Nat.le_refl _⟩, ⟨aR HO_25⟩, ⟨aR HO_346000⟩, ⟨aR HO_346001⟩, ⟨aB BK338⟩, ⟨aB BK345⟩, ⟨aL HB⟩⟩
  clear HC25; obtain ⟨kq, x50_24, rfl, HA, HJ24, HO_25, HO_346000, HO_346001, BK338, BK345, HB⟩ := hcut; cases kq with
  | zero => exact absurd HA.out (by simp [items_Make.j1])
  | succ kj24 =>
   have H := HA.out; clear HA; simp only [items_Make.j1] at H; by_cases c27 : x50_24 = true
   ·subst c27
    have H1 : (if x346001_1.length < 140737488355328 then (items_Make.l0 kj24 l0 l2 l3 t340 (t340.length : Int) (wrap64 (x27_1 + 1)) t339 (x346001_1 ++ [0])) else (none)) = some (r1, r2) := by rw [if_pos rfl] at H; exact H
    clear H; have H := H1; clear H1; by_cases c28 : x346001_1.length < 140737488355328
    rotate_left
    ·rw [if_neg c28] at H
     exact absurd H (by simp)
    rw [if_pos c28] at H; have LMc28 := zA.mk c28; clear c28; obtain ⟨y350, hy350⟩ : ∃ y_ : List Int, y_ = (x346001_1 ++ [0]) := ⟨_, rfl⟩; replace H : (items_Make.l0 kj24 l0 l2 l3 t340 (t340.length : Int) (wrap64 (x27_1 + 1)) t339 y350) = some (r1, r2) := by first | (rw [hy350]; with_reducible exact H) | (have H2_ := (Option.bind_some _ _).symm.trans H; rw [hy350]; with_reducible exact H2_) | (have H2_ := (Option.bind_some _ _).symm.trans H; with_reducible exact H2_) | with_reducible exact H | (rw [hy350]; exact H) | exact H
    have Ny350 := zA.mk hy350; clear hy350; have H' := zA.mk H
    clear H; have hnb29 := NB345_338.out; have hnc29 := NB338_345.out; obtain ⟨hcz30_0, hcz30_1, hfz30_0, hfz30_1⟩ := aC2 BK345; go_wp2_with (first | ((with_reducible refine gate_builtin (b := .append) (xs := #[.tmp 60, .tmp 61]) rfl ?_); (try (refine gate_guard (by rfl) ?_; dsimp only)); at_builtin; refine Kd.R_append (Kd.int .u8) (w0 := w) w.heap.size rfl (.tmp 60) (.tmp 61) 38 53 (.int .u8 0) 1 rfl Try.underlying38 info53 rfl (by decide) (by omega) u346001 x346001_1 0 [.int .u8 0] (fun _ => True) (fun _ => False) rfl rfl ?aP (fun _ hk => hk.elim) ?aF ?aO ?aB ?aS ?aL ?_; (case aP => exact rfl); (case aB => exact (aL HB)); (case aF => exact (fun _ _ => trivial)); (case aO => exact (aR HO_346001)); (case aS => exact (below_size (aL HB))); (case aL => have := LMc28.out; omega); intro v351 w31 ho hb hg hat; rw [← Ny350.out] at ho; replace HO_25 := zA.mk (Kd.R_over' (aR HO_25) (Kd.R_typed (aR HO_346001)) (by decide) hg); replace HO_346000 := zA.mk (Kd.R_over' (aR HO_346000) (Kd.R_typed (aR HO_346001)) (by decide) hg); replace BK338 := zA.mk (blk_grown (g := gb338) (o := .cells #[.slice none 0 0, .slice none 0 0] 60 (0, 0)) (aB BK338) hg (Kd.R_ne HO_346001.out BK338.out (by decide))); replace BK345 := zA.mk (blk_grown (g := gb345) (o := .cells #[.slice Ao9 t339.length co9, u346001] 60 (0, 0)) (aB BK345) hg (Kd.R_ne HO_346001.out BK345.out (by decide))); replace HB := zA.mk (hb); have HO352 := zA.mk (ho); clear HO_346001; clear ho hb hg hat; obtain ⟨Ao32, co32, eo32⟩ := Kd.zO HO352.out; subst eo32; obtain ⟨hcz33_0, hcz33_1, hfz33_0, hfz33_1⟩ := aC2 BK345))
    go_roundg kj24
    case measure => have := HK1.out; have := HJ24.out; omega
    case rel => exact ⟨(wrap64 (x27_1 + 1)), (y350), (.slice Ao32 y350.length co32), aZ, H', ⟨by have := HK1.out; have := HJ24.out; omega⟩, ⟨by (with_reducible repeat (first | apply Kd.zE | apply Kd.zF | apply Kd.zG)); exact Kd.zQ (Kd.zN (p := ⟨gb345, 1, none⟩) (Kd.zR HO_25.out BK345.out (by decide)) (fun _ hk => hk.2) (.slice Ao32 y350.length co32)) (fun _ hk => trivial)⟩, ⟨by (with_reducible repeat (first | apply Kd.zE | apply Kd.zF | apply Kd.zG)); exact Kd.zQ (Kd.zN (p := ⟨gb345, 1, none⟩) (Kd.zR HO_346000.out BK345.out (by decide)) (fun _ hk => hk.2) (.slice Ao32 y350.length co32)) (fun _ hk => trivial)⟩, ⟨by (with_reducible repeat (first | apply Kd.zE | apply Kd.zF | apply Kd.zG)); exact Kd.zQ (Kd.zN (p := ⟨gb345, 1, none⟩) (Kd.zR HO352.out BK345.out (by decide)) (fun _ hk => hk.2) (.slice Ao32 y350.length co32)) (fun _ hk => trivial)⟩, ⟨by (with_reducible repeat (first | refine zC ?_ _ | refine zD ?_ | refine zB ?_ _)); refine blk_far ?_ NB338_345.out _; (with_reducible repeat (first | refine zC ?_ _ | refine zD ?_ | refine zB ?_ _)); exact BK338.out⟩, ⟨by (with_reducible repeat (first | refine zC ?_ _ | refine zD ?_ | refine zB ?_ _)); refine blk_put (cs := #[.slice Ao9 t339.length co9, u346001]) ?_ 1 _ rfl; (with_reducible repeat (first | refine zC ?_ _ | refine zD ?_ | refine zB ?_ _)); exact BK345.out⟩, ⟨aL HB⟩⟩
   replace c27 := Bool.eq_false_iff.mpr c27; subst c27; have H1 : (if 0 ≤ (rd t340 x27_1) then (if (rd t340 x27_1) < (l2.length : Int) then (if (rd l2 (rd t340 x27_1)) = 0 then (if (rd t340 x27_1) < (l3.length : Int) then (if rdOf false l3 (rd t340 x27_1) = true then (if x346001_1.length < 140737488355328 then (items_Make.l0 kj24 l0 l2 l3 t340 (t340.length : Int) (wrap64 (x27_1 + 1)) t339 (x346001_1 ++ [3])) else (none)) else (if x346001_1.length < 140737488355328 then (items_Make.l0 kj24 l0 l2 l3 t340 (t340.length : Int) (wrap64 (x27_1 + 1)) t339 (x346001_1 ++ [rd l2 (rd t340 x27_1)])) else (none))) else (if x346001_1.length < 140737488355328 then (items_Make.l0 kj24 l0 l2 l3 t340 (t340.length : Int) (wrap64 (x27_1 + 1)) t339 (x346001_1 ++ [rd l2 (rd t340 x27_1)])) else (none))) else (if x346001_1.length < 140737488355328 then (items_Make.l0 kj24 l0 l2 l3 t340 (t340.length : Int) (wrap64 (x27_1 + 1)) t339 (x346001_1 ++ [rd l2 (rd t340 x27_1)])) else (none))) else (none)) else (none)) = some (r1, r2) := by rw [if_neg (show ¬ (false = true) by decide)] at H; exact H
   clear H; have H := H1; clear H1; by_cases c34 : 0 ≤ (rd t340 x27_1)
   rotate_left
   ·rw [if_neg c34] at H
    exact absurd H (by simp)
   rw [if_pos c34] at H; have c34b0 : decide (0 ≤ (rd t340 x27_1)) = true := decide_eq_true c34
   clear c34; by_cases c35 : (rd t340 x27_1) < (l2.length : Int)
   rotate_left
   ·rw [if_neg c35] at H
    exact absurd H (by simp)
   rw [if_pos c35] at H; have c35b0 : decide ((rd t340 x27_1) < (l2.length : Int)) = true := decide_eq_true c35
   clear c35; by_cases c36 : (rd l2 (rd t340 x27_1)) = 0
   rotate_left
   ·rw [if_neg c36] at H
    have c36b0 : ((rd l2 (rd t340 x27_1)) == 0) = false := beq_eq_false_iff_ne.mpr c36
    have c36b1 : ((rd l2 (rd t340 x27_1)) != 0) = true := bne_iff_ne.mpr c36
    by_cases c56 : x346001_1.length < 140737488355328
    rotate_left
    ·rw [if_neg c56] at H
     exact absurd H (by simp)
    rw [if_pos c56] at H; have LMc56 := zA.mk c56; clear c56; obtain ⟨y367, hy367⟩ : ∃ y_ : List Int, y_ = (x346001_1 ++ [rd l2 (rd t340 x27_1)]) := ⟨_, rfl⟩; replace H : (items_Make.l0 kj24 l0 l2 l3 t340 (t340.length : Int) (wrap64 (x27_1 + 1)) t339 y367) = some (r1, r2) := by first | (rw [hy367]; with_reducible exact H) | (have H2_ := (Option.bind_some _ _).symm.trans H; rw [hy367]; with_reducible exact H2_) | (have H2_ := (Option.bind_some _ _).symm.trans H; with_reducible exact H2_) | with_reducible exact H | (rw [hy367]; exact H) | exact H
    have Ny367 := zA.mk hy367; clear hy367; have H' := zA.mk H
    clear H; have p353 : 0 ≤ ((rd t340 x27_1) : Int) := aD
    have q353 : (rd t340 x27_1) < (l2.length : Int) := aD
    obtain ⟨ad353, e353, hx353_0⟩ := Kd.at_int HR2.out (rd t340 x27_1) p353 q353; cases e353
    replace hx353_0 := (HB.out.cell (World.block_lt_of_cell? w _ hx353_0)).trans hx353_0; replace p353 := eq_true p353; replace q353 := eq_true q353; try go_wp2
    replace HO_25 := zA.mk (Kd.zG HO_25.out); replace HO_346000 := zA.mk (Kd.zG HO_346000.out); replace HO_346001 := zA.mk (Kd.zG HO_346001.out); replace BK338 := zA.mk (zD BK338.out); replace BK345 := zA.mk (zD BK345.out); replace HB := zA.mk (below_drew1 HB.out); have p366 : 0 ≤ ((rd t340 x27_1) : Int) := aD
    have q366 : (rd t340 x27_1) < (l2.length : Int) := aD
    obtain ⟨ad366, e366, hx366_0⟩ := Kd.at_int HR2.out (rd t340 x27_1) p366 q366; have hw366_0 := hx366_0; obtain rfl : ad353 = ad366 := (by injection e366)
    replace hx366_0 := (HB.out.cell (World.block_lt_of_cell? w _ hx366_0)).trans hx366_0; replace p366 := eq_true p366; replace q366 := eq_true q366; refine start_ (n := 10) (S := fun w' => w'.cell? ⟨gb345, 0, none⟩ = some (.slice Ao9 t339.length co9) ∧ w'.cell? ⟨gb345, 1, none⟩ = some (u346001) ∧ w'.cell? (ad353.add ((rd t340 x27_1)).toNat) = some (.int .u8 (rd l2 (rd t340 x27_1)))) (ds := [9]) #[false, false, false, false, false, false, false, false, false, false] (by kernel_rfl) rfl rfl ⟨(blk_cell BK345.out 0).trans rfl, (blk_cell BK345.out 1).trans rfl, ((HB.out.cell (World.block_lt_of_cell? w _ hw366_0)).trans hw366_0)⟩ (fun hHeld => ?_); refine with_tabW items_Make.tab6 items_Make.bits6 (fun HT_ HW_ => ?_)
    generalize wc.drew = w57 at HO_25 HO_346000 HO_346001 BK338 BK345 HB hx366_0 hHeld ⊢
    refine aP 0 (some 31) (tf_ 1 10) HT_ ?_
    refine aP 2 (some 33) (tb_ 5 10) HT_ ?_
    refine aP 3 (some 34) (tb_ 13 10) HT_ ?_
    refine aP 4 (some 35) (tb_ 29 10) HT_ ?_
    refine take_ (i := 1) (N := some 32) (v := ?_) (a' := ?_) (tf_ 5 10) rfl rfl (take_ofW HT_.out HW_.out (by kernel_rfl)) (fun _ _ _ h => h) (Or.inl ⟨by rfl, ?_⟩) hHeld ?_ ?_
    rotate_left
    ·rintro w' ⟨s0, s1, s2⟩
     go_simp
     with_reducible rfl
    rotate_left
    ·simp only [Act.put, sA_, sB_, sC_, i64_w, i32_w]
     rfl
    refine take_ (i := 5) (N := some 36) (v := ?_) (a' := ?_) (tf_ 6 10) rfl rfl (take_ofW HT_.out HW_.out (by kernel_rfl)) (fun _ _ _ h => h) (Or.inl ⟨by rfl, ?_⟩) hHeld ?_ ?_
    rotate_left
    ·rintro w' ⟨s0, s1, s2⟩
     go_simp
     with_reducible rfl
    rotate_left
    ·simp only [Act.put, sA_, sB_, sC_, i64_w, i32_w]
     rfl
    refine one_ (i := 6) (N := some 37) (tb_ 127 10) rfl rfl (one_of HT_.out (by kernel_rfl)) (by decide) (fun K hK => ?_)
    refine value_ (w1 := ?_) (v := ?_) (by rfl) rfl ?_ ?_
    rotate_left 2
    ·go_simp
     constructor
     ·rfl
     rfl
    refine hK.out _ _ ⟨(blk_cell (zB BK345.out _) 0).trans rfl, (blk_cell (zB BK345.out _) 1).trans rfl, (World.cell?_alloc_lt _ _ _ (World.block_lt_of_cell? _ _ (((HB.out.cell (World.block_lt_of_cell? w _ hw366_0)).trans hw366_0)))).trans (((HB.out.cell (World.block_lt_of_cell? w _ hw366_0)).trans hw366_0))⟩ (fun hHeld => ?_)
    clear hK K; refine norm_ (a' := ?_) ?_ ?_
    rotate_left
    ·show Act.put _ (some 37) _ = _
     simp only [Act.put, sA_, sB_, sC_, i64_w, i32_w]; rfl
    refine one_ (i := 7) (N := some 38) (tb_ 255 10) rfl rfl (one_of HT_.out (by kernel_rfl)) (by decide) (fun K hK => ?_)
    refine Kd.R_append_step (Kd.int .u8) (w0 := w) w.heap.size (by rfl) (.tmp 32) (.tmp 37) 38 53 (.int .u8 0) 1 rfl Try.underlying38 info53 rfl (by decide) (by omega) u346001 x346001_1 (rd l2 (rd t340 x27_1)) [.int .u8 (rd l2 (rd t340 x27_1))] (fun _ => True) (fun _ => False) rfl rfl ?aP (fun _ hk => hk.elim) ?aF ?aO ?aB ?aS ?aL ?_
    (case aP => exact rfl)
    (case aB => exact (aL HB))
    (case aF => exact (fun _ _ => trivial))
    (case aO => exact (aR HO_346001))
    (case aS => exact (below_size (aL HB)))
    (case aL => have := LMc56.out; omega)
    intro v368 w58 ho hb hg hat
    rw [← Ny367.out] at ho; replace HO_25 := zA.mk (Kd.R_over' (aR HO_25) (Kd.R_typed (aR HO_346001)) (by decide) hg)
    replace HO_346000 := zA.mk (Kd.R_over' (aR HO_346000) (Kd.R_typed (aR HO_346001)) (by decide) hg)
    replace BK338 := zA.mk (blk_grown (g := gb338) (o := .cells #[.slice none 0 0, .slice none 0 0] 60 (0, 0)) (aB BK338) hg (Kd.R_ne HO_346001.out BK338.out (by decide)))
    replace BK345 := zA.mk (blk_grown (g := gb345) (o := .cells #[.slice Ao9 t339.length co9, u346001] 60 (0, 0)) (aB BK345) hg (Kd.R_ne HO_346001.out BK345.out (by decide)))
    replace HB := zA.mk (hb); have HO369 := zA.mk (ho); clear HO_346001; clear ho hb hg hat; obtain ⟨Ao59, co59, eo59⟩ := Kd.zO HO369.out; (first | subst eo59 | (injection eo59 with f1_ f2_ f3_; have f4_ := f1_.symm; have f5_ := f3_.symm; clear f1_ f2_ f3_; subst f4_; subst f5_))
    refine hK.out _ _ ⟨(blk_cell BK345.out 0).trans rfl, (blk_cell BK345.out 1).trans rfl, ((HB.out.cell (World.block_lt_of_cell? w _ hw366_0)).trans hw366_0)⟩ (fun hHeld => ?_)
    clear hK K; refine norm_ (a' := ?_) ?_ ?_
    rotate_left
    ·show Act.put _ (some 38) _ = _
     simp only [Act.put, sA_, sB_, sC_, i64_w, i32_w]; rfl
    refine aP 8 (some 39) (tf_ 9 10) HT_ ?_
    refine last_ (i := 9) (N := none) (tb_ 1023 10) rfl rfl (one_of HT_.out (by kernel_rfl)) (by decide) (fun K hK => ?_)
    have hs60 : w58.cell? ⟨gb345, 1, none⟩ = some (u346001) := (blk_cell BK345.out 1).trans rfl
    have hfs60 := blk_frozen BK345.out 1; have hns60_0 := NB338_345.out; have hms60_0 := NB345_338.out; refine skip_ (w1 := ?_) (by rfl) rfl ?_ ?_
    rotate_left
    ·go_simp
     rfl
    refine hK.out _ _ ?_
    clear hK K; refine done_ (done_of HT_.out (by kernel_rfl)) ?_
    try go_wp2
    go_roundg kj24
    case measure => have := HK1.out; have := HJ24.out; omega
    case rel => exact ⟨(wrap64 (x27_1 + 1)), (y367), (.slice Ao59 y367.length co59), aZ, H', ⟨by have := HK1.out; have := HJ24.out; omega⟩, ⟨by (with_reducible repeat (first | apply Kd.zE | apply Kd.zF | apply Kd.zG)); exact Kd.zQ (Kd.zN (p := ⟨gb345, 1, none⟩) (Kd.zR HO_25.out BK345.out (by decide)) (fun _ hk => hk.2) (.slice Ao59 y367.length co59)) (fun _ hk => trivial)⟩, ⟨by (with_reducible repeat (first | apply Kd.zE | apply Kd.zF | apply Kd.zG)); exact Kd.zQ (Kd.zN (p := ⟨gb345, 1, none⟩) (Kd.zR HO_346000.out BK345.out (by decide)) (fun _ hk => hk.2) (.slice Ao59 y367.length co59)) (fun _ hk => trivial)⟩, ⟨by (with_reducible repeat (first | apply Kd.zE | apply Kd.zF | apply Kd.zG)); exact Kd.zQ (Kd.zN (p := ⟨gb345, 1, none⟩) (Kd.zR HO369.out BK345.out (by decide)) (fun _ hk => hk.2) (.slice Ao59 y367.length co59)) (fun _ hk => trivial)⟩, ⟨by (with_reducible repeat (first | refine zC ?_ _ | refine zD ?_ | refine zB ?_ _)); refine blk_far ?_ NB338_345.out _; (with_reducible repeat (first | refine zC ?_ _ | refine zD ?_ | refine zB ?_ _)); exact BK338.out⟩, ⟨by (with_reducible repeat (first | refine zC ?_ _ | refine zD ?_ | refine zB ?_ _)); refine blk_put (cs := #[.slice Ao9 t339.length co9, u346001]) ?_ 1 _ rfl; (with_reducible repeat (first | refine zC ?_ _ | refine zD ?_ | refine zB ?_ _)); exact BK345.out⟩, ⟨aL HB⟩⟩
   rw [if_pos c36] at H; have c36b0 : ((rd l2 (rd t340 x27_1)) == 0) = true := beq_iff_eq.mpr c36
   have c36b1 : ((rd l2 (rd t340 x27_1)) != 0) = false := bne_eq_false_iff_eq.mpr c36
   clear c36; by_cases c37 : (rd t340 x27_1) < (l3.length : Int)
   rotate_left
   ·rw [if_neg c37] at H
    have c37b0 : decide ((rd t340 x27_1) < (l3.length : Int)) = false := decide_eq_false c37
    clear c37; by_cases c51 : x346001_1.length < 140737488355328
    rotate_left
    ·rw [if_neg c51] at H
     exact absurd H (by simp)
    rw [if_pos c51] at H; have LMc51 := zA.mk c51; clear c51; obtain ⟨y363, hy363⟩ : ∃ y_ : List Int, y_ = (x346001_1 ++ [rd l2 (rd t340 x27_1)]) := ⟨_, rfl⟩; replace H : (items_Make.l0 kj24 l0 l2 l3 t340 (t340.length : Int) (wrap64 (x27_1 + 1)) t339 y363) = some (r1, r2) := by first | (rw [hy363]; with_reducible exact H) | (have H2_ := (Option.bind_some _ _).symm.trans H; rw [hy363]; with_reducible exact H2_) | (have H2_ := (Option.bind_some _ _).symm.trans H; with_reducible exact H2_) | with_reducible exact H | (rw [hy363]; exact H) | exact H
    have Ny363 := zA.mk hy363; clear hy363; have H' := zA.mk H
    clear H; have p353 : 0 ≤ ((rd t340 x27_1) : Int) := aD
    have q353 : (rd t340 x27_1) < (l2.length : Int) := aD
    obtain ⟨ad353, e353, hx353_0⟩ := Kd.at_int HR2.out (rd t340 x27_1) p353 q353; cases e353
    replace hx353_0 := (HB.out.cell (World.block_lt_of_cell? w _ hx353_0)).trans hx353_0; replace p353 := eq_true p353; replace q353 := eq_true q353; try go_wp2
    replace HO_25 := zA.mk (Kd.zG HO_25.out); replace HO_346000 := zA.mk (Kd.zG HO_346000.out); replace HO_346001 := zA.mk (Kd.zG HO_346001.out); replace BK338 := zA.mk (zD BK338.out); replace BK345 := zA.mk (zD BK345.out); replace HB := zA.mk (below_drew1 HB.out); have p362 : 0 ≤ ((rd t340 x27_1) : Int) := aD
    have q362 : (rd t340 x27_1) < (l2.length : Int) := aD
    obtain ⟨ad362, e362, hx362_0⟩ := Kd.at_int HR2.out (rd t340 x27_1) p362 q362; have hw362_0 := hx362_0; obtain rfl : ad353 = ad362 := (by injection e362)
    replace hx362_0 := (HB.out.cell (World.block_lt_of_cell? w _ hx362_0)).trans hx362_0; replace p362 := eq_true p362; replace q362 := eq_true q362; refine start_ (n := 10) (S := fun w' => w'.cell? ⟨gb345, 0, none⟩ = some (.slice Ao9 t339.length co9) ∧ w'.cell? ⟨gb345, 1, none⟩ = some (u346001) ∧ w'.cell? (ad353.add ((rd t340 x27_1)).toNat) = some (.int .u8 (rd l2 (rd t340 x27_1)))) (ds := [9]) #[false, false, false, false, false, false, false, false, false, false] (by kernel_rfl) rfl rfl ⟨(blk_cell BK345.out 0).trans rfl, (blk_cell BK345.out 1).trans rfl, ((HB.out.cell (World.block_lt_of_cell? w _ hw362_0)).trans hw362_0)⟩ (fun hHeld => ?_); refine with_tabW items_Make.tab6 items_Make.bits6 (fun HT_ HW_ => ?_)
    generalize wc.drew = w52 at HO_25 HO_346000 HO_346001 BK338 BK345 HB hx362_0 hHeld ⊢
    refine aP 0 (some 31) (tf_ 1 10) HT_ ?_
    refine aP 2 (some 33) (tb_ 5 10) HT_ ?_
    refine aP 3 (some 34) (tb_ 13 10) HT_ ?_
    refine aP 4 (some 35) (tb_ 29 10) HT_ ?_
    refine take_ (i := 1) (N := some 32) (v := ?_) (a' := ?_) (tf_ 5 10) rfl rfl (take_ofW HT_.out HW_.out (by kernel_rfl)) (fun _ _ _ h => h) (Or.inl ⟨by rfl, ?_⟩) hHeld ?_ ?_
    rotate_left
    ·rintro w' ⟨s0, s1, s2⟩
     go_simp
     with_reducible rfl
    rotate_left
    ·simp only [Act.put, sA_, sB_, sC_, i64_w, i32_w]
     rfl
    refine take_ (i := 5) (N := some 36) (v := ?_) (a' := ?_) (tf_ 6 10) rfl rfl (take_ofW HT_.out HW_.out (by kernel_rfl)) (fun _ _ _ h => h) (Or.inl ⟨by rfl, ?_⟩) hHeld ?_ ?_
    rotate_left
    ·rintro w' ⟨s0, s1, s2⟩
     go_simp
     with_reducible rfl
    rotate_left
    ·simp only [Act.put, sA_, sB_, sC_, i64_w, i32_w]
     rfl
    refine one_ (i := 6) (N := some 37) (tb_ 127 10) rfl rfl (one_of HT_.out (by kernel_rfl)) (by decide) (fun K hK => ?_)
    refine value_ (w1 := ?_) (v := ?_) (by rfl) rfl ?_ ?_
    rotate_left 2
    ·go_simp
     constructor
     ·rfl
     rfl
    refine hK.out _ _ ⟨(blk_cell (zB BK345.out _) 0).trans rfl, (blk_cell (zB BK345.out _) 1).trans rfl, (World.cell?_alloc_lt _ _ _ (World.block_lt_of_cell? _ _ (((HB.out.cell (World.block_lt_of_cell? w _ hw362_0)).trans hw362_0)))).trans (((HB.out.cell (World.block_lt_of_cell? w _ hw362_0)).trans hw362_0))⟩ (fun hHeld => ?_)
    clear hK K; refine norm_ (a' := ?_) ?_ ?_
    rotate_left
    ·show Act.put _ (some 37) _ = _
     simp only [Act.put, sA_, sB_, sC_, i64_w, i32_w]; rfl
    refine one_ (i := 7) (N := some 38) (tb_ 255 10) rfl rfl (one_of HT_.out (by kernel_rfl)) (by decide) (fun K hK => ?_)
    refine Kd.R_append_step (Kd.int .u8) (w0 := w) w.heap.size (by rfl) (.tmp 32) (.tmp 37) 38 53 (.int .u8 0) 1 rfl Try.underlying38 info53 rfl (by decide) (by omega) u346001 x346001_1 (rd l2 (rd t340 x27_1)) [.int .u8 (rd l2 (rd t340 x27_1))] (fun _ => True) (fun _ => False) rfl rfl ?aP (fun _ hk => hk.elim) ?aF ?aO ?aB ?aS ?aL ?_
    (case aP => exact rfl)
    (case aB => exact (aL HB))
    (case aF => exact (fun _ _ => trivial))
    (case aO => exact (aR HO_346001))
    (case aS => exact (below_size (aL HB)))
    (case aL => have := LMc51.out; omega)
    intro v364 w53 ho hb hg hat
    rw [← Ny363.out] at ho; replace HO_25 := zA.mk (Kd.R_over' (aR HO_25) (Kd.R_typed (aR HO_346001)) (by decide) hg)
    replace HO_346000 := zA.mk (Kd.R_over' (aR HO_346000) (Kd.R_typed (aR HO_346001)) (by decide) hg)
    replace BK338 := zA.mk (blk_grown (g := gb338) (o := .cells #[.slice none 0 0, .slice none 0 0] 60 (0, 0)) (aB BK338) hg (Kd.R_ne HO_346001.out BK338.out (by decide)))
    replace BK345 := zA.mk (blk_grown (g := gb345) (o := .cells #[.slice Ao9 t339.length co9, u346001] 60 (0, 0)) (aB BK345) hg (Kd.R_ne HO_346001.out BK345.out (by decide)))
    replace HB := zA.mk (hb); have HO365 := zA.mk (ho); clear HO_346001; clear ho hb hg hat; obtain ⟨Ao54, co54, eo54⟩ := Kd.zO HO365.out; (first | subst eo54 | (injection eo54 with f1_ f2_ f3_; have f4_ := f1_.symm; have f5_ := f3_.symm; clear f1_ f2_ f3_; subst f4_; subst f5_))
    refine hK.out _ _ ⟨(blk_cell BK345.out 0).trans rfl, (blk_cell BK345.out 1).trans rfl, ((HB.out.cell (World.block_lt_of_cell? w _ hw362_0)).trans hw362_0)⟩ (fun hHeld => ?_)
    clear hK K; refine norm_ (a' := ?_) ?_ ?_
    rotate_left
    ·show Act.put _ (some 38) _ = _
     simp only [Act.put, sA_, sB_, sC_, i64_w, i32_w]; rfl
    refine aP 8 (some 39) (tf_ 9 10) HT_ ?_
    refine last_ (i := 9) (N := none) (tb_ 1023 10) rfl rfl (one_of HT_.out (by kernel_rfl)) (by decide) (fun K hK => ?_)
    have hs55 : w53.cell? ⟨gb345, 1, none⟩ = some (u346001) := (blk_cell BK345.out 1).trans rfl
    have hfs55 := blk_frozen BK345.out 1; have hns55_0 := NB338_345.out; have hms55_0 := NB345_338.out; refine skip_ (w1 := ?_) (by rfl) rfl ?_ ?_
    rotate_left
    ·go_simp
     rfl
    refine hK.out _ _ ?_
    clear hK K; refine done_ (done_of HT_.out (by kernel_rfl)) ?_
    try go_wp2
    go_roundg kj24
    case measure => have := HK1.out; have := HJ24.out; omega
    case rel => exact ⟨(wrap64 (x27_1 + 1)), (y363), (.slice Ao54 y363.length co54), aZ, H', ⟨by have := HK1.out; have := HJ24.out; omega⟩, ⟨by (with_reducible repeat (first | apply Kd.zE | apply Kd.zF | apply Kd.zG)); exact Kd.zQ (Kd.zN (p := ⟨gb345, 1, none⟩) (Kd.zR HO_25.out BK345.out (by decide)) (fun _ hk => hk.2) (.slice Ao54 y363.length co54)) (fun _ hk => trivial)⟩, ⟨by (with_reducible repeat (first | apply Kd.zE | apply Kd.zF | apply Kd.zG)); exact Kd.zQ (Kd.zN (p := ⟨gb345, 1, none⟩) (Kd.zR HO_346000.out BK345.out (by decide)) (fun _ hk => hk.2) (.slice Ao54 y363.length co54)) (fun _ hk => trivial)⟩, ⟨by (with_reducible repeat (first | apply Kd.zE | apply Kd.zF | apply Kd.zG)); exact Kd.zQ (Kd.zN (p := ⟨gb345, 1, none⟩) (Kd.zR HO365.out BK345.out (by decide)) (fun _ hk => hk.2) (.slice Ao54 y363.length co54)) (fun _ hk => trivial)⟩, ⟨by (with_reducible repeat (first | refine zC ?_ _ | refine zD ?_ | refine zB ?_ _)); refine blk_far ?_ NB338_345.out _; (with_reducible repeat (first | refine zC ?_ _ | refine zD ?_ | refine zB ?_ _)); exact BK338.out⟩, ⟨by (with_reducible repeat (first | refine zC ?_ _ | refine zD ?_ | refine zB ?_ _)); refine blk_put (cs := #[.slice Ao9 t339.length co9, u346001]) ?_ 1 _ rfl; (with_reducible repeat (first | refine zC ?_ _ | refine zD ?_ | refine zB ?_ _)); exact BK345.out⟩, ⟨aL HB⟩⟩
   rw [if_pos c37] at H; have c37b0 : decide ((rd t340 x27_1) < (l3.length : Int)) = true := decide_eq_true c37
   clear c37; obtain ⟨bq38, hbq38⟩ : ∃ b_ : Bool, b_ = (rdOf false l3 (rd t340 x27_1)) := ⟨_, rfl⟩; replace H : (if bq38 = true then (if x346001_1.length < 140737488355328 then (items_Make.l0 kj24 l0 l2 l3 t340 (t340.length : Int) (wrap64 (x27_1 + 1)) t339 (x346001_1 ++ [3])) else (none)) else (if x346001_1.length < 140737488355328 then (items_Make.l0 kj24 l0 l2 l3 t340 (t340.length : Int) (wrap64 (x27_1 + 1)) t339 (x346001_1 ++ [rd l2 (rd t340 x27_1)])) else (none))) = some (r1, r2) := by rw [← hbq38] at H; exact H
   have Nbq38 := zA.mk hbq38; clear hbq38; by_cases c39 : bq38 = true
   ·subst c39
    have H1 : (if x346001_1.length < 140737488355328 then (items_Make.l0 kj24 l0 l2 l3 t340 (t340.length : Int) (wrap64 (x27_1 + 1)) t339 (x346001_1 ++ [3])) else (none)) = some (r1, r2) := by rw [if_pos rfl] at H; exact H
    clear H; have H := H1; clear H1; by_cases c40 : x346001_1.length < 140737488355328
    rotate_left
    ·rw [if_neg c40] at H
     exact absurd H (by simp)
    rw [if_pos c40] at H; have LMc40 := zA.mk c40; clear c40; obtain ⟨y355, hy355⟩ : ∃ y_ : List Int, y_ = (x346001_1 ++ [3]) := ⟨_, rfl⟩; replace H : (items_Make.l0 kj24 l0 l2 l3 t340 (t340.length : Int) (wrap64 (x27_1 + 1)) t339 y355) = some (r1, r2) := by first | (rw [hy355]; with_reducible exact H) | (have H2_ := (Option.bind_some _ _).symm.trans H; rw [hy355]; with_reducible exact H2_) | (have H2_ := (Option.bind_some _ _).symm.trans H; with_reducible exact H2_) | with_reducible exact H | (rw [hy355]; exact H) | exact H
    have Ny355 := zA.mk hy355; clear hy355; have H' := zA.mk H
    clear H; have p353 : 0 ≤ ((rd t340 x27_1) : Int) := aD
    have q353 : (rd t340 x27_1) < (l2.length : Int) := aD
    obtain ⟨ad353, e353, hx353_0⟩ := Kd.at_int HR2.out (rd t340 x27_1) p353 q353; cases e353
    replace hx353_0 := (HB.out.cell (World.block_lt_of_cell? w _ hx353_0)).trans hx353_0; replace p353 := eq_true p353; replace q353 := eq_true q353; have p354 : 0 ≤ ((rd t340 x27_1) : Int) := aD
    have q354 : (rd t340 x27_1) < (l3.length : Int) := aD
    obtain ⟨ad354, e354, hx354_0⟩ := Kd.at_bool HR3.out (rd t340 x27_1) p354 q354; (try rw [← Nbq38.out] at hx354_0)
    cases e354
    replace hx354_0 := (HB.out.cell (World.block_lt_of_cell? w _ hx354_0)).trans hx354_0; replace p354 := eq_true p354; replace q354 := eq_true q354; have hnb41 := NB345_338.out; have hnc41 := NB338_345.out; obtain ⟨hcz42_0, hcz42_1, hfz42_0, hfz42_1⟩ := aC2 BK345; go_wp2_with (first | ((with_reducible refine gate_builtin (b := .append) (xs := #[.tmp 83, .tmp 84]) rfl ?_); (try (refine gate_guard (by rfl) ?_; dsimp only)); at_builtin; refine Kd.R_append (Kd.int .u8) (w0 := w) w.heap.size rfl (.tmp 83) (.tmp 84) 38 53 (.int .u8 0) 1 rfl Try.underlying38 info53 rfl (by decide) (by omega) u346001 x346001_1 3 [.int .u8 3] (fun _ => True) (fun _ => False) rfl rfl ?aP (fun _ hk => hk.elim) ?aF ?aO ?aB ?aS ?aL ?_; (case aP => exact rfl); (case aB => exact (aL HB)); (case aF => exact (fun _ _ => trivial)); (case aO => exact (aR HO_346001)); (case aS => exact (below_size (aL HB))); (case aL => have := LMc40.out; omega); intro v356 w43 ho hb hg hat; rw [← Ny355.out] at ho; replace HO_25 := zA.mk (Kd.R_over' (aR HO_25) (Kd.R_typed (aR HO_346001)) (by decide) hg); replace HO_346000 := zA.mk (Kd.R_over' (aR HO_346000) (Kd.R_typed (aR HO_346001)) (by decide) hg); replace BK338 := zA.mk (blk_grown (g := gb338) (o := .cells #[.slice none 0 0, .slice none 0 0] 60 (0, 0)) (aB BK338) hg (Kd.R_ne HO_346001.out BK338.out (by decide))); replace BK345 := zA.mk (blk_grown (g := gb345) (o := .cells #[.slice Ao9 t339.length co9, u346001] 60 (0, 0)) (aB BK345) hg (Kd.R_ne HO_346001.out BK345.out (by decide))); replace HB := zA.mk (hb); have HO357 := zA.mk (ho); clear HO_346001; clear ho hb hg hat; obtain ⟨Ao44, co44, eo44⟩ := Kd.zO HO357.out; subst eo44; obtain ⟨hcz45_0, hcz45_1, hfz45_0, hfz45_1⟩ := aC2 BK345))
    go_roundg kj24
    case measure => have := HK1.out; have := HJ24.out; omega
    case rel => exact ⟨(wrap64 (x27_1 + 1)), (y355), (.slice Ao44 y355.length co44), aZ, H', ⟨by have := HK1.out; have := HJ24.out; omega⟩, ⟨by (with_reducible repeat (first | apply Kd.zE | apply Kd.zF | apply Kd.zG)); exact Kd.zQ (Kd.zN (p := ⟨gb345, 1, none⟩) (Kd.zR HO_25.out BK345.out (by decide)) (fun _ hk => hk.2) (.slice Ao44 y355.length co44)) (fun _ hk => trivial)⟩, ⟨by (with_reducible repeat (first | apply Kd.zE | apply Kd.zF | apply Kd.zG)); exact Kd.zQ (Kd.zN (p := ⟨gb345, 1, none⟩) (Kd.zR HO_346000.out BK345.out (by decide)) (fun _ hk => hk.2) (.slice Ao44 y355.length co44)) (fun _ hk => trivial)⟩, ⟨by (with_reducible repeat (first | apply Kd.zE | apply Kd.zF | apply Kd.zG)); exact Kd.zQ (Kd.zN (p := ⟨gb345, 1, none⟩) (Kd.zR HO357.out BK345.out (by decide)) (fun _ hk => hk.2) (.slice Ao44 y355.length co44)) (fun _ hk => trivial)⟩, ⟨by (with_reducible repeat (first | refine zC ?_ _ | refine zD ?_ | refine zB ?_ _)); refine blk_far ?_ NB338_345.out _; (with_reducible repeat (first | refine zC ?_ _ | refine zD ?_ | refine zB ?_ _)); exact BK338.out⟩, ⟨by (with_reducible repeat (first | refine zC ?_ _ | refine zD ?_ | refine zB ?_ _)); refine blk_put (cs := #[.slice Ao9 t339.length co9, u346001]) ?_ 1 _ rfl; (with_reducible repeat (first | refine zC ?_ _ | refine zD ?_ | refine zB ?_ _)); exact BK345.out⟩, ⟨aL HB⟩⟩
   replace c39 := Bool.eq_false_iff.mpr c39; subst c39; have H1 : (if x346001_1.length < 140737488355328 then (items_Make.l0 kj24 l0 l2 l3 t340 (t340.length : Int) (wrap64 (x27_1 + 1)) t339 (x346001_1 ++ [rd l2 (rd t340 x27_1)])) else (none)) = some (r1, r2) := by rw [if_neg (show ¬ (false = true) by decide)] at H; exact H
   clear H; have H := H1; clear H1; by_cases c46 : x346001_1.length < 140737488355328
   rotate_left
   ·rw [if_neg c46] at H
    exact absurd H (by simp)
   rw [if_pos c46] at H; have LMc46 := zA.mk c46; clear c46; obtain ⟨y359, hy359⟩ : ∃ y_ : List Int, y_ = (x346001_1 ++ [rd l2 (rd t340 x27_1)]) := ⟨_, rfl⟩; replace H : (items_Make.l0 kj24 l0 l2 l3 t340 (t340.length : Int) (wrap64 (x27_1 + 1)) t339 y359) = some (r1, r2) := by first | (rw [hy359]; with_reducible exact H) | (have H2_ := (Option.bind_some _ _).symm.trans H; rw [hy359]; with_reducible exact H2_) | (have H2_ := (Option.bind_some _ _).symm.trans H; with_reducible exact H2_) | with_reducible exact H | (rw [hy359]; exact H) | exact H
   have Ny359 := zA.mk hy359; clear hy359; have H' := zA.mk H
   clear H; have p353 : 0 ≤ ((rd t340 x27_1) : Int) := aD
   have q353 : (rd t340 x27_1) < (l2.length : Int) := aD
   obtain ⟨ad353, e353, hx353_0⟩ := Kd.at_int HR2.out (rd t340 x27_1) p353 q353; cases e353
   replace hx353_0 := (HB.out.cell (World.block_lt_of_cell? w _ hx353_0)).trans hx353_0; replace p353 := eq_true p353; replace q353 := eq_true q353; have p354 : 0 ≤ ((rd t340 x27_1) : Int) := aD
   have q354 : (rd t340 x27_1) < (l3.length : Int) := aD
   obtain ⟨ad354, e354, hx354_0⟩ := Kd.at_bool HR3.out (rd t340 x27_1) p354 q354; (try rw [← Nbq38.out] at hx354_0)
   cases e354
   replace hx354_0 := (HB.out.cell (World.block_lt_of_cell? w _ hx354_0)).trans hx354_0; replace p354 := eq_true p354; replace q354 := eq_true q354; try go_wp2
   replace HO_25 := zA.mk (Kd.zG HO_25.out); replace HO_346000 := zA.mk (Kd.zG HO_346000.out); replace HO_346001 := zA.mk (Kd.zG HO_346001.out); replace BK338 := zA.mk (zD BK338.out); replace BK345 := zA.mk (zD BK345.out); replace HB := zA.mk (below_drew1 HB.out); have p358 : 0 ≤ ((rd t340 x27_1) : Int) := aD
   have q358 : (rd t340 x27_1) < (l2.length : Int) := aD
   obtain ⟨ad358, e358, hx358_0⟩ := Kd.at_int HR2.out (rd t340 x27_1) p358 q358; have hw358_0 := hx358_0; obtain rfl : ad353 = ad358 := (by injection e358)
   replace hx358_0 := (HB.out.cell (World.block_lt_of_cell? w _ hx358_0)).trans hx358_0; replace p358 := eq_true p358; replace q358 := eq_true q358; refine start_ (n := 10) (S := fun w' => w'.cell? ⟨gb345, 0, none⟩ = some (.slice Ao9 t339.length co9) ∧ w'.cell? ⟨gb345, 1, none⟩ = some (u346001) ∧ w'.cell? (ad353.add ((rd t340 x27_1)).toNat) = some (.int .u8 (rd l2 (rd t340 x27_1)))) (ds := [9]) #[false, false, false, false, false, false, false, false, false, false] (by kernel_rfl) rfl rfl ⟨(blk_cell BK345.out 0).trans rfl, (blk_cell BK345.out 1).trans rfl, ((HB.out.cell (World.block_lt_of_cell? w _ hw358_0)).trans hw358_0)⟩ (fun hHeld => ?_); refine with_tabW items_Make.tab6 items_Make.bits6 (fun HT_ HW_ => ?_)
   generalize wc.drew = w47 at HO_25 HO_346000 HO_346001 BK338 BK345 HB hx358_0 hHeld ⊢
   refine aP 0 (some 31) (tf_ 1 10) HT_ ?_
   refine aP 2 (some 33) (tb_ 5 10) HT_ ?_
   refine aP 3 (some 34) (tb_ 13 10) HT_ ?_
   refine aP 4 (some 35) (tb_ 29 10) HT_ ?_
   refine take_ (i := 1) (N := some 32) (v := ?_) (a' := ?_) (tf_ 5 10) rfl rfl (take_ofW HT_.out HW_.out (by kernel_rfl)) (fun _ _ _ h => h) (Or.inl ⟨by rfl, ?_⟩) hHeld ?_ ?_
   rotate_left
   ·rintro w' ⟨s0, s1, s2⟩
    go_simp
    with_reducible rfl
   rotate_left
   ·simp only [Act.put, sA_, sB_, sC_, i64_w, i32_w]
    rfl
   refine take_ (i := 5) (N := some 36) (v := ?_) (a' := ?_) (tf_ 6 10) rfl rfl (take_ofW HT_.out HW_.out (by kernel_rfl)) (fun _ _ _ h => h) (Or.inl ⟨by rfl, ?_⟩) hHeld ?_ ?_
   rotate_left
   ·rintro w' ⟨s0, s1, s2⟩
    go_simp
    with_reducible rfl
   rotate_left
   ·simp only [Act.put, sA_, sB_, sC_, i64_w, i32_w]
    rfl
   refine one_ (i := 6) (N := some 37) (tb_ 127 10) rfl rfl (one_of HT_.out (by kernel_rfl)) (by decide) (fun K hK => ?_)
   refine value_ (w1 := ?_) (v := ?_) (by rfl) rfl ?_ ?_
   rotate_left 2
   ·go_simp
    constructor
    ·rfl
    rfl
   refine hK.out _ _ ⟨(blk_cell (zB BK345.out _) 0).trans rfl, (blk_cell (zB BK345.out _) 1).trans rfl, (World.cell?_alloc_lt _ _ _ (World.block_lt_of_cell? _ _ (((HB.out.cell (World.block_lt_of_cell? w _ hw358_0)).trans hw358_0)))).trans (((HB.out.cell (World.block_lt_of_cell? w _ hw358_0)).trans hw358_0))⟩ (fun hHeld => ?_)
   clear hK K; refine norm_ (a' := ?_) ?_ ?_
   rotate_left
   ·show Act.put _ (some 37) _ = _
    simp only [Act.put, sA_, sB_, sC_, i64_w, i32_w]; rfl
   refine one_ (i := 7) (N := some 38) (tb_ 255 10) rfl rfl (one_of HT_.out (by kernel_rfl)) (by decide) (fun K hK => ?_)
   refine Kd.R_append_step (Kd.int .u8) (w0 := w) w.heap.size (by rfl) (.tmp 32) (.tmp 37) 38 53 (.int .u8 0) 1 rfl Try.underlying38 info53 rfl (by decide) (by omega) u346001 x346001_1 (rd l2 (rd t340 x27_1)) [.int .u8 (rd l2 (rd t340 x27_1))] (fun _ => True) (fun _ => False) rfl rfl ?aP (fun _ hk => hk.elim) ?aF ?aO ?aB ?aS ?aL ?_
   (case aP => exact rfl)
   (case aB => exact (aL HB))
   (case aF => exact (fun _ _ => trivial))
   (case aO => exact (aR HO_346001))
   (case aS => exact (below_size (aL HB)))
   (case aL => have := LMc46.out; omega)
   intro v360 w48 ho hb hg hat
   rw [← Ny359.out] at ho; replace HO_25 := zA.mk (Kd.R_over' (aR HO_25) (Kd.R_typed (aR HO_346001)) (by decide) hg)
   replace HO_346000 := zA.mk (Kd.R_over' (aR HO_346000) (Kd.R_typed (aR HO_346001)) (by decide) hg)
   replace BK338 := zA.mk (blk_grown (g := gb338) (o := .cells #[.slice none 0 0, .slice none 0 0] 60 (0, 0)) (aB BK338) hg (Kd.R_ne HO_346001.out BK338.out (by decide)))
   replace BK345 := zA.mk (blk_grown (g := gb345) (o := .cells #[.slice Ao9 t339.length co9, u346001] 60 (0, 0)) (aB BK345) hg (Kd.R_ne HO_346001.out BK345.out (by decide)))
   replace HB := zA.mk (hb); have HO361 := zA.mk (ho); clear HO_346001; clear ho hb hg hat; obtain ⟨Ao49, co49, eo49⟩ := Kd.zO HO361.out; (first | subst eo49 | (injection eo49 with f1_ f2_ f3_; have f4_ := f1_.symm; have f5_ := f3_.symm; clear f1_ f2_ f3_; subst f4_; subst f5_))
   refine hK.out _ _ ⟨(blk_cell BK345.out 0).trans rfl, (blk_cell BK345.out 1).trans rfl, ((HB.out.cell (World.block_lt_of_cell? w _ hw358_0)).trans hw358_0)⟩ (fun hHeld => ?_)
   clear hK K; refine norm_ (a' := ?_) ?_ ?_
   rotate_left
   ·show Act.put _ (some 38) _ = _
    simp only [Act.put, sA_, sB_, sC_, i64_w, i32_w]; rfl
   refine aP 8 (some 39) (tf_ 9 10) HT_ ?_
   refine last_ (i := 9) (N := none) (tb_ 1023 10) rfl rfl (one_of HT_.out (by kernel_rfl)) (by decide) (fun K hK => ?_)
   have hs50 : w48.cell? ⟨gb345, 1, none⟩ = some (u346001) := (blk_cell BK345.out 1).trans rfl
   have hfs50 := blk_frozen BK345.out 1; have hns50_0 := NB338_345.out; have hms50_0 := NB345_338.out; refine skip_ (w1 := ?_) (by rfl) rfl ?_ ?_
   rotate_left
   ·go_simp
    rfl
   refine hK.out _ _ ?_
   clear hK K; refine done_ (done_of HT_.out (by kernel_rfl)) ?_
   try go_wp2
   go_roundg kj24
   case measure => have := HK1.out; have := HJ24.out; omega
   case rel => exact ⟨(wrap64 (x27_1 + 1)), (y359), (.slice Ao49 y359.length co49), aZ, H', ⟨by have := HK1.out; have := HJ24.out; omega⟩, ⟨by (with_reducible repeat (first | apply Kd.zE | apply Kd.zF | apply Kd.zG)); exact Kd.zQ (Kd.zN (p := ⟨gb345, 1, none⟩) (Kd.zR HO_25.out BK345.out (by decide)) (fun _ hk => hk.2) (.slice Ao49 y359.length co49)) (fun _ hk => trivial)⟩, ⟨by (with_reducible repeat (first | apply Kd.zE | apply Kd.zF | apply Kd.zG)); exact Kd.zQ (Kd.zN (p := ⟨gb345, 1, none⟩) (Kd.zR HO_346000.out BK345.out (by decide)) (fun _ hk => hk.2) (.slice Ao49 y359.length co49)) (fun _ hk => trivial)⟩, ⟨by (with_reducible repeat (first | apply Kd.zE | apply Kd.zF | apply Kd.zG)); exact Kd.zQ (Kd.zN (p := ⟨gb345, 1, none⟩) (Kd.zR HO361.out BK345.out (by decide)) (fun _ hk => hk.2) (.slice Ao49 y359.length co49)) (fun _ hk => trivial)⟩, ⟨by (with_reducible repeat (first | refine zC ?_ _ | refine zD ?_ | refine zB ?_ _)); refine blk_far ?_ NB338_345.out _; (with_reducible repeat (first | refine zC ?_ _ | refine zD ?_ | refine zB ?_ _)); exact BK338.out⟩, ⟨by (with_reducible repeat (first | refine zC ?_ _ | refine zD ?_ | refine zB ?_ _)); refine blk_put (cs := #[.slice Ao9 t339.length co9, u346001]) ?_ 1 _ rfl; (with_reducible repeat (first | refine zC ?_ _ | refine zD ?_ | refine zB ?_ _)); exact BK345.out⟩, ⟨aL HB⟩⟩
mutual
def items_Check.j0 : Nat → Bool → List (S48) → List Int → Option (Bool)
 | 0, _, _, _ => none
 | k + 1, x36, x371000, x371001 => if x36 = true then (some false) else (items_Check.l0 k 0 x371000 (x371000.length : Int) 0 x371000 x371001)
def items_Check.l0 : Nat → Int → List (S48) → Int → Int → List (S48) → List Int → Option (Bool)
 | 0, _, _, _, _, _, _ => none
 | k + 1, x3, x38, x39, x40, x371000, x371001 => if x40 < x39 then (if 0 ≤ x40 then (if x40 < (x38.length : Int) then (if ((rd_T48 x38 x40).f0) = x3 then (if ((rd_T48 x38 x40).f1) < 1 then (some false) else (if ((rd_T48 x38 x40).f1) > (wrap64 (4096 - x3)) then (some false) else (if ((rd_T48 x38 x40).f2) < 0 then (some false) else (if ((rd_T48 x38 x40).f2) > 2 then (some false) else (if ((rd_T48 x38 x40).f3) > 2 then (some false) else (if x40 < (x371001.length : Int) then (if (rd x371001 x40) > 3 then (some false) else (items_Check.l0 k (wrap64 (x3 + ((rd_T48 x38 x40).f1))) x38 x39 (wrap64 (x40 + 1)) x371000 x371001)) else (none))))))) else (some false)) else (none)) else (none)) else (some true)
end
def items_Check.f (k : Nat) (l0_0 : List (S48)) (l0_1 : List Int) : Option (Bool) := if (l0_1.length : Int) = (wrap64 ((l0_0.length : Int) + 1)) then (if 0 ≤ (l0_0.length : Int) then (if (l0_0.length : Int) < (l0_1.length : Int) then (if (rd l0_1 (l0_0.length : Int)) = 2 then (if (l0_0.length : Int) > 0 then (if 0 < (l0_1.length : Int) then (items_Check.j0 k ((rd l0_1 0) != 0) l0_0 l0_1) else (none)) else (items_Check.j0 k false l0_0 l0_1)) else (items_Check.j0 k true l0_0 l0_1)) else (none)) else (none)) else (items_Check.j0 k true l0_0 l0_1)
theorem items_Check.mono_l : ∀ k, (∀ y0 y1 y2, LeO (items_Check.j0 k y0 y1 y2) (items_Check.j0 (k + 1) y0 y1 y2)) ∧ (∀ y0 y1 y2 y3 y4 y5, LeO (items_Check.l0 k y0 y1 y2 y3 y4 y5) (items_Check.l0 (k + 1) y0 y1 y2 y3 y4 y5))
 | 0 => ⟨fun _ _ _ r h => by simp [items_Check.j0] at h, fun _ _ _ _ _ _ r h => by simp [items_Check.l0] at h⟩
 | k + 1 => by
  obtain ⟨ih0, ih1⟩ := items_Check.mono_l k; refine ⟨?_, ?_⟩
  ·intro y0 y1 y2
   unfold items_Check.j0
   repeat' (with_reducible first | exact ih0 _ _ _ | exact ih1 _ _ _ _ _ _ | exact LeO.refl _ | exact LeO.none _ | refine LeO.ite ?_ ?_ | refine LeO.bind ?_ (fun _ => ?_))
  ·intro y0 y1 y2 y3 y4 y5
   unfold items_Check.l0
   repeat' (with_reducible first | exact ih0 _ _ _ | exact ih1 _ _ _ _ _ _ | exact LeO.refl _ | exact LeO.none _ | refine LeO.ite ?_ ?_ | refine LeO.bind ?_ (fun _ => ?_))
theorem items_Check.mono : ∀ a0 a1 k, LeO (items_Check.f k a0 a1) (items_Check.f (k + 1) a0 a1) := by
 intro a0 a1 k
 obtain ⟨ih0, ih1⟩ := items_Check.mono_l k; unfold items_Check.f
 repeat' (with_reducible first | exact ih0 _ _ _ | exact ih1 _ _ _ _ _ _ | exact LeO.refl _ | exact LeO.none _ | refine LeO.ite ?_ ?_ | refine LeO.bind ?_ (fun _ => ?_))
set_option maxHeartbeats 8000000 in
set_option maxRecDepth 100000 in
theorem items_Check.calls (k : Nat) (A0_0 : Option Addr) (c0_0 : Nat) (l0_0 : List (S48)) (A0_1 : Option Addr) (c0_1 : Nat) (l0_1 : List Int) (r : Bool) (w : World) (hr0_0 : Kd.C k48 w A0_0 l0_0.length l0_0) (hc0_0 : l0_0.length ≤ c0_0) (hr0_1 : Kd.C (Kd.int .u8) w A0_1 l0_1.length l0_1) (hc0_1 : l0_1.length ≤ c0_1) (h : items_Check.f k l0_0 l0_1 = some r) :
  Calls Try.prog 28 #[.agg #[.slice A0_0 l0_0.length c0_0, .slice A0_1 l0_1.length c0_1]] w fun e w' => e = .returned (.bool r) ∧ Below w.heap.size w w' := by
 have hu60 := Try.underlying60; have hu48 := Try.underlying48; have HR0_0 := zA.mk hr0_0; have HC0_0 := zA.mk hc0_0; clear hr0_0 hc0_0; have HR0_1 := zA.mk hr0_1; have HC0_1 := zA.mk hc0_1; clear hr0_1 hc0_1; have HB := zA.mk (Below.refl w.heap.size w); have H : (if (l0_1.length : Int) = (wrap64 ((l0_0.length : Int) + 1)) then (if 0 ≤ (l0_0.length : Int) then (if (l0_0.length : Int) < (l0_1.length : Int) then (if (rd l0_1 (l0_0.length : Int)) = 2 then (if (l0_0.length : Int) > 0 then (if 0 < (l0_1.length : Int) then (items_Check.j0 k ((rd l0_1 0) != 0) l0_0 l0_1) else (none)) else (items_Check.j0 k false l0_0 l0_1)) else (items_Check.j0 k true l0_0 l0_1)) else (none)) else (none)) else (items_Check.j0 k true l0_0 l0_1)) = some r := h
 clear h; have HC2 := zA.mk H; clear H; go_enter Try.func28, Try.ntmps28
 go_upto_region 1 with (first | ((with_reducible refine gate_dst (N := 1) rfl ?_); (try (refine gate_guard (by rfl) ?_; dsimp only)); refine box_event ?hg (N := 1) ?hd (cs := #[.slice A0_0 l0_0.length c0_0, .slice A0_1 l0_1.length c0_1]) (t := 60) ?hr ?_; (case hd => rfl); (case hg => rfl); (case hr => first | (go_simp; done) | (go_simp; rfl)); intro gb370 hg w3 hbox hb; have BK370 := zA.mk (hbox); have GW370 := zA.mk ((by rw [hg]; exact (below_size (aL HB)) : w.heap.size ≤ gb370)); replace HB := zA.mk (below_step (aL HB) hb); have GE370 := GW370; clear hb hbox hg))
 (try simp only [Act.put, sA_, sB_, sC_])
 go_cut [36] (fun v36 wc => ∃ (kq : Nat) (x36_1 : Bool), v36 = .bool x36_1 ∧ zA (items_Check.j0 kq x36_1 l0_0 l0_1 = some r) ∧ zA (kq ≤ k) ∧ zA (wc.heap[gb370]? = some (.cells #[(.slice A0_0 l0_0.length c0_0), (.slice A0_1 l0_1.length c0_1)] 60 (0, 0))) ∧ zA (Below w.heap.size w wc))
 case first =>
  have H := HC2.out; clear HC2; by_cases c4 : (l0_1.length : Int) = (wrap64 ((l0_0.length : Int) + 1))
  rotate_left
  ·rw [if_neg c4] at H
   have c4b0 : ((l0_1.length : Int) == (wrap64 ((l0_0.length : Int) + 1))) = false := beq_eq_false_iff_ne.mpr c4
   have c4b1 : ((l0_1.length : Int) != (wrap64 ((l0_0.length : Int) + 1))) = true := bne_iff_ne.mpr c4
   (first | rw [c4b0] | (simp only [i64_w, i32_w]; rw [c4b0]) | skip)
   have H' := zA.mk H
   clear H; obtain ⟨hcz13_0, hcz13_1, hfz13_0, hfz13_1⟩ := aC2 BK370; go_wp2
   go_meet
   case rel => exact ⟨_, (true), aZ, H', ⟨by first | omega | exact Nat.le_refl _⟩, ⟨aB BK370⟩, ⟨aL HB⟩⟩
  rw [if_pos c4] at H; have c4b0 : ((l0_1.length : Int) == (wrap64 ((l0_0.length : Int) + 1))) = true := beq_iff_eq.mpr c4
  have c4b1 : ((l0_1.length : Int) != (wrap64 ((l0_0.length : Int) + 1))) = false := bne_eq_false_iff_eq.mpr c4
  clear c4; (first | rw [c4b0] | (simp only [i64_w, i32_w]; rw [c4b0]) | skip)
  by_cases c5 : 0 ≤ (l0_0.length : Int)
  rotate_left
  ·rw [if_neg c5] at H
   exact absurd H (by simp)
  rw [if_pos c5] at H; have c5b0 : decide (0 ≤ (l0_0.length : Int)) = true := decide_eq_true c5
  have c5b1 : decide (0 ≤ l0_0.length) = true := decide_eq_true (by omega)
  clear c5; by_cases c6 : (l0_0.length : Int) < (l0_1.length : Int)
  rotate_left
  ·rw [if_neg c6] at H
   exact absurd H (by simp)
  rw [if_pos c6] at H; have c6b0 : decide ((l0_0.length : Int) < (l0_1.length : Int)) = true := decide_eq_true c6
  have c6b1 : decide (l0_0.length < l0_1.length) = true := decide_eq_true (Int.ofNat_lt.mp c6)
  clear c6; by_cases c7 : (rd l0_1 (l0_0.length : Int)) = 2
  rotate_left
  ·rw [if_neg c7] at H
   have c7b0 : ((rd l0_1 (l0_0.length : Int)) == 2) = false := beq_eq_false_iff_ne.mpr c7
   have c7b1 : ((rd l0_1 (l0_0.length : Int)) != 2) = true := bne_iff_ne.mpr c7
   have H' := zA.mk H
   clear H; obtain ⟨hcz12_0, hcz12_1, hfz12_0, hfz12_1⟩ := aC2 BK370; have p371 : 0 ≤ ((l0_0.length : Int) : Int) := aD
   have q371 : (l0_0.length : Int) < (l0_1.length : Int) := aD
   obtain ⟨ad371, e371, hx371_0⟩ := Kd.at_int HR0_1.out (l0_0.length : Int) p371 q371; cases e371
   replace hx371_0 := (HB.out.cell (World.block_lt_of_cell? w _ hx371_0)).trans hx371_0; (try simp only [Go.IntWalk.toNatUp] at hx371_0)
   replace p371 := eq_true p371; replace q371 := eq_true q371; go_wp2
   go_meet
   case rel => exact ⟨_, (true), aZ, H', ⟨by first | omega | exact Nat.le_refl _⟩, ⟨aB BK370⟩, ⟨aL HB⟩⟩
  rw [if_pos c7] at H; have c7b0 : ((rd l0_1 (l0_0.length : Int)) == 2) = true := beq_iff_eq.mpr c7
  have c7b1 : ((rd l0_1 (l0_0.length : Int)) != 2) = false := bne_eq_false_iff_eq.mpr c7
  clear c7; by_cases c8 : (l0_0.length : Int) > 0
  rotate_left
  ·rw [if_neg c8] at H
   have c8b0 : decide (0 < (l0_0.length : Int)) = false := decide_eq_false c8
   have c8b1 : decide (0 < l0_0.length) = false := decide_eq_false (by omega)
   clear c8; have H' := zA.mk H
   clear H; obtain ⟨hcz11_0, hcz11_1, hfz11_0, hfz11_1⟩ := aC2 BK370; have p371 : 0 ≤ ((l0_0.length : Int) : Int) := aD
   have q371 : (l0_0.length : Int) < (l0_1.length : Int) := aD
   obtain ⟨ad371, e371, hx371_0⟩ := Kd.at_int HR0_1.out (l0_0.length : Int) p371 q371; cases e371
   replace hx371_0 := (HB.out.cell (World.block_lt_of_cell? w _ hx371_0)).trans hx371_0; (try simp only [Go.IntWalk.toNatUp] at hx371_0)
   replace p371 := eq_true p371; replace q371 := eq_true q371; go_wp2
   go_meet
   case rel => exact ⟨_, (false), aZ, H', ⟨by first | omega | exact Nat.le_refl _⟩, ⟨aB BK370⟩, ⟨aL HB⟩⟩
  rw [if_pos c8] at H; have c8b0 : decide (0 < (l0_0.length : Int)) = true := decide_eq_true c8
  have c8b1 : decide (0 < l0_0.length) = true := decide_eq_true (by omega)
  clear c8; by_cases c9 : 0 < (l0_1.length : Int)
  rotate_left
  ·rw [if_neg c9] at H
   exact absurd H (by simp)
  rw [if_pos c9] at H; have c9b0 : decide (0 < (l0_1.length : Int)) = true := decide_eq_true c9
  have c9b1 : decide (0 < l0_1.length) = true := decide_eq_true (by omega)
  clear c9; have H' := zA.mk H
  clear H; obtain ⟨hcz10_0, hcz10_1, hfz10_0, hfz10_1⟩ := aC2 BK370; have p371 : 0 ≤ ((l0_0.length : Int) : Int) := aD
  have q371 : (l0_0.length : Int) < (l0_1.length : Int) := aD
  obtain ⟨ad371, e371, hx371_0⟩ := Kd.at_int HR0_1.out (l0_0.length : Int) p371 q371; cases e371
  replace hx371_0 := (HB.out.cell (World.block_lt_of_cell? w _ hx371_0)).trans hx371_0; (try simp only [Go.IntWalk.toNatUp] at hx371_0)
  replace p371 := eq_true p371; replace q371 := eq_true q371; have p372 : 0 ≤ (0 : Int) := (by omega)
  have q372 : 0 < (l0_1.length : Int) := aD
  obtain ⟨ad372, e372, hx372_0⟩ := Kd.at_int HR0_1.out 0 p372 q372; obtain rfl : ad371 = ad372 := (by injection e372)
  have qi372 : (0 < l0_1.length) = True := eq_true (by omega)
  (try rw [show ((0 : Int)).toNat = 0 from rfl] at hx372_0)
  (try rw [Addr.add_zero'] at hx372_0)
  replace hx372_0 := (HB.out.cell (World.block_lt_of_cell? w _ hx372_0)).trans hx372_0; replace p372 := eq_true p372; replace q372 := eq_true q372; go_wp2
  go_meet
  case rel => exact ⟨_, (((rd l0_1 0) != 0)), aZ, H', ⟨by first | omega | exact Nat.le_refl _⟩, ⟨aB BK370⟩, ⟨aL HB⟩⟩
 clear HC2; obtain ⟨kq, x36_1, rfl, HA, HJ1, BK370, HB⟩ := hcut; cases kq with
 | zero => exact absurd HA.out (by simp [items_Check.j0])
 | succ kj1 =>
  have H := HA.out; clear HA; simp only [items_Check.j0] at H; by_cases c14 : x36_1 = true
  ·subst c14
   have H1 : (some false) = some r := by rw [if_pos rfl] at H; exact H
   clear H; have H := H1; clear H1; obtain rfl := Option.some.inj H
   go_wp2
   go_ret
   exact ⟨aX, aL HB⟩
  replace c14 := Bool.eq_false_iff.mpr c14; subst c14; have H1 : (items_Check.l0 kj1 0 l0_0 (l0_0.length : Int) 0 l0_0 l0_1) = some r := by rw [if_neg (show ¬ (false = true) by decide)] at H; exact H
  clear H; have H := H1; clear H1; have H' := zA.mk H
  clear H; obtain ⟨hcz15_0, hcz15_1, hfz15_0, hfz15_1⟩ := aC2 BK370; go_wp2
  go_loopg [3, 40] kj1 (fun kq v3 v40 w' => ∃ (x3_2 : Int) (x40_2 : Int), v3 = .int .i64 x3_2 ∧ v40 = .int .i64 x40_2 ∧ zA (items_Check.l0 kq x3_2 l0_0 (l0_0.length : Int) x40_2 l0_0 l0_1 = some r) ∧ zA (kq ≤ kj1) ∧ zA (w'.heap[gb370]? = some (.cells #[(.slice A0_0 l0_0.length c0_0), (.slice A0_1 l0_1.length c0_1)] 60 (0, 0))) ∧ zA (Below w.heap.size w w'))
  case atStart => exact ⟨(0), (0), aZ, aZ, H', ⟨Nat.le_refl _⟩, ⟨aB BK370⟩, ⟨aL HB⟩⟩
  clear H'; obtain ⟨x3_2, x40_2, rfl, rfl, HA, HK2, BK370, HB⟩ := hrel; cases gk with
  | zero => exact absurd HA.out (by simp [items_Check.l0])
  | succ k2 =>
   have H := HA.out; clear HA; simp only [items_Check.l0] at H; by_cases c16 : x40_2 < (l0_0.length : Int)
   rotate_left
   ·rw [if_neg c16] at H
    have c16b0 : decide (x40_2 < (l0_0.length : Int)) = false := decide_eq_false c16
    clear c16; obtain rfl := Option.some.inj H
    go_wp2
    go_ret
    exact ⟨aX, aL HB⟩
   rw [if_pos c16] at H; have c16b0 : decide (x40_2 < (l0_0.length : Int)) = true := decide_eq_true c16
   clear c16; by_cases c17 : 0 ≤ x40_2
   rotate_left
   ·rw [if_neg c17] at H
    exact absurd H (by simp)
   rw [if_pos c17] at H; have c17b0 : decide (0 ≤ x40_2) = true := decide_eq_true c17
   clear c17; by_cases c18 : x40_2 < (l0_0.length : Int)
   rotate_left
   ·rw [if_neg c18] at H
    exact absurd H (by simp)
   rw [if_pos c18] at H; have c18b0 : decide (x40_2 < (l0_0.length : Int)) = true := decide_eq_true c18
   clear c18; by_cases c19 : ((rd_T48 l0_0 x40_2).f0) = x3_2
   rotate_left
   ·rw [if_neg c19] at H
    have c19b0 : (((rd_T48 l0_0 x40_2).f0) == x3_2) = false := beq_eq_false_iff_ne.mpr c19
    have c19b1 : (((rd_T48 l0_0 x40_2).f0) != x3_2) = true := bne_iff_ne.mpr c19
    obtain rfl := Option.some.inj H
    have p373 : 0 ≤ (x40_2 : Int) := aD
    have q373 : x40_2 < (l0_0.length : Int) := aD
    obtain ⟨ad373, e373, hx373_0, hx373_1, hx373_2, hx373_3⟩ := at_T48 HR0_0.out x40_2 p373 q373; cases e373
    replace hx373_0 := (HB.out.cell (World.block_lt_of_cell? w _ hx373_0)).trans hx373_0; replace hx373_1 := (HB.out.cell (World.block_lt_of_cell? w _ hx373_1)).trans hx373_1; replace hx373_2 := (HB.out.cell (World.block_lt_of_cell? w _ hx373_2)).trans hx373_2; replace hx373_3 := (HB.out.cell (World.block_lt_of_cell? w _ hx373_3)).trans hx373_3; replace p373 := eq_true p373; replace q373 := eq_true q373; go_wp2_with (first | ((with_reducible refine gate_dst (N := 5) rfl ?_); (try (refine gate_guard (by rfl) ?_; dsimp only)); refine box_event ?hg (N := 5) ?hd (cs := #[.int .i64 0, .int .i64 0, .int .i64 0, .int .u8 0]) (t := 48) ?hr ?_; (case hd => rfl); (case hg => rfl); (case hr => first | (go_simp; done) | (go_simp; rfl)); intro gb374 hg w64 hbox hb; have BK374 := zA.mk (hbox); have GW374 := zA.mk ((by rw [hg]; exact (below_size (aL HB)) : w.heap.size ≤ gb374)); replace HB := zA.mk (below_step (aL HB) hb); have GE374 := GW374; have NB370_374 := zA.mk ((by rw [hg]; exact Nat.ne_of_lt (blk_lt (aB BK370)) : gb370 ≠ gb374)); have NB374_370 := zA.mk ((by rw [hg]; exact Nat.ne_of_gt (blk_lt (g := gb370) (o := .cells #[.slice (some ad373) l0_0.length c0_0, .slice A0_1 l0_1.length c0_1] 60 (0, 0)) (aB BK370)) : gb374 ≠ gb370)); replace BK370 := zA.mk (blk_below (aB BK370) hb); clear hb hbox hg; have hnb65 := NB374_370.out; have hnc65 := NB370_374.out; obtain ⟨hcz66_0, hcz66_1, hcz66_2, hcz66_3, hfz66_0, hfz66_1, hfz66_2, hfz66_3⟩ := aC4 BK374) | ((with_reducible refine gate_store (t := 48) (p := 5) rfl ?_); refine store_event (t := 48) (p := 5) (v := ?vo_w67) (w1 := ((((w64.setCell ⟨gb374, 0, none⟩ (.int .i64 ((rd_T48 l0_0 x40_2).f0))).setCell ⟨gb374, 1, none⟩ (.int .i64 ((rd_T48 l0_0 x40_2).f1))).setCell ⟨gb374, 2, none⟩ (.int .i64 ((rd_T48 l0_0 x40_2).f2))).setCell ⟨gb374, 3, none⟩ (.int .u8 ((rd_T48 l0_0 x40_2).f3)))) ?hg ?ho ?hn ?hr ?_; (case ho => rfl); (case hg => rfl); (case hn => rfl); (case hr => first | (go_simp; done) | (go_simp; rfl)); intro w67 hw; have n0_ : zA (w67.heap[gb370]? = some (.cells #[.slice (some ad373) l0_0.length c0_0, .slice A0_1 l0_1.length c0_1] 60 (0, 0))) := ⟨(by rw [hw]; exact (aB BK370))⟩; have n1_ : zA (w67.heap[gb374]? = some (.cells #[.int .i64 ((rd_T48 l0_0 x40_2).f0), .int .i64 ((rd_T48 l0_0 x40_2).f1), .int .i64 ((rd_T48 l0_0 x40_2).f2), .int .u8 ((rd_T48 l0_0 x40_2).f3)] 48 (0, 0))) := ⟨(by rw [hw]; exact (by (with_reducible repeat (first | refine zC ?_ _ | refine zD ?_ | refine zB ?_ _)); refine blk_put (cs := #[.int .i64 ((rd_T48 l0_0 x40_2).f0), .int .i64 ((rd_T48 l0_0 x40_2).f1), .int .i64 ((rd_T48 l0_0 x40_2).f2), .int .u8 0]) ?_ 3 _ rfl; (with_reducible repeat (first | refine zC ?_ _ | refine zD ?_ | refine zB ?_ _)); refine blk_put (cs := #[.int .i64 ((rd_T48 l0_0 x40_2).f0), .int .i64 ((rd_T48 l0_0 x40_2).f1), .int .i64 0, .int .u8 0]) ?_ 2 _ rfl; (with_reducible repeat (first | refine zC ?_ _ | refine zD ?_ | refine zB ?_ _)); refine blk_put (cs := #[.int .i64 ((rd_T48 l0_0 x40_2).f0), .int .i64 0, .int .i64 0, .int .u8 0]) ?_ 1 _ rfl; (with_reducible repeat (first | refine zC ?_ _ | refine zD ?_ | refine zB ?_ _)); refine blk_put (cs := #[.int .i64 0, .int .i64 0, .int .i64 0, .int .u8 0]) ?_ 0 _ rfl; (with_reducible repeat (first | refine zC ?_ _ | refine zD ?_ | refine zB ?_ _)); exact BK374.out))⟩; have n2_ : zA (Below w.heap.size w w67) := ⟨(by rw [hw]; exact (aL HB))⟩; clear hw; clear BK370; clear BK374; clear HB; have BK370 := n0_; have BK374 := n1_; have HB := n2_; clear n0_ n1_ n2_; obtain ⟨hcz68_0, hcz68_1, hcz68_2, hcz68_3, hfz68_0, hfz68_1, hfz68_2, hfz68_3⟩ := aC4 BK374))
    go_ret
    exact ⟨aX, aL HB⟩
   rw [if_pos c19] at H; have c19b0 : (((rd_T48 l0_0 x40_2).f0) == x3_2) = true := beq_iff_eq.mpr c19
   have c19b1 : (((rd_T48 l0_0 x40_2).f0) != x3_2) = false := bne_eq_false_iff_eq.mpr c19
   clear c19; by_cases c20 : ((rd_T48 l0_0 x40_2).f1) < 1
   ·rw [if_pos c20] at H
    have c20b0 : decide (((rd_T48 l0_0 x40_2).f1) < 1) = true := decide_eq_true c20
    clear c20; obtain rfl := Option.some.inj H
    have p373 : 0 ≤ (x40_2 : Int) := aD
    have q373 : x40_2 < (l0_0.length : Int) := aD
    obtain ⟨ad373, e373, hx373_0, hx373_1, hx373_2, hx373_3⟩ := at_T48 HR0_0.out x40_2 p373 q373; cases e373
    replace hx373_0 := (HB.out.cell (World.block_lt_of_cell? w _ hx373_0)).trans hx373_0; replace hx373_1 := (HB.out.cell (World.block_lt_of_cell? w _ hx373_1)).trans hx373_1; replace hx373_2 := (HB.out.cell (World.block_lt_of_cell? w _ hx373_2)).trans hx373_2; replace hx373_3 := (HB.out.cell (World.block_lt_of_cell? w _ hx373_3)).trans hx373_3; replace p373 := eq_true p373; replace q373 := eq_true q373; go_wp2_with (first | ((with_reducible refine gate_dst (N := 5) rfl ?_); (try (refine gate_guard (by rfl) ?_; dsimp only)); refine box_event ?hg (N := 5) ?hd (cs := #[.int .i64 0, .int .i64 0, .int .i64 0, .int .u8 0]) (t := 48) ?hr ?_; (case hd => rfl); (case hg => rfl); (case hr => first | (go_simp; done) | (go_simp; rfl)); intro gb374 hg w21 hbox hb; have BK374 := zA.mk (hbox); have GW374 := zA.mk ((by rw [hg]; exact (below_size (aL HB)) : w.heap.size ≤ gb374)); replace HB := zA.mk (below_step (aL HB) hb); have GE374 := GW374; have NB370_374 := zA.mk ((by rw [hg]; exact Nat.ne_of_lt (blk_lt (aB BK370)) : gb370 ≠ gb374)); have NB374_370 := zA.mk ((by rw [hg]; exact Nat.ne_of_gt (blk_lt (g := gb370) (o := .cells #[.slice (some ad373) l0_0.length c0_0, .slice A0_1 l0_1.length c0_1] 60 (0, 0)) (aB BK370)) : gb374 ≠ gb370)); replace BK370 := zA.mk (blk_below (aB BK370) hb); clear hb hbox hg; have hnb22 := NB374_370.out; have hnc22 := NB370_374.out; obtain ⟨hcz23_0, hcz23_1, hcz23_2, hcz23_3, hfz23_0, hfz23_1, hfz23_2, hfz23_3⟩ := aC4 BK374) | ((with_reducible refine gate_store (t := 48) (p := 5) rfl ?_); refine store_event (t := 48) (p := 5) (v := ?vo_w24) (w1 := ((((w21.setCell ⟨gb374, 0, none⟩ (.int .i64 ((rd_T48 l0_0 x40_2).f0))).setCell ⟨gb374, 1, none⟩ (.int .i64 ((rd_T48 l0_0 x40_2).f1))).setCell ⟨gb374, 2, none⟩ (.int .i64 ((rd_T48 l0_0 x40_2).f2))).setCell ⟨gb374, 3, none⟩ (.int .u8 ((rd_T48 l0_0 x40_2).f3)))) ?hg ?ho ?hn ?hr ?_; (case ho => rfl); (case hg => rfl); (case hn => rfl); (case hr => first | (go_simp; done) | (go_simp; rfl)); intro w24 hw; have n0_ : zA (w24.heap[gb370]? = some (.cells #[.slice (some ad373) l0_0.length c0_0, .slice A0_1 l0_1.length c0_1] 60 (0, 0))) := ⟨(by rw [hw]; exact (aB BK370))⟩; have n1_ : zA (w24.heap[gb374]? = some (.cells #[.int .i64 ((rd_T48 l0_0 x40_2).f0), .int .i64 ((rd_T48 l0_0 x40_2).f1), .int .i64 ((rd_T48 l0_0 x40_2).f2), .int .u8 ((rd_T48 l0_0 x40_2).f3)] 48 (0, 0))) := ⟨(by rw [hw]; exact (by (with_reducible repeat (first | refine zC ?_ _ | refine zD ?_ | refine zB ?_ _)); refine blk_put (cs := #[.int .i64 ((rd_T48 l0_0 x40_2).f0), .int .i64 ((rd_T48 l0_0 x40_2).f1), .int .i64 ((rd_T48 l0_0 x40_2).f2), .int .u8 0]) ?_ 3 _ rfl; (with_reducible repeat (first | refine zC ?_ _ | refine zD ?_ | refine zB ?_ _)); refine blk_put (cs := #[.int .i64 ((rd_T48 l0_0 x40_2).f0), .int .i64 ((rd_T48 l0_0 x40_2).f1), .int .i64 0, .int .u8 0]) ?_ 2 _ rfl; (with_reducible repeat (first | refine zC ?_ _ | refine zD ?_ | refine zB ?_ _)); refine blk_put (cs := #[.int .i64 ((rd_T48 l0_0 x40_2).f0), .int .i64 0, .int .i64 0, .int .u8 0]) ?_ 1 _ rfl; (with_reducible repeat (first | refine zC ?_ _ | refine zD ?_ | refine zB ?_ _)); refine blk_put (cs := #[.int .i64 0, .int .i64 0, .int .i64 0, .int .u8 0]) ?_ 0 _ rfl; (with_reducible repeat (first | refine zC ?_ _ | refine zD ?_ | refine zB ?_ _)); exact BK374.out))⟩; have n2_ : zA (Below w.heap.size w w24) := ⟨(by rw [hw]; exact (aL HB))⟩; clear hw; clear BK370; clear BK374; clear HB; have BK370 := n0_; have BK374 := n1_; have HB := n2_; clear n0_ n1_ n2_; obtain ⟨hcz25_0, hcz25_1, hcz25_2, hcz25_3, hfz25_0, hfz25_1, hfz25_2, hfz25_3⟩ := aC4 BK374))
    go_ret
    exact ⟨aX, aL HB⟩
   rw [if_neg c20] at H; have c20b0 : decide (((rd_T48 l0_0 x40_2).f1) < 1) = false := decide_eq_false c20
   clear c20; by_cases c26 : ((rd_T48 l0_0 x40_2).f1) > (wrap64 (4096 - x3_2))
   ·rw [if_pos c26] at H
    have c26b0 : decide ((wrap64 (4096 - x3_2)) < ((rd_T48 l0_0 x40_2).f1)) = true := decide_eq_true c26
    clear c26; obtain rfl := Option.some.inj H
    have p373 : 0 ≤ (x40_2 : Int) := aD
    have q373 : x40_2 < (l0_0.length : Int) := aD
    obtain ⟨ad373, e373, hx373_0, hx373_1, hx373_2, hx373_3⟩ := at_T48 HR0_0.out x40_2 p373 q373; cases e373
    replace hx373_0 := (HB.out.cell (World.block_lt_of_cell? w _ hx373_0)).trans hx373_0; replace hx373_1 := (HB.out.cell (World.block_lt_of_cell? w _ hx373_1)).trans hx373_1; replace hx373_2 := (HB.out.cell (World.block_lt_of_cell? w _ hx373_2)).trans hx373_2; replace hx373_3 := (HB.out.cell (World.block_lt_of_cell? w _ hx373_3)).trans hx373_3; replace p373 := eq_true p373; replace q373 := eq_true q373; go_wp2_with (first | ((with_reducible refine gate_dst (N := 5) rfl ?_); (try (refine gate_guard (by rfl) ?_; dsimp only)); refine box_event ?hg (N := 5) ?hd (cs := #[.int .i64 0, .int .i64 0, .int .i64 0, .int .u8 0]) (t := 48) ?hr ?_; (case hd => rfl); (case hg => rfl); (case hr => first | (go_simp; done) | (go_simp; rfl)); intro gb374 hg w27 hbox hb; have BK374 := zA.mk (hbox); have GW374 := zA.mk ((by rw [hg]; exact (below_size (aL HB)) : w.heap.size ≤ gb374)); replace HB := zA.mk (below_step (aL HB) hb); have GE374 := GW374; have NB370_374 := zA.mk ((by rw [hg]; exact Nat.ne_of_lt (blk_lt (aB BK370)) : gb370 ≠ gb374)); have NB374_370 := zA.mk ((by rw [hg]; exact Nat.ne_of_gt (blk_lt (g := gb370) (o := .cells #[.slice (some ad373) l0_0.length c0_0, .slice A0_1 l0_1.length c0_1] 60 (0, 0)) (aB BK370)) : gb374 ≠ gb370)); replace BK370 := zA.mk (blk_below (aB BK370) hb); clear hb hbox hg; have hnb28 := NB374_370.out; have hnc28 := NB370_374.out; obtain ⟨hcz29_0, hcz29_1, hcz29_2, hcz29_3, hfz29_0, hfz29_1, hfz29_2, hfz29_3⟩ := aC4 BK374) | ((with_reducible refine gate_store (t := 48) (p := 5) rfl ?_); refine store_event (t := 48) (p := 5) (v := ?vo_w30) (w1 := ((((w27.setCell ⟨gb374, 0, none⟩ (.int .i64 ((rd_T48 l0_0 x40_2).f0))).setCell ⟨gb374, 1, none⟩ (.int .i64 ((rd_T48 l0_0 x40_2).f1))).setCell ⟨gb374, 2, none⟩ (.int .i64 ((rd_T48 l0_0 x40_2).f2))).setCell ⟨gb374, 3, none⟩ (.int .u8 ((rd_T48 l0_0 x40_2).f3)))) ?hg ?ho ?hn ?hr ?_; (case ho => rfl); (case hg => rfl); (case hn => rfl); (case hr => first | (go_simp; done) | (go_simp; rfl)); intro w30 hw; have n0_ : zA (w30.heap[gb370]? = some (.cells #[.slice (some ad373) l0_0.length c0_0, .slice A0_1 l0_1.length c0_1] 60 (0, 0))) := ⟨(by rw [hw]; exact (aB BK370))⟩; have n1_ : zA (w30.heap[gb374]? = some (.cells #[.int .i64 ((rd_T48 l0_0 x40_2).f0), .int .i64 ((rd_T48 l0_0 x40_2).f1), .int .i64 ((rd_T48 l0_0 x40_2).f2), .int .u8 ((rd_T48 l0_0 x40_2).f3)] 48 (0, 0))) := ⟨(by rw [hw]; exact (by (with_reducible repeat (first | refine zC ?_ _ | refine zD ?_ | refine zB ?_ _)); refine blk_put (cs := #[.int .i64 ((rd_T48 l0_0 x40_2).f0), .int .i64 ((rd_T48 l0_0 x40_2).f1), .int .i64 ((rd_T48 l0_0 x40_2).f2), .int .u8 0]) ?_ 3 _ rfl; (with_reducible repeat (first | refine zC ?_ _ | refine zD ?_ | refine zB ?_ _)); refine blk_put (cs := #[.int .i64 ((rd_T48 l0_0 x40_2).f0), .int .i64 ((rd_T48 l0_0 x40_2).f1), .int .i64 0, .int .u8 0]) ?_ 2 _ rfl; (with_reducible repeat (first | refine zC ?_ _ | refine zD ?_ | refine zB ?_ _)); refine blk_put (cs := #[.int .i64 ((rd_T48 l0_0 x40_2).f0), .int .i64 0, .int .i64 0, .int .u8 0]) ?_ 1 _ rfl; (with_reducible repeat (first | refine zC ?_ _ | refine zD ?_ | refine zB ?_ _)); refine blk_put (cs := #[.int .i64 0, .int .i64 0, .int .i64 0, .int .u8 0]) ?_ 0 _ rfl; (with_reducible repeat (first | refine zC ?_ _ | refine zD ?_ | refine zB ?_ _)); exact BK374.out))⟩; have n2_ : zA (Below w.heap.size w w30) := ⟨(by rw [hw]; exact (aL HB))⟩; clear hw; clear BK370; clear BK374; clear HB; have BK370 := n0_; have BK374 := n1_; have HB := n2_; clear n0_ n1_ n2_; obtain ⟨hcz31_0, hcz31_1, hcz31_2, hcz31_3, hfz31_0, hfz31_1, hfz31_2, hfz31_3⟩ := aC4 BK374))
    go_ret
    exact ⟨aX, aL HB⟩
   rw [if_neg c26] at H; have c26b0 : decide ((wrap64 (4096 - x3_2)) < ((rd_T48 l0_0 x40_2).f1)) = false := decide_eq_false c26
   clear c26; by_cases c32 : ((rd_T48 l0_0 x40_2).f2) < 0
   ·rw [if_pos c32] at H
    have c32b0 : decide (((rd_T48 l0_0 x40_2).f2) < 0) = true := decide_eq_true c32
    clear c32; obtain rfl := Option.some.inj H
    have p373 : 0 ≤ (x40_2 : Int) := aD
    have q373 : x40_2 < (l0_0.length : Int) := aD
    obtain ⟨ad373, e373, hx373_0, hx373_1, hx373_2, hx373_3⟩ := at_T48 HR0_0.out x40_2 p373 q373; cases e373
    replace hx373_0 := (HB.out.cell (World.block_lt_of_cell? w _ hx373_0)).trans hx373_0; replace hx373_1 := (HB.out.cell (World.block_lt_of_cell? w _ hx373_1)).trans hx373_1; replace hx373_2 := (HB.out.cell (World.block_lt_of_cell? w _ hx373_2)).trans hx373_2; replace hx373_3 := (HB.out.cell (World.block_lt_of_cell? w _ hx373_3)).trans hx373_3; replace p373 := eq_true p373; replace q373 := eq_true q373; go_wp2_with (first | ((with_reducible refine gate_dst (N := 5) rfl ?_); (try (refine gate_guard (by rfl) ?_; dsimp only)); refine box_event ?hg (N := 5) ?hd (cs := #[.int .i64 0, .int .i64 0, .int .i64 0, .int .u8 0]) (t := 48) ?hr ?_; (case hd => rfl); (case hg => rfl); (case hr => first | (go_simp; done) | (go_simp; rfl)); intro gb374 hg w33 hbox hb; have BK374 := zA.mk (hbox); have GW374 := zA.mk ((by rw [hg]; exact (below_size (aL HB)) : w.heap.size ≤ gb374)); replace HB := zA.mk (below_step (aL HB) hb); have GE374 := GW374; have NB370_374 := zA.mk ((by rw [hg]; exact Nat.ne_of_lt (blk_lt (aB BK370)) : gb370 ≠ gb374)); have NB374_370 := zA.mk ((by rw [hg]; exact Nat.ne_of_gt (blk_lt (g := gb370) (o := .cells #[.slice (some ad373) l0_0.length c0_0, .slice A0_1 l0_1.length c0_1] 60 (0, 0)) (aB BK370)) : gb374 ≠ gb370)); replace BK370 := zA.mk (blk_below (aB BK370) hb); clear hb hbox hg; have hnb34 := NB374_370.out; have hnc34 := NB370_374.out; obtain ⟨hcz35_0, hcz35_1, hcz35_2, hcz35_3, hfz35_0, hfz35_1, hfz35_2, hfz35_3⟩ := aC4 BK374) | ((with_reducible refine gate_store (t := 48) (p := 5) rfl ?_); refine store_event (t := 48) (p := 5) (v := ?vo_w36) (w1 := ((((w33.setCell ⟨gb374, 0, none⟩ (.int .i64 ((rd_T48 l0_0 x40_2).f0))).setCell ⟨gb374, 1, none⟩ (.int .i64 ((rd_T48 l0_0 x40_2).f1))).setCell ⟨gb374, 2, none⟩ (.int .i64 ((rd_T48 l0_0 x40_2).f2))).setCell ⟨gb374, 3, none⟩ (.int .u8 ((rd_T48 l0_0 x40_2).f3)))) ?hg ?ho ?hn ?hr ?_; (case ho => rfl); (case hg => rfl); (case hn => rfl); (case hr => first | (go_simp; done) | (go_simp; rfl)); intro w36 hw; have n0_ : zA (w36.heap[gb370]? = some (.cells #[.slice (some ad373) l0_0.length c0_0, .slice A0_1 l0_1.length c0_1] 60 (0, 0))) := ⟨(by rw [hw]; exact (aB BK370))⟩; have n1_ : zA (w36.heap[gb374]? = some (.cells #[.int .i64 ((rd_T48 l0_0 x40_2).f0), .int .i64 ((rd_T48 l0_0 x40_2).f1), .int .i64 ((rd_T48 l0_0 x40_2).f2), .int .u8 ((rd_T48 l0_0 x40_2).f3)] 48 (0, 0))) := ⟨(by rw [hw]; exact (by (with_reducible repeat (first | refine zC ?_ _ | refine zD ?_ | refine zB ?_ _)); refine blk_put (cs := #[.int .i64 ((rd_T48 l0_0 x40_2).f0), .int .i64 ((rd_T48 l0_0 x40_2).f1), .int .i64 ((rd_T48 l0_0 x40_2).f2), .int .u8 0]) ?_ 3 _ rfl; (with_reducible repeat (first | refine zC ?_ _ | refine zD ?_ | refine zB ?_ _)); refine blk_put (cs := #[.int .i64 ((rd_T48 l0_0 x40_2).f0), .int .i64 ((rd_T48 l0_0 x40_2).f1), .int .i64 0, .int .u8 0]) ?_ 2 _ rfl; (with_reducible repeat (first | refine zC ?_ _ | refine zD ?_ | refine zB ?_ _)); refine blk_put (cs := #[.int .i64 ((rd_T48 l0_0 x40_2).f0), .int .i64 0, .int .i64 0, .int .u8 0]) ?_ 1 _ rfl; (with_reducible repeat (first | refine zC ?_ _ | refine zD ?_ | refine zB ?_ _)); refine blk_put (cs := #[.int .i64 0, .int .i64 0, .int .i64 0, .int .u8 0]) ?_ 0 _ rfl; (with_reducible repeat (first | refine zC ?_ _ | refine zD ?_ | refine zB ?_ _)); exact BK374.out))⟩; have n2_ : zA (Below w.heap.size w w36) := ⟨(by rw [hw]; exact (aL HB))⟩; clear hw; clear BK370; clear BK374; clear HB; have BK370 := n0_; have BK374 := n1_; have HB := n2_; clear n0_ n1_ n2_; obtain ⟨hcz37_0, hcz37_1, hcz37_2, hcz37_3, hfz37_0, hfz37_1, hfz37_2, hfz37_3⟩ := aC4 BK374))
    go_ret
    exact ⟨aX, aL HB⟩
   rw [if_neg c32] at H; have c32b0 : decide (((rd_T48 l0_0 x40_2).f2) < 0) = false := decide_eq_false c32
   clear c32; by_cases c38 : ((rd_T48 l0_0 x40_2).f2) > 2
   ·rw [if_pos c38] at H
    have c38b0 : decide (2 < ((rd_T48 l0_0 x40_2).f2)) = true := decide_eq_true c38
    clear c38; obtain rfl := Option.some.inj H
    have p373 : 0 ≤ (x40_2 : Int) := aD
    have q373 : x40_2 < (l0_0.length : Int) := aD
    obtain ⟨ad373, e373, hx373_0, hx373_1, hx373_2, hx373_3⟩ := at_T48 HR0_0.out x40_2 p373 q373; cases e373
    replace hx373_0 := (HB.out.cell (World.block_lt_of_cell? w _ hx373_0)).trans hx373_0; replace hx373_1 := (HB.out.cell (World.block_lt_of_cell? w _ hx373_1)).trans hx373_1; replace hx373_2 := (HB.out.cell (World.block_lt_of_cell? w _ hx373_2)).trans hx373_2; replace hx373_3 := (HB.out.cell (World.block_lt_of_cell? w _ hx373_3)).trans hx373_3; replace p373 := eq_true p373; replace q373 := eq_true q373; go_wp2_with (first | ((with_reducible refine gate_dst (N := 5) rfl ?_); (try (refine gate_guard (by rfl) ?_; dsimp only)); refine box_event ?hg (N := 5) ?hd (cs := #[.int .i64 0, .int .i64 0, .int .i64 0, .int .u8 0]) (t := 48) ?hr ?_; (case hd => rfl); (case hg => rfl); (case hr => first | (go_simp; done) | (go_simp; rfl)); intro gb374 hg w39 hbox hb; have BK374 := zA.mk (hbox); have GW374 := zA.mk ((by rw [hg]; exact (below_size (aL HB)) : w.heap.size ≤ gb374)); replace HB := zA.mk (below_step (aL HB) hb); have GE374 := GW374; have NB370_374 := zA.mk ((by rw [hg]; exact Nat.ne_of_lt (blk_lt (aB BK370)) : gb370 ≠ gb374)); have NB374_370 := zA.mk ((by rw [hg]; exact Nat.ne_of_gt (blk_lt (g := gb370) (o := .cells #[.slice (some ad373) l0_0.length c0_0, .slice A0_1 l0_1.length c0_1] 60 (0, 0)) (aB BK370)) : gb374 ≠ gb370)); replace BK370 := zA.mk (blk_below (aB BK370) hb); clear hb hbox hg; have hnb40 := NB374_370.out; have hnc40 := NB370_374.out; obtain ⟨hcz41_0, hcz41_1, hcz41_2, hcz41_3, hfz41_0, hfz41_1, hfz41_2, hfz41_3⟩ := aC4 BK374) | ((with_reducible refine gate_store (t := 48) (p := 5) rfl ?_); refine store_event (t := 48) (p := 5) (v := ?vo_w42) (w1 := ((((w39.setCell ⟨gb374, 0, none⟩ (.int .i64 ((rd_T48 l0_0 x40_2).f0))).setCell ⟨gb374, 1, none⟩ (.int .i64 ((rd_T48 l0_0 x40_2).f1))).setCell ⟨gb374, 2, none⟩ (.int .i64 ((rd_T48 l0_0 x40_2).f2))).setCell ⟨gb374, 3, none⟩ (.int .u8 ((rd_T48 l0_0 x40_2).f3)))) ?hg ?ho ?hn ?hr ?_; (case ho => rfl); (case hg => rfl); (case hn => rfl); (case hr => first | (go_simp; done) | (go_simp; rfl)); intro w42 hw; have n0_ : zA (w42.heap[gb370]? = some (.cells #[.slice (some ad373) l0_0.length c0_0, .slice A0_1 l0_1.length c0_1] 60 (0, 0))) := ⟨(by rw [hw]; exact (aB BK370))⟩; have n1_ : zA (w42.heap[gb374]? = some (.cells #[.int .i64 ((rd_T48 l0_0 x40_2).f0), .int .i64 ((rd_T48 l0_0 x40_2).f1), .int .i64 ((rd_T48 l0_0 x40_2).f2), .int .u8 ((rd_T48 l0_0 x40_2).f3)] 48 (0, 0))) := ⟨(by rw [hw]; exact (by (with_reducible repeat (first | refine zC ?_ _ | refine zD ?_ | refine zB ?_ _)); refine blk_put (cs := #[.int .i64 ((rd_T48 l0_0 x40_2).f0), .int .i64 ((rd_T48 l0_0 x40_2).f1), .int .i64 ((rd_T48 l0_0 x40_2).f2), .int .u8 0]) ?_ 3 _ rfl; (with_reducible repeat (first | refine zC ?_ _ | refine zD ?_ | refine zB ?_ _)); refine blk_put (cs := #[.int .i64 ((rd_T48 l0_0 x40_2).f0), .int .i64 ((rd_T48 l0_0 x40_2).f1), .int .i64 0, .int .u8 0]) ?_ 2 _ rfl; (with_reducible repeat (first | refine zC ?_ _ | refine zD ?_ | refine zB ?_ _)); refine blk_put (cs := #[.int .i64 ((rd_T48 l0_0 x40_2).f0), .int .i64 0, .int .i64 0, .int .u8 0]) ?_ 1 _ rfl; (with_reducible repeat (first | refine zC ?_ _ | refine zD ?_ | refine zB ?_ _)); refine blk_put (cs := #[.int .i64 0, .int .i64 0, .int .i64 0, .int .u8 0]) ?_ 0 _ rfl; (with_reducible repeat (first | refine zC ?_ _ | refine zD ?_ | refine zB ?_ _)); exact BK374.out))⟩; have n2_ : zA (Below w.heap.size w w42) := ⟨(by rw [hw]; exact (aL HB))⟩; clear hw; clear BK370; clear BK374; clear HB; have BK370 := n0_; have BK374 := n1_; have HB := n2_; clear n0_ n1_ n2_; obtain ⟨hcz43_0, hcz43_1, hcz43_2, hcz43_3, hfz43_0, hfz43_1, hfz43_2, hfz43_3⟩ := aC4 BK374))
    go_ret
    exact ⟨aX, aL HB⟩
   rw [if_neg c38] at H; have c38b0 : decide (2 < ((rd_T48 l0_0 x40_2).f2)) = false := decide_eq_false c38
   clear c38; by_cases c44 : ((rd_T48 l0_0 x40_2).f3) > 2
   ·rw [if_pos c44] at H
    have c44b0 : decide (2 < ((rd_T48 l0_0 x40_2).f3)) = true := decide_eq_true c44
    clear c44; obtain rfl := Option.some.inj H
    have p373 : 0 ≤ (x40_2 : Int) := aD
    have q373 : x40_2 < (l0_0.length : Int) := aD
    obtain ⟨ad373, e373, hx373_0, hx373_1, hx373_2, hx373_3⟩ := at_T48 HR0_0.out x40_2 p373 q373; cases e373
    replace hx373_0 := (HB.out.cell (World.block_lt_of_cell? w _ hx373_0)).trans hx373_0; replace hx373_1 := (HB.out.cell (World.block_lt_of_cell? w _ hx373_1)).trans hx373_1; replace hx373_2 := (HB.out.cell (World.block_lt_of_cell? w _ hx373_2)).trans hx373_2; replace hx373_3 := (HB.out.cell (World.block_lt_of_cell? w _ hx373_3)).trans hx373_3; replace p373 := eq_true p373; replace q373 := eq_true q373; go_wp2_with (first | ((with_reducible refine gate_dst (N := 5) rfl ?_); (try (refine gate_guard (by rfl) ?_; dsimp only)); refine box_event ?hg (N := 5) ?hd (cs := #[.int .i64 0, .int .i64 0, .int .i64 0, .int .u8 0]) (t := 48) ?hr ?_; (case hd => rfl); (case hg => rfl); (case hr => first | (go_simp; done) | (go_simp; rfl)); intro gb374 hg w45 hbox hb; have BK374 := zA.mk (hbox); have GW374 := zA.mk ((by rw [hg]; exact (below_size (aL HB)) : w.heap.size ≤ gb374)); replace HB := zA.mk (below_step (aL HB) hb); have GE374 := GW374; have NB370_374 := zA.mk ((by rw [hg]; exact Nat.ne_of_lt (blk_lt (aB BK370)) : gb370 ≠ gb374)); have NB374_370 := zA.mk ((by rw [hg]; exact Nat.ne_of_gt (blk_lt (g := gb370) (o := .cells #[.slice (some ad373) l0_0.length c0_0, .slice A0_1 l0_1.length c0_1] 60 (0, 0)) (aB BK370)) : gb374 ≠ gb370)); replace BK370 := zA.mk (blk_below (aB BK370) hb); clear hb hbox hg; have hnb46 := NB374_370.out; have hnc46 := NB370_374.out; obtain ⟨hcz47_0, hcz47_1, hcz47_2, hcz47_3, hfz47_0, hfz47_1, hfz47_2, hfz47_3⟩ := aC4 BK374) | ((with_reducible refine gate_store (t := 48) (p := 5) rfl ?_); refine store_event (t := 48) (p := 5) (v := ?vo_w48) (w1 := ((((w45.setCell ⟨gb374, 0, none⟩ (.int .i64 ((rd_T48 l0_0 x40_2).f0))).setCell ⟨gb374, 1, none⟩ (.int .i64 ((rd_T48 l0_0 x40_2).f1))).setCell ⟨gb374, 2, none⟩ (.int .i64 ((rd_T48 l0_0 x40_2).f2))).setCell ⟨gb374, 3, none⟩ (.int .u8 ((rd_T48 l0_0 x40_2).f3)))) ?hg ?ho ?hn ?hr ?_; (case ho => rfl); (case hg => rfl); (case hn => rfl); (case hr => first | (go_simp; done) | (go_simp; rfl)); intro w48 hw; have n0_ : zA (w48.heap[gb370]? = some (.cells #[.slice (some ad373) l0_0.length c0_0, .slice A0_1 l0_1.length c0_1] 60 (0, 0))) := ⟨(by rw [hw]; exact (aB BK370))⟩; have n1_ : zA (w48.heap[gb374]? = some (.cells #[.int .i64 ((rd_T48 l0_0 x40_2).f0), .int .i64 ((rd_T48 l0_0 x40_2).f1), .int .i64 ((rd_T48 l0_0 x40_2).f2), .int .u8 ((rd_T48 l0_0 x40_2).f3)] 48 (0, 0))) := ⟨(by rw [hw]; exact (by (with_reducible repeat (first | refine zC ?_ _ | refine zD ?_ | refine zB ?_ _)); refine blk_put (cs := #[.int .i64 ((rd_T48 l0_0 x40_2).f0), .int .i64 ((rd_T48 l0_0 x40_2).f1), .int .i64 ((rd_T48 l0_0 x40_2).f2), .int .u8 0]) ?_ 3 _ rfl; (with_reducible repeat (first | refine zC ?_ _ | refine zD ?_ | refine zB ?_ _)); refine blk_put (cs := #[.int .i64 ((rd_T48 l0_0 x40_2).f0), .int .i64 ((rd_T48 l0_0 x40_2).f1), .int .i64 0, .int .u8 0]) ?_ 2 _ rfl; (with_reducible repeat (first | refine zC ?_ _ | refine zD ?_ | refine zB ?_ _)); refine blk_put (cs := #[.int .i64 ((rd_T48 l0_0 x40_2).f0), .int .i64 0, .int .i64 0, .int .u8 0]) ?_ 1 _ rfl; (with_reducible repeat (first | refine zC ?_ _ | refine zD ?_ | refine zB ?_ _)); refine blk_put (cs := #[.int .i64 0, .int .i64 0, .int .i64 0, .int .u8 0]) ?_ 0 _ rfl; (with_reducible repeat (first | refine zC ?_ _ | refine zD ?_ | refine zB ?_ _)); exact BK374.out))⟩; have n2_ : zA (Below w.heap.size w w48) := ⟨(by rw [hw]; exact (aL HB))⟩; clear hw; clear BK370; clear BK374; clear HB; have BK370 := n0_; have BK374 := n1_; have HB := n2_; clear n0_ n1_ n2_; obtain ⟨hcz49_0, hcz49_1, hcz49_2, hcz49_3, hfz49_0, hfz49_1, hfz49_2, hfz49_3⟩ := aC4 BK374))
    go_ret
    exact ⟨aX, aL HB⟩
   rw [if_neg c44] at H; have c44b0 : decide (2 < ((rd_T48 l0_0 x40_2).f3)) = false := decide_eq_false c44
   clear c44; by_cases c50 : x40_2 < (l0_1.length : Int)
   rotate_left
   ·rw [if_neg c50] at H
    exact absurd H (by simp)
   rw [if_pos c50] at H; have c50b0 : decide (x40_2 < (l0_1.length : Int)) = true := decide_eq_true c50
   clear c50; by_cases c51 : (rd l0_1 x40_2) > 3
   ·rw [if_pos c51] at H
    have c51b0 : decide (3 < (rd l0_1 x40_2)) = true := decide_eq_true c51
    clear c51; obtain rfl := Option.some.inj H
    have p373 : 0 ≤ (x40_2 : Int) := aD
    have q373 : x40_2 < (l0_0.length : Int) := aD
    obtain ⟨ad373, e373, hx373_0, hx373_1, hx373_2, hx373_3⟩ := at_T48 HR0_0.out x40_2 p373 q373; cases e373
    replace hx373_0 := (HB.out.cell (World.block_lt_of_cell? w _ hx373_0)).trans hx373_0; replace hx373_1 := (HB.out.cell (World.block_lt_of_cell? w _ hx373_1)).trans hx373_1; replace hx373_2 := (HB.out.cell (World.block_lt_of_cell? w _ hx373_2)).trans hx373_2; replace hx373_3 := (HB.out.cell (World.block_lt_of_cell? w _ hx373_3)).trans hx373_3; replace p373 := eq_true p373; replace q373 := eq_true q373; go_wp2_with (first | ((with_reducible refine gate_dst (N := 5) rfl ?_); (try (refine gate_guard (by rfl) ?_; dsimp only)); refine box_event ?hg (N := 5) ?hd (cs := #[.int .i64 0, .int .i64 0, .int .i64 0, .int .u8 0]) (t := 48) ?hr ?_; (case hd => rfl); (case hg => rfl); (case hr => first | (go_simp; done) | (go_simp; rfl)); intro gb374 hg w52 hbox hb; have BK374 := zA.mk (hbox); have GW374 := zA.mk ((by rw [hg]; exact (below_size (aL HB)) : w.heap.size ≤ gb374)); replace HB := zA.mk (below_step (aL HB) hb); have GE374 := GW374; have NB370_374 := zA.mk ((by rw [hg]; exact Nat.ne_of_lt (blk_lt (aB BK370)) : gb370 ≠ gb374)); have NB374_370 := zA.mk ((by rw [hg]; exact Nat.ne_of_gt (blk_lt (g := gb370) (o := .cells #[.slice (some ad373) l0_0.length c0_0, .slice A0_1 l0_1.length c0_1] 60 (0, 0)) (aB BK370)) : gb374 ≠ gb370)); replace BK370 := zA.mk (blk_below (aB BK370) hb); clear hb hbox hg; have hnb53 := NB374_370.out; have hnc53 := NB370_374.out; obtain ⟨hcz54_0, hcz54_1, hcz54_2, hcz54_3, hfz54_0, hfz54_1, hfz54_2, hfz54_3⟩ := aC4 BK374) | ((with_reducible refine gate_store (t := 48) (p := 5) rfl ?_); refine store_event (t := 48) (p := 5) (v := ?vo_w55) (w1 := ((((w52.setCell ⟨gb374, 0, none⟩ (.int .i64 ((rd_T48 l0_0 x40_2).f0))).setCell ⟨gb374, 1, none⟩ (.int .i64 ((rd_T48 l0_0 x40_2).f1))).setCell ⟨gb374, 2, none⟩ (.int .i64 ((rd_T48 l0_0 x40_2).f2))).setCell ⟨gb374, 3, none⟩ (.int .u8 ((rd_T48 l0_0 x40_2).f3)))) ?hg ?ho ?hn ?hr ?_; (case ho => rfl); (case hg => rfl); (case hn => rfl); (case hr => first | (go_simp; done) | (go_simp; rfl)); intro w55 hw; have n0_ : zA (w55.heap[gb370]? = some (.cells #[.slice (some ad373) l0_0.length c0_0, .slice A0_1 l0_1.length c0_1] 60 (0, 0))) := ⟨(by rw [hw]; exact (aB BK370))⟩; have n1_ : zA (w55.heap[gb374]? = some (.cells #[.int .i64 ((rd_T48 l0_0 x40_2).f0), .int .i64 ((rd_T48 l0_0 x40_2).f1), .int .i64 ((rd_T48 l0_0 x40_2).f2), .int .u8 ((rd_T48 l0_0 x40_2).f3)] 48 (0, 0))) := ⟨(by rw [hw]; exact (by (with_reducible repeat (first | refine zC ?_ _ | refine zD ?_ | refine zB ?_ _)); refine blk_put (cs := #[.int .i64 ((rd_T48 l0_0 x40_2).f0), .int .i64 ((rd_T48 l0_0 x40_2).f1), .int .i64 ((rd_T48 l0_0 x40_2).f2), .int .u8 0]) ?_ 3 _ rfl; (with_reducible repeat (first | refine zC ?_ _ | refine zD ?_ | refine zB ?_ _)); refine blk_put (cs := #[.int .i64 ((rd_T48 l0_0 x40_2).f0), .int .i64 ((rd_T48 l0_0 x40_2).f1), .int .i64 0, .int .u8 0]) ?_ 2 _ rfl; (with_reducible repeat (first | refine zC ?_ _ | refine zD ?_ | refine zB ?_ _)); refine blk_put (cs := #[.int .i64 ((rd_T48 l0_0 x40_2).f0), .int .i64 0, .int .i64 0, .int .u8 0]) ?_ 1 _ rfl; (with_reducible repeat (first | refine zC ?_ _ | refine zD ?_ | refine zB ?_ _)); refine blk_put (cs := #[.int .i64 0, .int .i64 0, .int .i64 0, .int .u8 0]) ?_ 0 _ rfl; (with_reducible repeat (first | refine zC ?_ _ | refine zD ?_ | refine zB ?_ _)); exact BK374.out))⟩; have n2_ : zA (Below w.heap.size w w55) := ⟨(by rw [hw]; exact (aL HB))⟩; clear hw; clear BK370; clear BK374; clear HB; have BK370 := n0_; have BK374 := n1_; have HB := n2_; clear n0_ n1_ n2_; obtain ⟨hcz56_0, hcz56_1, hcz56_2, hcz56_3, hfz56_0, hfz56_1, hfz56_2, hfz56_3⟩ := aC4 BK374; obtain ⟨hcz57_0, hcz57_1, hfz57_0, hfz57_1⟩ := aC2 BK370; have p375 : 0 ≤ (x40_2 : Int) := aD; have q375 : x40_2 < (l0_1.length : Int) := aD; obtain ⟨ad375, e375, hx375_0⟩ := Kd.at_int HR0_1.out x40_2 p375 q375; cases e375; replace hx375_0 := (HB.out.cell (World.block_lt_of_cell? w _ hx375_0)).trans hx375_0; replace p375 := eq_true p375; replace q375 := eq_true q375))
    go_ret
    exact ⟨aX, aL HB⟩
   rw [if_neg c51] at H; have c51b0 : decide (3 < (rd l0_1 x40_2)) = false := decide_eq_false c51
   clear c51; have H' := zA.mk H
   clear H; have p373 : 0 ≤ (x40_2 : Int) := aD
   have q373 : x40_2 < (l0_0.length : Int) := aD
   obtain ⟨ad373, e373, hx373_0, hx373_1, hx373_2, hx373_3⟩ := at_T48 HR0_0.out x40_2 p373 q373; cases e373
   replace hx373_0 := (HB.out.cell (World.block_lt_of_cell? w _ hx373_0)).trans hx373_0; replace hx373_1 := (HB.out.cell (World.block_lt_of_cell? w _ hx373_1)).trans hx373_1; replace hx373_2 := (HB.out.cell (World.block_lt_of_cell? w _ hx373_2)).trans hx373_2; replace hx373_3 := (HB.out.cell (World.block_lt_of_cell? w _ hx373_3)).trans hx373_3; replace p373 := eq_true p373; replace q373 := eq_true q373; go_wp2_with (first | ((with_reducible refine gate_dst (N := 5) rfl ?_); (try (refine gate_guard (by rfl) ?_; dsimp only)); refine box_event ?hg (N := 5) ?hd (cs := #[.int .i64 0, .int .i64 0, .int .i64 0, .int .u8 0]) (t := 48) ?hr ?_; (case hd => rfl); (case hg => rfl); (case hr => first | (go_simp; done) | (go_simp; rfl)); intro gb374 hg w58 hbox hb; have BK374 := zA.mk (hbox); have GW374 := zA.mk ((by rw [hg]; exact (below_size (aL HB)) : w.heap.size ≤ gb374)); replace HB := zA.mk (below_step (aL HB) hb); have GE374 := GW374; have NB370_374 := zA.mk ((by rw [hg]; exact Nat.ne_of_lt (blk_lt (aB BK370)) : gb370 ≠ gb374)); have NB374_370 := zA.mk ((by rw [hg]; exact Nat.ne_of_gt (blk_lt (g := gb370) (o := .cells #[.slice (some ad373) l0_0.length c0_0, .slice A0_1 l0_1.length c0_1] 60 (0, 0)) (aB BK370)) : gb374 ≠ gb370)); replace BK370 := zA.mk (blk_below (aB BK370) hb); clear hb hbox hg; have hnb59 := NB374_370.out; have hnc59 := NB370_374.out; obtain ⟨hcz60_0, hcz60_1, hcz60_2, hcz60_3, hfz60_0, hfz60_1, hfz60_2, hfz60_3⟩ := aC4 BK374) | ((with_reducible refine gate_store (t := 48) (p := 5) rfl ?_); refine store_event (t := 48) (p := 5) (v := ?vo_w61) (w1 := ((((w58.setCell ⟨gb374, 0, none⟩ (.int .i64 ((rd_T48 l0_0 x40_2).f0))).setCell ⟨gb374, 1, none⟩ (.int .i64 ((rd_T48 l0_0 x40_2).f1))).setCell ⟨gb374, 2, none⟩ (.int .i64 ((rd_T48 l0_0 x40_2).f2))).setCell ⟨gb374, 3, none⟩ (.int .u8 ((rd_T48 l0_0 x40_2).f3)))) ?hg ?ho ?hn ?hr ?_; (case ho => rfl); (case hg => rfl); (case hn => rfl); (case hr => first | (go_simp; done) | (go_simp; rfl)); intro w61 hw; have n0_ : zA (w61.heap[gb370]? = some (.cells #[.slice (some ad373) l0_0.length c0_0, .slice A0_1 l0_1.length c0_1] 60 (0, 0))) := ⟨(by rw [hw]; exact (aB BK370))⟩; have n1_ : zA (w61.heap[gb374]? = some (.cells #[.int .i64 ((rd_T48 l0_0 x40_2).f0), .int .i64 ((rd_T48 l0_0 x40_2).f1), .int .i64 ((rd_T48 l0_0 x40_2).f2), .int .u8 ((rd_T48 l0_0 x40_2).f3)] 48 (0, 0))) := ⟨(by rw [hw]; exact (by (with_reducible repeat (first | refine zC ?_ _ | refine zD ?_ | refine zB ?_ _)); refine blk_put (cs := #[.int .i64 ((rd_T48 l0_0 x40_2).f0), .int .i64 ((rd_T48 l0_0 x40_2).f1), .int .i64 ((rd_T48 l0_0 x40_2).f2), .int .u8 0]) ?_ 3 _ rfl; (with_reducible repeat (first | refine zC ?_ _ | refine zD ?_ | refine zB ?_ _)); refine blk_put (cs := #[.int .i64 ((rd_T48 l0_0 x40_2).f0), .int .i64 ((rd_T48 l0_0 x40_2).f1), .int .i64 0, .int .u8 0]) ?_ 2 _ rfl; (with_reducible repeat (first | refine zC ?_ _ | refine zD ?_ | refine zB ?_ _)); refine blk_put (cs := #[.int .i64 ((rd_T48 l0_0 x40_2).f0), .int .i64 0, .int .i64 0, .int .u8 0]) ?_ 1 _ rfl; (with_reducible repeat (first | refine zC ?_ _ | refine zD ?_ | refine zB ?_ _)); refine blk_put (cs := #[.int .i64 0, .int .i64 0, .int .i64 0, .int .u8 0]) ?_ 0 _ rfl; (with_reducible repeat (first | refine zC ?_ _ | refine zD ?_ | refine zB ?_ _)); exact BK374.out))⟩; have n2_ : zA (Below w.heap.size w w61) := ⟨(by rw [hw]; exact (aL HB))⟩; clear hw; clear BK370; clear BK374; clear HB; have BK370 := n0_; have BK374 := n1_; have HB := n2_; clear n0_ n1_ n2_; obtain ⟨hcz62_0, hcz62_1, hcz62_2, hcz62_3, hfz62_0, hfz62_1, hfz62_2, hfz62_3⟩ := aC4 BK374; obtain ⟨hcz63_0, hcz63_1, hfz63_0, hfz63_1⟩ := aC2 BK370; have p375 : 0 ≤ (x40_2 : Int) := aD; have q375 : x40_2 < (l0_1.length : Int) := aD; obtain ⟨ad375, e375, hx375_0⟩ := Kd.at_int HR0_1.out x40_2 p375 q375; cases e375; replace hx375_0 := (HB.out.cell (World.block_lt_of_cell? w _ hx375_0)).trans hx375_0; replace p375 := eq_true p375; replace q375 := eq_true q375))
   go_roundg k2
   case measure => have := HJ1.out; have := HK2.out; omega
   case rel => exact ⟨(wrap64 (x3_2 + ((rd_T48 l0_0 x40_2).f1))), (wrap64 (x40_2 + 1)), aZ, aZ, H', ⟨by have := HJ1.out; have := HK2.out; omega⟩, ⟨aB BK370⟩, ⟨aL HB⟩⟩
def stanzalaw11_Awake.f (k : Nat)  : Option (Bool) := if prop_Make.c ([] : List (S45)) 1 = true then ((prop_MakeY.f ([] : List (S45)) 1).bind fun t383 => ((items_Make.f k ([] : List (S50)) ([] : List Int) ([] : List Int) ([] : List Bool) t383).bind fun bt384 => ((items_Make.f k (([(⟨97, 0, 1⟩ : S50), (⟨98, 1, 1⟩ : S50)] : List (S50))) (([0, 1, 2] : List Int)) (([0, 0, 2] : List Int)) (([false, true, false] : List Bool)) t383).bind fun bt403 => (if (bt384.2.length : Int) = 1 then (if 0 < (bt384.2.length : Int) then (if (rd bt384.2 0) = 2 then ((items_Check.f k bt384.1 bt384.2).bind fun t411 => (if t411 = true then (if (bt403.2.length : Int) = 3 then (if 1 < (bt403.2.length : Int) then (if (rd bt403.2 1) = 3 then ((items_Parts.f k bt403.1 bt403.2).bind fun t413 => (some ((t413.length : Int) == 1))) else (some false)) else (none)) else (some false)) else (some false))) else (some false)) else (none)) else (some false))))) else ((prop_MakeN.f ([] : List (S45)) 1).bind fun _ => (some false))
theorem stanzalaw11_Awake.mono : ∀ k, LeO (stanzalaw11_Awake.f k ) (stanzalaw11_Awake.f (k + 1) ) := by
 intro  k
 unfold stanzalaw11_Awake.f
 repeat' (with_reducible first | exact items_Check.mono _ _ _ | exact items_Make.mono _ _ _ _ _ _ | exact items_Parts.mono _ _ _ | exact LeO.refl _ | exact LeO.none _ | refine LeO.ite ?_ ?_ | refine LeO.bind ?_ (fun _ => ?_))
set_option maxHeartbeats 8000000 in
set_option maxRecDepth 100000 in
theorem stanzalaw11_Awake.calls (k : Nat)  (r : Bool) (w : World) (h : stanzalaw11_Awake.f k  = some r) (hrt_ : zA (r = true)) :
  Calls Try.prog 23 #[] w fun e w' => e = .returned (.bool r) ∧ Below w.heap.size w w' := by
 have hu60 := Try.underlying60; have hu50 := Try.underlying50; have HB := zA.mk (Below.refl w.heap.size w); have H : (if prop_Make.c ([] : List (S45)) 1 = true then ((prop_MakeY.f ([] : List (S45)) 1).bind fun t383 => ((items_Make.f k ([] : List (S50)) ([] : List Int) ([] : List Int) ([] : List Bool) t383).bind fun bt384 => ((items_Make.f k (([(⟨97, 0, 1⟩ : S50), (⟨98, 1, 1⟩ : S50)] : List (S50))) (([0, 1, 2] : List Int)) (([0, 0, 2] : List Int)) (([false, true, false] : List Bool)) t383).bind fun bt403 => (if (bt384.2.length : Int) = 1 then (if 0 < (bt384.2.length : Int) then (if (rd bt384.2 0) = 2 then ((items_Check.f k bt384.1 bt384.2).bind fun t411 => (if t411 = true then (if (bt403.2.length : Int) = 3 then (if 1 < (bt403.2.length : Int) then (if (rd bt403.2 1) = 3 then ((items_Parts.f k bt403.1 bt403.2).bind fun t413 => (some ((t413.length : Int) == 1))) else (some false)) else (none)) else (some false)) else (some false))) else (some false)) else (none)) else (some false))))) else ((prop_MakeN.f ([] : List (S45)) 1).bind fun _ => (some false))) = some r := h
 clear h; by_cases c1 : prop_Make.c ([] : List (S45)) 1 = true
 rotate_left
 ·rw [if_neg c1] at H
  have c1b0 : prop_Make.c ([] : List (S45)) 1 = false := by simpa using c1
  clear c1; replace H := Option.bind_eq_some_iff.mp H; obtain ⟨_, A490, H⟩ := H; replace H : (some false) = some r := H; have A49 := zA.mk A490; clear A490; exact absurd ((Option.some.inj H).trans hrt_.out) (by decide)
 rw [if_pos c1] at H; have c1b0 : prop_Make.c ([] : List (S45)) 1 = true := c1
 clear c1; replace H := Option.bind_eq_some_iff.mp H; obtain ⟨t383, A20, H⟩ := H; replace H : ((items_Make.f k ([] : List (S50)) ([] : List Int) ([] : List Int) ([] : List Bool) t383).bind fun bt384 => ((items_Make.f k (([(⟨97, 0, 1⟩ : S50), (⟨98, 1, 1⟩ : S50)] : List (S50))) (([0, 1, 2] : List Int)) (([0, 0, 2] : List Int)) (([false, true, false] : List Bool)) t383).bind fun bt403 => (if (bt384.2.length : Int) = 1 then (if 0 < (bt384.2.length : Int) then (if (rd bt384.2 0) = 2 then ((items_Check.f k bt384.1 bt384.2).bind fun t411 => (if t411 = true then (if (bt403.2.length : Int) = 3 then (if 1 < (bt403.2.length : Int) then (if (rd bt403.2 1) = 3 then ((items_Parts.f k bt403.1 bt403.2).bind fun t413 => (some ((t413.length : Int) == 1))) else (some false)) else (none)) else (some false)) else (some false))) else (some false)) else (none)) else (some false)))) = some r := H
 have A2 := zA.mk A20; clear A20; replace H := Option.bind_eq_some_iff.mp H; obtain ⟨⟨t384, t387⟩, A30, H⟩ := H; replace H : ((items_Make.f k (([(⟨97, 0, 1⟩ : S50), (⟨98, 1, 1⟩ : S50)] : List (S50))) (([0, 1, 2] : List Int)) (([0, 0, 2] : List Int)) (([false, true, false] : List Bool)) t383).bind fun bt403 => (if (t387.length : Int) = 1 then (if 0 < (t387.length : Int) then (if (rd t387 0) = 2 then ((items_Check.f k t384 t387).bind fun t411 => (if t411 = true then (if (bt403.2.length : Int) = 3 then (if 1 < (bt403.2.length : Int) then (if (rd bt403.2 1) = 3 then ((items_Parts.f k bt403.1 bt403.2).bind fun t413 => (some ((t413.length : Int) == 1))) else (some false)) else (none)) else (some false)) else (some false))) else (some false)) else (none)) else (some false))) = some r := H
 have A3 := zA.mk A30; clear A30; obtain ⟨y391, hy391⟩ : ∃ y_ : List (S50), y_ = (([(⟨97, 0, 1⟩ : S50), (⟨98, 1, 1⟩ : S50)] : List (S50))) := ⟨_, rfl⟩; replace H : ((items_Make.f k y391 (([0, 1, 2] : List Int)) (([0, 0, 2] : List Int)) (([false, true, false] : List Bool)) t383).bind fun bt403 => (if (t387.length : Int) = 1 then (if 0 < (t387.length : Int) then (if (rd t387 0) = 2 then ((items_Check.f k t384 t387).bind fun t411 => (if t411 = true then (if (bt403.2.length : Int) = 3 then (if 1 < (bt403.2.length : Int) then (if (rd bt403.2 1) = 3 then ((items_Parts.f k bt403.1 bt403.2).bind fun t413 => (some ((t413.length : Int) == 1))) else (some false)) else (none)) else (some false)) else (some false))) else (some false)) else (none)) else (some false))) = some r := by first | (rw [hy391]; with_reducible exact H) | (have H2_ := (Option.bind_some _ _).symm.trans H; rw [hy391]; with_reducible exact H2_) | (have H2_ := (Option.bind_some _ _).symm.trans H; with_reducible exact H2_) | with_reducible exact H | (rw [hy391]; exact H) | exact H
 have Ny391 := zA.mk hy391; clear hy391; obtain ⟨y394, hy394⟩ : ∃ y_ : List Int, y_ = (([0, 1, 2] : List Int)) := ⟨_, rfl⟩; replace H : ((items_Make.f k y391 y394 (([0, 0, 2] : List Int)) (([false, true, false] : List Bool)) t383).bind fun bt403 => (if (t387.length : Int) = 1 then (if 0 < (t387.length : Int) then (if (rd t387 0) = 2 then ((items_Check.f k t384 t387).bind fun t411 => (if t411 = true then (if (bt403.2.length : Int) = 3 then (if 1 < (bt403.2.length : Int) then (if (rd bt403.2 1) = 3 then ((items_Parts.f k bt403.1 bt403.2).bind fun t413 => (some ((t413.length : Int) == 1))) else (some false)) else (none)) else (some false)) else (some false))) else (some false)) else (none)) else (some false))) = some r := by first | (rw [hy394]; with_reducible exact H) | (have H2_ := (Option.bind_some _ _).symm.trans H; rw [hy394]; with_reducible exact H2_) | (have H2_ := (Option.bind_some _ _).symm.trans H; with_reducible exact H2_) | with_reducible exact H | (rw [hy394]; exact H) | exact H
 have Ny394 := zA.mk hy394; clear hy394; obtain ⟨y397, hy397⟩ : ∃ y_ : List Int, y_ = (([0, 0, 2] : List Int)) := ⟨_, rfl⟩; replace H : ((items_Make.f k y391 y394 y397 (([false, true, false] : List Bool)) t383).bind fun bt403 => (if (t387.length : Int) = 1 then (if 0 < (t387.length : Int) then (if (rd t387 0) = 2 then ((items_Check.f k t384 t387).bind fun t411 => (if t411 = true then (if (bt403.2.length : Int) = 3 then (if 1 < (bt403.2.length : Int) then (if (rd bt403.2 1) = 3 then ((items_Parts.f k bt403.1 bt403.2).bind fun t413 => (some ((t413.length : Int) == 1))) else (some false)) else (none)) else (some false)) else (some false))) else (some false)) else (none)) else (some false))) = some r := by first | (rw [hy397]; with_reducible exact H) | (have H2_ := (Option.bind_some _ _).symm.trans H; rw [hy397]; with_reducible exact H2_) | (have H2_ := (Option.bind_some _ _).symm.trans H; with_reducible exact H2_) | with_reducible exact H | (rw [hy397]; exact H) | exact H
 have Ny397 := zA.mk hy397; clear hy397; obtain ⟨y400, hy400⟩ : ∃ y_ : List Bool, y_ = (([false, true, false] : List Bool)) := ⟨_, rfl⟩; replace H : ((items_Make.f k y391 y394 y397 y400 t383).bind fun bt403 => (if (t387.length : Int) = 1 then (if 0 < (t387.length : Int) then (if (rd t387 0) = 2 then ((items_Check.f k t384 t387).bind fun t411 => (if t411 = true then (if (bt403.2.length : Int) = 3 then (if 1 < (bt403.2.length : Int) then (if (rd bt403.2 1) = 3 then ((items_Parts.f k bt403.1 bt403.2).bind fun t413 => (some ((t413.length : Int) == 1))) else (some false)) else (none)) else (some false)) else (some false))) else (some false)) else (none)) else (some false))) = some r := by first | (rw [hy400]; with_reducible exact H) | (have H2_ := (Option.bind_some _ _).symm.trans H; rw [hy400]; with_reducible exact H2_) | (have H2_ := (Option.bind_some _ _).symm.trans H; with_reducible exact H2_) | with_reducible exact H | (rw [hy400]; exact H) | exact H
 have Ny400 := zA.mk hy400; clear hy400; replace H := Option.bind_eq_some_iff.mp H; obtain ⟨⟨t403, t406⟩, A40, H⟩ := H; replace H : (if (t387.length : Int) = 1 then (if 0 < (t387.length : Int) then (if (rd t387 0) = 2 then ((items_Check.f k t384 t387).bind fun t411 => (if t411 = true then (if (t406.length : Int) = 3 then (if 1 < (t406.length : Int) then (if (rd t406 1) = 3 then ((items_Parts.f k t403 t406).bind fun t413 => (some ((t413.length : Int) == 1))) else (some false)) else (none)) else (some false)) else (some false))) else (some false)) else (none)) else (some false)) = some r := H
 have A4 := zA.mk A40; clear A40; by_cases c5 : (t387.length : Int) = 1
 rotate_left
 ·rw [if_neg c5] at H
  have c5b0 : ((t387.length : Int) == 1) = false := beq_eq_false_iff_ne.mpr c5
  have c5b1 : ((t387.length : Int) != 1) = true := bne_iff_ne.mpr c5
  exact absurd ((Option.some.inj H).trans hrt_.out) (by decide)
 rw [if_pos c5] at H; have c5b0 : ((t387.length : Int) == 1) = true := beq_iff_eq.mpr c5
 have c5b1 : ((t387.length : Int) != 1) = false := bne_eq_false_iff_eq.mpr c5
 clear c5; by_cases c6 : 0 < (t387.length : Int)
 rotate_left
 ·rw [if_neg c6] at H
  exact absurd H (by simp)
 rw [if_pos c6] at H; have c6b0 : decide (0 < (t387.length : Int)) = true := decide_eq_true c6
 have c6b1 : decide (0 < t387.length) = true := decide_eq_true (by omega)
 clear c6; by_cases c7 : (rd t387 0) = 2
 rotate_left
 ·rw [if_neg c7] at H
  have c7b0 : ((rd t387 0) == 2) = false := beq_eq_false_iff_ne.mpr c7
  have c7b1 : ((rd t387 0) != 2) = true := bne_iff_ne.mpr c7
  exact absurd ((Option.some.inj H).trans hrt_.out) (by decide)
 rw [if_pos c7] at H; have c7b0 : ((rd t387 0) == 2) = true := beq_iff_eq.mpr c7
 have c7b1 : ((rd t387 0) != 2) = false := bne_eq_false_iff_eq.mpr c7
 clear c7; replace H := Option.bind_eq_some_iff.mp H; obtain ⟨t411, A80, H⟩ := H; replace H : (if t411 = true then (if (t406.length : Int) = 3 then (if 1 < (t406.length : Int) then (if (rd t406 1) = 3 then ((items_Parts.f k t403 t406).bind fun t413 => (some ((t413.length : Int) == 1))) else (some false)) else (none)) else (some false)) else (some false)) = some r := H
 have A8 := zA.mk A80; clear A80; by_cases c9 : t411 = true
 rotate_left
 ·replace c9 := Bool.eq_false_iff.mpr c9
  subst c9; have H1 : (some false) = some r := by rw [if_neg (show ¬ (false = true) by decide)] at H; exact H
  clear H; have H := H1; clear H1; exact absurd ((Option.some.inj H).trans hrt_.out) (by decide)
 subst c9; have H1 : (if (t406.length : Int) = 3 then (if 1 < (t406.length : Int) then (if (rd t406 1) = 3 then ((items_Parts.f k t403 t406).bind fun t413 => (some ((t413.length : Int) == 1))) else (some false)) else (none)) else (some false)) = some r := by rw [if_pos rfl] at H; exact H
 clear H; have H := H1; clear H1; by_cases c10 : (t406.length : Int) = 3
 rotate_left
 ·rw [if_neg c10] at H
  have c10b0 : ((t406.length : Int) == 3) = false := beq_eq_false_iff_ne.mpr c10
  have c10b1 : ((t406.length : Int) != 3) = true := bne_iff_ne.mpr c10
  exact absurd ((Option.some.inj H).trans hrt_.out) (by decide)
 rw [if_pos c10] at H; have c10b0 : ((t406.length : Int) == 3) = true := beq_iff_eq.mpr c10
 have c10b1 : ((t406.length : Int) != 3) = false := bne_eq_false_iff_eq.mpr c10
 clear c10; by_cases c11 : 1 < (t406.length : Int)
 rotate_left
 ·rw [if_neg c11] at H
  exact absurd H (by simp)
 rw [if_pos c11] at H; have c11b0 : decide (1 < (t406.length : Int)) = true := decide_eq_true c11
 have c11b1 : decide (1 < t406.length) = true := decide_eq_true (by omega)
 clear c11; by_cases c12 : (rd t406 1) = 3
 rotate_left
 ·rw [if_neg c12] at H
  have c12b0 : ((rd t406 1) == 3) = false := beq_eq_false_iff_ne.mpr c12
  have c12b1 : ((rd t406 1) != 3) = true := bne_iff_ne.mpr c12
  exact absurd ((Option.some.inj H).trans hrt_.out) (by decide)
 rw [if_pos c12] at H; have c12b0 : ((rd t406 1) == 3) = true := beq_iff_eq.mpr c12
 have c12b1 : ((rd t406 1) != 3) = false := bne_eq_false_iff_eq.mpr c12
 clear c12; replace H := Option.bind_eq_some_iff.mp H; obtain ⟨t413, A130, H⟩ := H; replace H : (some ((t413.length : Int) == 1)) = some r := H; have A13 := zA.mk A130; clear A130; obtain rfl := Option.some.inj H
 go_enter Try.func23, Try.ntmps23
 go_wp2_with (first | ((with_reducible refine gate_callee (f := 14) rfl ?_); refine goesL_ (some 6) rfl rfl Try.func14 (by kernel_rfl) rfl #[.slice none 0 0, .int .i64 1] rfl aT ?_; (refine (prop_MakeY.calls _ _ ([] : List (S45)) 1 t383 _ ?side1 ?side2 A2.out).mono ?_); (case side1 => exact Kd.C_nil _ _); (case side2 => exact Nat.le_refl _); rintro e w14 ⟨gb382, ob382, gb383, ob383, rfl, hx1, hx2, hg1, hg2, hne, htb, hb⟩; refine ⟨_, rfl, ?_⟩; have BK382 := zA.mk (hx1); have GW382 := zA.mk ((Nat.le_trans (below_size (aL HB)) hg1 : w.heap.size ≤ gb382)); have GE382 := zA.mk ((Nat.le_trans (below_size (aL HB)) hg1 : w.heap.size ≤ gb382)); have NB382_383 := zA.mk (hne); have BK383 := zA.mk (hx2); have GW383 := zA.mk ((Nat.le_trans (below_size (aL HB)) hg2 : w.heap.size ≤ gb383)); have GE383 := zA.mk ((Nat.le_trans (below_size (aL HB)) hg2 : w.heap.size ≤ gb383)); replace HB := zA.mk (below_step (aL HB) hb); have NB383_382 := zA.mk (Ne.symm hne); have HTt383 := zA.mk (htb); clear hb hx1 hx2 hg1 hg2 hne htb) | ((with_reducible refine gate_callee (f := 24) rfl ?_); refine goesL_ (some 12) rfl rfl Try.func24 (by kernel_rfl) rfl #[.slice none 0 0, .slice none 0 0, .slice none 0 0, .slice none 0 0, .pointer (some ⟨gb382, 0, none⟩)] rfl aT ?_; (refine (items_Make.calls k _ _ ([] : List (S50)) _ _ ([] : List Int) _ _ ([] : List Int) _ _ ([] : List Bool) (.pointer (some ⟨gb382, 0, none⟩)) t383 t384 t387 _ ?side1 ?side2 ?side3 ?side4 ?side5 ?side6 ?side7 ?side8 ?side9 A3.out).mono ?_); (case side1 => exact Kd.C_nil _ _); (case side2 => exact Nat.le_refl _); (case side3 => exact Kd.C_nil _ _); (case side4 => exact Nat.le_refl _); (case side5 => exact Kd.C_nil _ _); (case side6 => exact Nat.le_refl _); (case side7 => exact Kd.C_nil _ _); (case side8 => exact Nat.le_refl _); (case side9 => exact TabO.at HTt383.out (aB BK382) (aB BK383)); rintro e w15 ⟨v385, v388, rfl, ho0, ho1, hb⟩; refine ⟨_, rfl, ?_⟩; have HO386 := zA.mk (Kd.zP (Kd.R_newB (Kd.R_newB ho0 (g := gb382) (o := ob382) (aB BK382)) (g := gb383) (o := ob383) (aB BK383)) (below_size (aL HB))); have HO389 := zA.mk (Kd.zP (Kd.R_newB (Kd.R_newB ho1 (g := gb382) (o := ob382) (aB BK382)) (g := gb383) (o := ob383) (aB BK383)) (below_size (aL HB))); replace BK382 := zA.mk (blk_below (aB BK382) hb); replace BK383 := zA.mk (blk_below (aB BK383) hb); replace HB := zA.mk (below_step (aL HB) hb); (try clear hb); (try clear hb2); (try clear hk); (try clear hi); (try clear ho0); (try clear ho1)) | ((with_reducible refine gate_dst (N := 3) rfl ?_); (try (refine gate_guard (by rfl) ?_; dsimp only)); refine box_event ?hg (N := 3) ?hd (cs := #[.slice none 0 0, .slice none 0 0]) (t := 60) ?hr ?_; (case hd => rfl); (case hg => rfl); (case hr => first | (go_simp; done) | (go_simp; rfl)); intro gb390 hg w16 hbox hb; replace HO386 := zA.mk (Kd.zM (aR HO386) hb); replace HO389 := zA.mk (Kd.zM (aR HO389) hb); have BK390 := zA.mk (hbox); have GW390 := zA.mk ((by rw [hg]; exact (below_size (aL HB)) : w.heap.size ≤ gb390)); replace HB := zA.mk (below_step (aL HB) hb); have GE390 := GW390; have NB382_390 := zA.mk ((by rw [hg]; exact Nat.ne_of_lt (blk_lt (aB BK382)) : gb382 ≠ gb390)); have NB390_382 := zA.mk ((by rw [hg]; exact Nat.ne_of_gt (blk_lt (g := gb382) (o := ob382) (aB BK382)) : gb390 ≠ gb382)); replace BK382 := zA.mk (blk_below (aB BK382) hb); have NB383_390 := zA.mk ((by rw [hg]; exact Nat.ne_of_lt (blk_lt (aB BK383)) : gb383 ≠ gb390)); have NB390_383 := zA.mk ((by rw [hg]; exact Nat.ne_of_gt (blk_lt (g := gb383) (o := ob383) (aB BK383)) : gb390 ≠ gb383)); replace BK383 := zA.mk (blk_below (aB BK383) hb); clear hb hbox hg; obtain ⟨Ao17, co17, eo17⟩ := Kd.zO HO386.out; subst eo17; have hnb18 := NB390_382.out; have hnc18 := NB382_390.out; have hnb19 := NB390_383.out; have hnc19 := NB383_390.out; obtain ⟨hcz20_0, hcz20_1, hfz20_0, hfz20_1⟩ := aC2 BK390; obtain ⟨Ao21, co21, eo21⟩ := Kd.zO HO389.out; subst eo21) | ((with_reducible refine gate_store (t := 60) (p := 3) rfl ?_); refine store_event (t := 60) (p := 3) (v := ?vo_w22) (w1 := ((w16.setCell ⟨gb390, 0, none⟩ (.slice Ao17 t384.length co17)).setCell ⟨gb390, 1, none⟩ (.slice Ao21 t387.length co21))) ?hg ?ho ?hn ?hr ?_; (case ho => rfl); (case hg => rfl); (case hn => rfl); (case hr => first | (go_simp; done) | (go_simp; rfl)); intro w22 hw; have n0_ : zA (Kd.R k48 48 w22 w.heap.size (fun k_ => k_ ≠ gb382 ∧ k_ ≠ gb383) (.slice Ao17 t384.length co17) t384) := ⟨(by rw [hw]; exact (by (with_reducible repeat (first | apply Kd.zE | apply Kd.zF | apply Kd.zG)); exact Kd.zQ (Kd.zN (p := ⟨gb390, 1, none⟩) (Kd.zN (p := ⟨gb390, 0, none⟩) (Kd.zR HO386.out BK390.out (by decide)) (fun _ hk => hk.2) (.slice Ao17 t384.length co17)) (fun _ hk => hk.2) (.slice Ao21 t387.length co21)) (fun _ hk => ⟨hk.1.1.2, hk.1.2⟩)))⟩; have n1_ : zA (Kd.R (Kd.int .u8) 53 w22 w.heap.size (fun k_ => k_ ≠ gb382 ∧ k_ ≠ gb383) (.slice Ao21 t387.length co21) t387) := ⟨(by rw [hw]; exact (by (with_reducible repeat (first | apply Kd.zE | apply Kd.zF | apply Kd.zG)); exact Kd.zQ (Kd.zN (p := ⟨gb390, 1, none⟩) (Kd.zN (p := ⟨gb390, 0, none⟩) (Kd.zR HO389.out BK390.out (by decide)) (fun _ hk => hk.2) (.slice Ao17 t384.length co17)) (fun _ hk => hk.2) (.slice Ao21 t387.length co21)) (fun _ hk => ⟨hk.1.1.2, hk.1.2⟩)))⟩; have n2_ : zA (w22.heap[gb382]? = some (ob382)) := ⟨(by rw [hw]; exact (by (with_reducible repeat (first | refine zC ?_ _ | refine zD ?_ | refine zB ?_ _)); refine blk_farO ?_ NB382_390.out _; (with_reducible repeat (first | refine zC ?_ _ | refine zD ?_ | refine zB ?_ _)); refine blk_farO ?_ NB382_390.out _; (with_reducible repeat (first | refine zC ?_ _ | refine zD ?_ | refine zB ?_ _)); exact BK382.out))⟩; have n3_ : zA (w22.heap[gb383]? = some (ob383)) := ⟨(by rw [hw]; exact (by (with_reducible repeat (first | refine zC ?_ _ | refine zD ?_ | refine zB ?_ _)); refine blk_farO ?_ NB383_390.out _; (with_reducible repeat (first | refine zC ?_ _ | refine zD ?_ | refine zB ?_ _)); refine blk_farO ?_ NB383_390.out _; (with_reducible repeat (first | refine zC ?_ _ | refine zD ?_ | refine zB ?_ _)); exact BK383.out))⟩; have n4_ : zA (w22.heap[gb390]? = some (.cells #[.slice Ao17 t384.length co17, .slice Ao21 t387.length co21] 60 (0, 0))) := ⟨(by rw [hw]; exact (by (with_reducible repeat (first | refine zC ?_ _ | refine zD ?_ | refine zB ?_ _)); refine blk_put (cs := #[.slice Ao17 t384.length co17, .slice none 0 0]) ?_ 1 _ rfl; (with_reducible repeat (first | refine zC ?_ _ | refine zD ?_ | refine zB ?_ _)); refine blk_put (cs := #[.slice none 0 0, .slice none 0 0]) ?_ 0 _ rfl; (with_reducible repeat (first | refine zC ?_ _ | refine zD ?_ | refine zB ?_ _)); exact BK390.out))⟩; have n5_ : zA (Below w.heap.size w w22) := ⟨(by rw [hw]; exact (aL HB))⟩; clear hw; clear HO386; clear HO389; clear BK382; clear BK383; clear BK390; clear HB; have HO386 := n0_; have HO389 := n1_; have BK382 := n2_; have BK383 := n3_; have BK390 := n4_; have HB := n5_; clear n0_ n1_ n2_ n3_ n4_ n5_) | ((with_reducible refine gate_dst (N := 15) rfl ?_); (try (refine gate_guard (by rfl) ?_; dsimp only)); refine Kd.R_lit k50 _ 50 ?hg (N := 15) ?hd (xs := ([(⟨97, 0, 1⟩ : S50), (⟨98, 1, 1⟩ : S50)] : List (S50))) (inner := [.int .i32 97, .int .i64 0, .int .i64 1, .int .i32 98, .int .i64 1, .int .i64 1]) (ok := fun _ => True) (okp := fun _ => True) ?hr ?hp (fun _ hk => hk) trivial (Below.refl _ _) (Nat.le_refl _) (by simp) ?_; (case hd => rfl); (case hg => rfl); (case hr => first | (go_simp; done) | (go_simp; rfl)); (case hp => exact (Reps.c3 (show Kd.M k50 _ _ _ (⟨97, 0, 1⟩ : S50) [.int .i32 97, .int .i64 0, .int .i64 1] from (k50_mkM _ _ _ (⟨97, 0, 1⟩ : S50) )) (Reps.c3 (show Kd.M k50 _ _ _ (⟨98, 1, 1⟩ : S50) [.int .i32 98, .int .i64 1, .int .i64 1] from (k50_mkM _ _ _ (⟨98, 1, 1⟩ : S50) )) (Reps.none _ _)))); intro v392 w23 ho24 hb hg_ hnew_; clear hg_ hnew_; (first | rw [← Ny391.out] at ho24 | (simp only [Int.reduceToNat] at ho24; rw [← Ny391.out] at ho24)); replace HO386 := zA.mk (Kd.zM (aR HO386) hb); replace HO389 := zA.mk (Kd.zM (aR HO389) hb); have HO393 := zA.mk (Kd.zP (Kd.R_newB (Kd.R_newB ho24 (g := gb382) (o := ob382) (aB BK382)) (g := gb383) (o := ob383) (aB BK383)) (below_size (aL HB))); replace BK382 := zA.mk (blk_below (aB BK382) hb); replace BK383 := zA.mk (blk_below (aB BK383) hb); replace BK390 := zA.mk (blk_below (aB BK390) hb); replace HB := zA.mk (below_step (aL HB) hb); clear hb ho24) | ((with_reducible refine gate_dst (N := 16) rfl ?_); (try (refine gate_guard (by rfl) ?_; dsimp only)); refine Kd.R_lit (Kd.int .u8) _ 53 ?hg (N := 16) ?hd (xs := ([0, 1, 2] : List Int)) (inner := [.int .u8 0, .int .u8 1, .int .u8 2]) (ok := fun _ => True) (okp := fun _ => True) ?hr ?hp (fun _ hk => hk) trivial (Below.refl _ _) (Nat.le_refl _) (by simp) ?_; (case hd => rfl); (case hg => rfl); (case hr => first | (go_simp; done) | (go_simp; rfl)); (case hp => exact (Reps.one (show Kd.M (Kd.int .u8) _ _ _ 0 [.int .u8 0] from rfl) (Reps.one (show Kd.M (Kd.int .u8) _ _ _ 1 [.int .u8 1] from rfl) (Reps.one (show Kd.M (Kd.int .u8) _ _ _ 2 [.int .u8 2] from rfl) (Reps.none _ _))))); intro v395 w25 ho26 hb hg_ hnew_; clear hg_ hnew_; (first | rw [← Ny394.out] at ho26 | (simp only [Int.reduceToNat] at ho26; rw [← Ny394.out] at ho26)); replace HO386 := zA.mk (Kd.zM (aR HO386) hb); replace HO393 := zA.mk (Kd.zM (aR HO393) hb); have HO396 := zA.mk (Kd.zP (Kd.R_newB (Kd.R_newB (Kd.R_new' ho26 (Kd.R_lt (aR HO389))) (g := gb382) (o := ob382) (aB BK382)) (g := gb383) (o := ob383) (aB BK383)) (below_size (aL HB))); replace HO389 := zA.mk (Kd.R_elder' (aR HO389) (Kd.R_base ho26) hb); replace BK382 := zA.mk (blk_below (aB BK382) hb); replace BK383 := zA.mk (blk_below (aB BK383) hb); replace BK390 := zA.mk (blk_below (aB BK390) hb); replace HB := zA.mk (below_step (aL HB) hb); clear hb ho26) | ((with_reducible refine gate_dst (N := 17) rfl ?_); (try (refine gate_guard (by rfl) ?_; dsimp only)); refine Kd.R_lit (Kd.int .u8) _ 53 ?hg (N := 17) ?hd (xs := ([0, 0, 2] : List Int)) (inner := [.int .u8 0, .int .u8 0, .int .u8 2]) (ok := fun _ => True) (okp := fun _ => True) ?hr ?hp (fun _ hk => hk) trivial (Below.refl _ _) (Nat.le_refl _) (by simp) ?_; (case hd => rfl); (case hg => rfl); (case hr => first | (go_simp; done) | (go_simp; rfl)); (case hp => exact (Reps.one (show Kd.M (Kd.int .u8) _ _ _ 0 [.int .u8 0] from rfl) (Reps.one (show Kd.M (Kd.int .u8) _ _ _ 0 [.int .u8 0] from rfl) (Reps.one (show Kd.M (Kd.int .u8) _ _ _ 2 [.int .u8 2] from rfl) (Reps.none _ _))))); intro v398 w27 ho28 hb hg_ hnew_; clear hg_ hnew_; (first | rw [← Ny397.out] at ho28 | (simp only [Int.reduceToNat] at ho28; rw [← Ny397.out] at ho28)); replace HO386 := zA.mk (Kd.zM (aR HO386) hb); replace HO393 := zA.mk (Kd.zM (aR HO393) hb); have HO399 := zA.mk (Kd.zP (Kd.R_newB (Kd.R_newB (Kd.R_new' (Kd.R_new' ho28 (Kd.R_lt (aR HO389))) (Kd.R_lt (aR HO396))) (g := gb382) (o := ob382) (aB BK382)) (g := gb383) (o := ob383) (aB BK383)) (below_size (aL HB))); replace HO389 := zA.mk (Kd.R_elder' (aR HO389) (Kd.R_base ho28) hb); replace HO396 := zA.mk (Kd.R_elder' (aR HO396) (Kd.R_base ho28) hb); replace BK382 := zA.mk (blk_below (aB BK382) hb); replace BK383 := zA.mk (blk_below (aB BK383) hb); replace BK390 := zA.mk (blk_below (aB BK390) hb); replace HB := zA.mk (below_step (aL HB) hb); clear hb ho28) | ((with_reducible refine gate_dst (N := 18) rfl ?_); (try (refine gate_guard (by rfl) ?_; dsimp only)); refine Kd.R_lit Kd.bool _ 4 ?hg (N := 18) ?hd (xs := ([false, true, false] : List Bool)) (inner := [.bool false, .bool true, .bool false]) (ok := fun _ => True) (okp := fun _ => True) ?hr ?hp (fun _ hk => hk) trivial (Below.refl _ _) (Nat.le_refl _) (by simp) ?_; (case hd => rfl); (case hg => rfl); (case hr => first | (go_simp; done) | (go_simp; rfl)); (case hp => exact (Reps.one (show Kd.M Kd.bool _ _ _ false [.bool false] from rfl) (Reps.one (show Kd.M Kd.bool _ _ _ true [.bool true] from rfl) (Reps.one (show Kd.M Kd.bool _ _ _ false [.bool false] from rfl) (Reps.none _ _))))); intro v401 w29 ho30 hb hg_ hnew_; clear hg_ hnew_; (first | rw [← Ny400.out] at ho30 | (simp only [Int.reduceToNat] at ho30; rw [← Ny400.out] at ho30)); replace HO386 := zA.mk (Kd.zM (aR HO386) hb); replace HO389 := zA.mk (Kd.zM (aR HO389) hb); replace HO393 := zA.mk (Kd.zM (aR HO393) hb); replace HO396 := zA.mk (Kd.zM (aR HO396) hb); replace HO399 := zA.mk (Kd.zM (aR HO399) hb); have HO402 := zA.mk (Kd.zP (Kd.R_newB (Kd.R_newB ho30 (g := gb382) (o := ob382) (aB BK382)) (g := gb383) (o := ob383) (aB BK383)) (below_size (aL HB))); replace BK382 := zA.mk (blk_below (aB BK382) hb); replace BK383 := zA.mk (blk_below (aB BK383) hb); replace BK390 := zA.mk (blk_below (aB BK390) hb); replace HB := zA.mk (below_step (aL HB) hb); clear hb ho30; obtain ⟨Ao31, co31, eo31⟩ := Kd.zO HO393.out; subst eo31; obtain ⟨Ao32, co32, eo32⟩ := Kd.zO HO396.out; subst eo32; obtain ⟨Ao33, co33, eo33⟩ := Kd.zO HO399.out; subst eo33; obtain ⟨Ao34, co34, eo34⟩ := Kd.zO HO402.out; subst eo34) | ((with_reducible refine gate_callee (f := 24) rfl ?_); refine goesL_ (some 20) rfl rfl Try.func24 (by kernel_rfl) rfl #[.slice Ao31 y391.length co31, .slice Ao32 y394.length co32, .slice Ao33 y397.length co33, .slice Ao34 y400.length co34, .pointer (some ⟨gb382, 0, none⟩)] rfl aT ?_; (with_reducible refine (items_Make.calls k _ _ y391 _ _ y394 _ _ y397 _ _ y400 (.pointer (some ⟨gb382, 0, none⟩)) t383 t403 t406 _ ?side1 ?side2 ?side3 ?side4 ?side5 ?side6 ?side7 ?side8 ?side9 A4.out).mono ?_); (case side1 => exact aF HO393); (case side2 => exact (Kd.zL HO393.out).2.1); (case side3 => exact aF HO396); (case side4 => exact (Kd.zL HO396.out).2.1); (case side5 => exact aF HO399); (case side6 => exact (Kd.zL HO399.out).2.1); (case side7 => exact aF HO402); (case side8 => exact (Kd.zL HO402.out).2.1); (case side9 => exact TabO.at HTt383.out (aB BK382) (aB BK383)); rintro e w35 ⟨v404, v407, rfl, ho0, ho1, hb⟩; refine ⟨_, rfl, ?_⟩; replace HO393 := zA.mk (Kd.zM (aR HO393) hb); replace HO402 := zA.mk (Kd.zM (aR HO402) hb); have HO405 := zA.mk (Kd.zP (Kd.R_newB (Kd.R_newB (Kd.R_new' ho0 (Kd.R_lt (aR HO386))) (g := gb382) (o := ob382) (aB BK382)) (g := gb383) (o := ob383) (aB BK383)) (below_size (aL HB))); replace HO386 := zA.mk (Kd.R_elder' (aR HO386) (Kd.R_base ho0) hb); have HO408 := zA.mk (Kd.zP (Kd.R_newB (Kd.R_newB (Kd.R_new' (Kd.R_new' (Kd.R_new' ho1 (Kd.R_lt (aR HO389))) (Kd.R_lt (aR HO396))) (Kd.R_lt (aR HO399))) (g := gb382) (o := ob382) (aB BK382)) (g := gb383) (o := ob383) (aB BK383)) (below_size (aL HB))); replace HO389 := zA.mk (Kd.R_elder' (aR HO389) (Kd.R_base ho1) hb); replace HO396 := zA.mk (Kd.R_elder' (aR HO396) (Kd.R_base ho1) hb); replace HO399 := zA.mk (Kd.R_elder' (aR HO399) (Kd.R_base ho1) hb); replace BK382 := zA.mk (blk_below (aB BK382) hb); replace BK383 := zA.mk (blk_below (aB BK383) hb); replace BK390 := zA.mk (blk_below (aB BK390) hb); replace HB := zA.mk (below_step (aL HB) hb); (try clear hb); (try clear hb2); (try clear hk); (try clear hi); (try clear ho0); (try clear ho1)) | ((with_reducible refine gate_dst (N := 4) rfl ?_); (try (refine gate_guard (by rfl) ?_; dsimp only)); refine box_event ?hg (N := 4) ?hd (cs := #[.slice none 0 0, .slice none 0 0]) (t := 60) ?hr ?_; (case hd => rfl); (case hg => rfl); (case hr => first | (go_simp; done) | (go_simp; rfl)); intro gb409 hg w36 hbox hb; replace HO386 := zA.mk (Kd.zM (aR HO386) hb); replace HO389 := zA.mk (Kd.zM (aR HO389) hb); replace HO393 := zA.mk (Kd.zM (aR HO393) hb); replace HO396 := zA.mk (Kd.zM (aR HO396) hb); replace HO399 := zA.mk (Kd.zM (aR HO399) hb); replace HO402 := zA.mk (Kd.zM (aR HO402) hb); replace HO405 := zA.mk (Kd.zM (aR HO405) hb); replace HO408 := zA.mk (Kd.zM (aR HO408) hb); have BK409 := zA.mk (hbox); have GW409 := zA.mk ((by rw [hg]; exact (below_size (aL HB)) : w.heap.size ≤ gb409)); replace HB := zA.mk (below_step (aL HB) hb); have GE409 := GW409; have NB382_409 := zA.mk ((by rw [hg]; exact Nat.ne_of_lt (blk_lt (aB BK382)) : gb382 ≠ gb409)); have NB409_382 := zA.mk ((by rw [hg]; exact Nat.ne_of_gt (blk_lt (g := gb382) (o := ob382) (aB BK382)) : gb409 ≠ gb382)); replace BK382 := zA.mk (blk_below (aB BK382) hb); have NB383_409 := zA.mk ((by rw [hg]; exact Nat.ne_of_lt (blk_lt (aB BK383)) : gb383 ≠ gb409)); have NB409_383 := zA.mk ((by rw [hg]; exact Nat.ne_of_gt (blk_lt (g := gb383) (o := ob383) (aB BK383)) : gb409 ≠ gb383)); replace BK383 := zA.mk (blk_below (aB BK383) hb); have NB390_409 := zA.mk ((by rw [hg]; exact Nat.ne_of_lt (blk_lt (aB BK390)) : gb390 ≠ gb409)); have NB409_390 := zA.mk ((by rw [hg]; exact Nat.ne_of_gt (blk_lt (g := gb390) (o := .cells #[.slice Ao17 t384.length co17, .slice Ao21 t387.length co21] 60 (0, 0)) (aB BK390)) : gb409 ≠ gb390)); replace BK390 := zA.mk (blk_below (aB BK390) hb); clear hb hbox hg; obtain ⟨Ao37, co37, eo37⟩ := Kd.zO HO405.out; subst eo37; have hnb38 := NB409_382.out; have hnc38 := NB382_409.out; have hnb39 := NB409_383.out; have hnc39 := NB383_409.out; have hnb40 := NB409_390.out; have hnc40 := NB390_409.out; obtain ⟨hcz41_0, hcz41_1, hfz41_0, hfz41_1⟩ := aC2 BK409; obtain ⟨Ao42, co42, eo42⟩ := Kd.zO HO408.out; subst eo42) | ((with_reducible refine gate_store (t := 60) (p := 4) rfl ?_); refine store_event (t := 60) (p := 4) (v := ?vo_w43) (w1 := ((w36.setCell ⟨gb409, 0, none⟩ (.slice Ao37 t403.length co37)).setCell ⟨gb409, 1, none⟩ (.slice Ao42 t406.length co42))) ?hg ?ho ?hn ?hr ?_; (case ho => rfl); (case hg => rfl); (case hn => rfl); (case hr => first | (go_simp; done) | (go_simp; rfl)); intro w43 hw; have n0_ : zA (Kd.R k48 48 w43 w.heap.size (fun k_ => some k_ ≠ (.slice Ao37 t403.length co37 : Value).ownBlock ∧ k_ ≠ gb382 ∧ k_ ≠ gb383) (.slice Ao17 t384.length co17) t384) := ⟨(by rw [hw]; exact (by (with_reducible repeat (first | apply Kd.zE | apply Kd.zF | apply Kd.zG)); exact Kd.zQ (Kd.zN (p := ⟨gb409, 1, none⟩) (Kd.zN (p := ⟨gb409, 0, none⟩) (Kd.zR HO386.out BK409.out (by decide)) (fun _ hk => hk.2) (.slice Ao37 t403.length co37)) (fun _ hk => hk.2) (.slice Ao42 t406.length co42)) (fun _ hk => ⟨hk.1.2, ⟨hk.1.1.1, hk.1.1.2⟩⟩)))⟩; have n1_ : zA (Kd.R (Kd.int .u8) 53 w43 w.heap.size (fun k_ => some k_ ≠ (.slice Ao32 y394.length co32 : Value).ownBlock ∧ some k_ ≠ (.slice Ao33 y397.length co33 : Value).ownBlock ∧ some k_ ≠ (.slice Ao42 t406.length co42 : Value).ownBlock ∧ k_ ≠ gb382 ∧ k_ ≠ gb383) (.slice Ao21 t387.length co21) t387) := ⟨(by rw [hw]; exact (by (with_reducible repeat (first | apply Kd.zE | apply Kd.zF | apply Kd.zG)); exact Kd.zQ (Kd.zN (p := ⟨gb409, 1, none⟩) (Kd.zN (p := ⟨gb409, 0, none⟩) (Kd.zR HO389.out BK409.out (by decide)) (fun _ hk => hk.2) (.slice Ao37 t403.length co37)) (fun _ hk => hk.2) (.slice Ao42 t406.length co42)) (fun _ hk => ⟨hk.1.1.1.2, ⟨hk.1.1.2, ⟨hk.1.2, ⟨hk.1.1.1.1.1, hk.1.1.1.1.2⟩⟩⟩⟩)))⟩; have n2_ : zA (Kd.R k50 50 w43 w.heap.size (fun k_ => k_ ≠ gb382 ∧ k_ ≠ gb383) (.slice Ao31 y391.length co31) y391) := ⟨(by rw [hw]; exact (by (with_reducible repeat (first | apply Kd.zE | apply Kd.zF | apply Kd.zG)); exact Kd.zQ (Kd.zN (p := ⟨gb409, 1, none⟩) (Kd.zN (p := ⟨gb409, 0, none⟩) (Kd.zR HO393.out BK409.out (by decide)) (fun _ hk => hk.2) (.slice Ao37 t403.length co37)) (fun _ hk => hk.2) (.slice Ao42 t406.length co42)) (fun _ hk => ⟨hk.1.1.2, hk.1.2⟩)))⟩; have n3_ : zA (Kd.R (Kd.int .u8) 53 w43 w.heap.size (fun k_ => some k_ ≠ (.slice Ao21 t387.length co21 : Value).ownBlock ∧ some k_ ≠ (.slice Ao33 y397.length co33 : Value).ownBlock ∧ some k_ ≠ (.slice Ao42 t406.length co42 : Value).ownBlock ∧ k_ ≠ gb382 ∧ k_ ≠ gb383) (.slice Ao32 y394.length co32) y394) := ⟨(by rw [hw]; exact (by (with_reducible repeat (first | apply Kd.zE | apply Kd.zF | apply Kd.zG)); exact Kd.zQ (Kd.zN (p := ⟨gb409, 1, none⟩) (Kd.zN (p := ⟨gb409, 0, none⟩) (Kd.zR HO396.out BK409.out (by decide)) (fun _ hk => hk.2) (.slice Ao37 t403.length co37)) (fun _ hk => hk.2) (.slice Ao42 t406.length co42)) (fun _ hk => ⟨hk.1.1.1.1.1.2, ⟨hk.1.1.2, ⟨hk.1.2, ⟨hk.1.1.1.1.2, hk.1.1.1.2⟩⟩⟩⟩)))⟩; have n4_ : zA (Kd.R (Kd.int .u8) 53 w43 w.heap.size (fun k_ => some k_ ≠ (.slice Ao21 t387.length co21 : Value).ownBlock ∧ some k_ ≠ (.slice Ao32 y394.length co32 : Value).ownBlock ∧ some k_ ≠ (.slice Ao42 t406.length co42 : Value).ownBlock ∧ k_ ≠ gb382 ∧ k_ ≠ gb383) (.slice Ao33 y397.length co33) y397) := ⟨(by rw [hw]; exact (by (with_reducible repeat (first | apply Kd.zE | apply Kd.zF | apply Kd.zG)); exact Kd.zQ (Kd.zN (p := ⟨gb409, 1, none⟩) (Kd.zN (p := ⟨gb409, 0, none⟩) (Kd.zR HO399.out BK409.out (by decide)) (fun _ hk => hk.2) (.slice Ao37 t403.length co37)) (fun _ hk => hk.2) (.slice Ao42 t406.length co42)) (fun _ hk => ⟨hk.1.1.1.1.1.2, ⟨hk.1.1.1.1.2, ⟨hk.1.2, ⟨hk.1.1.1.2, hk.1.1.2⟩⟩⟩⟩)))⟩; have n5_ : zA (Kd.R Kd.bool 4 w43 w.heap.size (fun k_ => k_ ≠ gb382 ∧ k_ ≠ gb383) (.slice Ao34 y400.length co34) y400) := ⟨(by rw [hw]; exact (by (with_reducible repeat (first | apply Kd.zE | apply Kd.zF | apply Kd.zG)); exact Kd.zQ (Kd.zN (p := ⟨gb409, 1, none⟩) (Kd.zN (p := ⟨gb409, 0, none⟩) (Kd.zR HO402.out BK409.out (by decide)) (fun _ hk => hk.2) (.slice Ao37 t403.length co37)) (fun _ hk => hk.2) (.slice Ao42 t406.length co42)) (fun _ hk => ⟨hk.1.1.2, hk.1.2⟩)))⟩; have n6_ : zA (Kd.R k48 48 w43 w.heap.size (fun k_ => some k_ ≠ (.slice Ao17 t384.length co17 : Value).ownBlock ∧ k_ ≠ gb382 ∧ k_ ≠ gb383) (.slice Ao37 t403.length co37) t403) := ⟨(by rw [hw]; exact (by (with_reducible repeat (first | apply Kd.zE | apply Kd.zF | apply Kd.zG)); exact Kd.zQ (Kd.zN (p := ⟨gb409, 1, none⟩) (Kd.zN (p := ⟨gb409, 0, none⟩) (Kd.zR HO405.out BK409.out (by decide)) (fun _ hk => hk.2) (.slice Ao37 t403.length co37)) (fun _ hk => hk.2) (.slice Ao42 t406.length co42)) (fun _ hk => ⟨hk.1.1.1.2, ⟨hk.1.1.2, hk.1.2⟩⟩)))⟩; have n7_ : zA (Kd.R (Kd.int .u8) 53 w43 w.heap.size (fun k_ => some k_ ≠ (.slice Ao21 t387.length co21 : Value).ownBlock ∧ some k_ ≠ (.slice Ao32 y394.length co32 : Value).ownBlock ∧ some k_ ≠ (.slice Ao33 y397.length co33 : Value).ownBlock ∧ k_ ≠ gb382 ∧ k_ ≠ gb383) (.slice Ao42 t406.length co42) t406) := ⟨(by rw [hw]; exact (by (with_reducible repeat (first | apply Kd.zE | apply Kd.zF | apply Kd.zG)); exact Kd.zQ (Kd.zN (p := ⟨gb409, 1, none⟩) (Kd.zN (p := ⟨gb409, 0, none⟩) (Kd.zR HO408.out BK409.out (by decide)) (fun _ hk => hk.2) (.slice Ao37 t403.length co37)) (fun _ hk => hk.2) (.slice Ao42 t406.length co42)) (fun _ hk => ⟨hk.1.1.1.1.1.2, ⟨hk.1.1.1.1.2, ⟨hk.1.1.1.2, ⟨hk.1.1.2, hk.1.2⟩⟩⟩⟩)))⟩; have n8_ : zA (w43.heap[gb382]? = some (ob382)) := ⟨(by rw [hw]; exact (by (with_reducible repeat (first | refine zC ?_ _ | refine zD ?_ | refine zB ?_ _)); refine blk_farO ?_ NB382_409.out _; (with_reducible repeat (first | refine zC ?_ _ | refine zD ?_ | refine zB ?_ _)); refine blk_farO ?_ NB382_409.out _; (with_reducible repeat (first | refine zC ?_ _ | refine zD ?_ | refine zB ?_ _)); exact BK382.out))⟩; have n9_ : zA (w43.heap[gb383]? = some (ob383)) := ⟨(by rw [hw]; exact (by (with_reducible repeat (first | refine zC ?_ _ | refine zD ?_ | refine zB ?_ _)); refine blk_farO ?_ NB383_409.out _; (with_reducible repeat (first | refine zC ?_ _ | refine zD ?_ | refine zB ?_ _)); refine blk_farO ?_ NB383_409.out _; (with_reducible repeat (first | refine zC ?_ _ | refine zD ?_ | refine zB ?_ _)); exact BK383.out))⟩; have n10_ : zA (w43.heap[gb390]? = some (.cells #[.slice Ao17 t384.length co17, .slice Ao21 t387.length co21] 60 (0, 0))) := ⟨(by rw [hw]; exact (aB BK390))⟩; have n11_ : zA (w43.heap[gb409]? = some (.cells #[.slice Ao37 t403.length co37, .slice Ao42 t406.length co42] 60 (0, 0))) := ⟨(by rw [hw]; exact (by (with_reducible repeat (first | refine zC ?_ _ | refine zD ?_ | refine zB ?_ _)); refine blk_put (cs := #[.slice Ao37 t403.length co37, .slice none 0 0]) ?_ 1 _ rfl; (with_reducible repeat (first | refine zC ?_ _ | refine zD ?_ | refine zB ?_ _)); refine blk_put (cs := #[.slice none 0 0, .slice none 0 0]) ?_ 0 _ rfl; (with_reducible repeat (first | refine zC ?_ _ | refine zD ?_ | refine zB ?_ _)); exact BK409.out))⟩; have n12_ : zA (Below w.heap.size w w43) := ⟨(by rw [hw]; exact (aL HB))⟩; clear hw; clear HO386; clear HO389; clear HO393; clear HO396; clear HO399; clear HO402; clear HO405; clear HO408; clear BK382; clear BK383; clear BK390; clear BK409; clear HB; have HO386 := n0_; have HO389 := n1_; have HO393 := n2_; have HO396 := n3_; have HO399 := n4_; have HO402 := n5_; have HO405 := n6_; have HO408 := n7_; have BK382 := n8_; have BK383 := n9_; have BK390 := n10_; have BK409 := n11_; have HB := n12_; clear n0_ n1_ n2_ n3_ n4_ n5_ n6_ n7_ n8_ n9_ n10_ n11_ n12_; obtain ⟨hcz44_0, hcz44_1, hfz44_0, hfz44_1⟩ := aC2 BK390; have p410 : 0 ≤ (0 : Int) := (by omega); have q410 : 0 < (t387.length : Int) := aD; obtain ⟨ad410, e410, hx410_0⟩ := Kd.at_int (Kd.zL HO389.out).2.2 0 p410 q410; cases e410; have qi410 : (0 < t387.length) = True := eq_true (by omega); (try rw [show ((0 : Int)).toNat = 0 from rfl] at hx410_0); (try rw [Addr.add_zero'] at hx410_0); replace p410 := eq_true p410; replace q410 := eq_true q410) | (go_at_call 28; (with_reducible refine (items_Check.calls k _ _ t384 _ _ t387 true _ ?side1 ?side2 ?side3 ?side4 A8.out).mono ?_); (case side1 => exact aF HO386); (case side2 => exact (Kd.zL HO386.out).2.1); (case side3 => exact aF HO389); (case side4 => exact (Kd.zL HO389.out).2.1); rintro e w45 ⟨rfl, hb⟩; replace HO386 := zA.mk (Kd.zM (aR HO386) hb); replace HO389 := zA.mk (Kd.zM (aR HO389) hb); replace HO393 := zA.mk (Kd.zM (aR HO393) hb); replace HO396 := zA.mk (Kd.zM (aR HO396) hb); replace HO399 := zA.mk (Kd.zM (aR HO399) hb); replace HO402 := zA.mk (Kd.zM (aR HO402) hb); replace HO405 := zA.mk (Kd.zM (aR HO405) hb); replace HO408 := zA.mk (Kd.zM (aR HO408) hb); replace BK382 := zA.mk (blk_below (aB BK382) hb); replace BK383 := zA.mk (blk_below (aB BK383) hb); replace BK390 := zA.mk (blk_below (aB BK390) hb); replace BK409 := zA.mk (blk_below (aB BK409) hb); replace HB := zA.mk (below_step (aL HB) hb); (try clear hb); (try clear hb2); (try clear hk); (try clear hi); obtain ⟨hcz46_0, hcz46_1, hfz46_0, hfz46_1⟩ := aC2 BK409; have p412 : 0 ≤ (1 : Int) := (by omega); have q412 : 1 < (t406.length : Int) := aD; obtain ⟨ad412, e412, hx412_0⟩ := Kd.at_int (Kd.zL HO408.out).2.2 1 p412 q412; cases e412; (try simp only [show (1 : Int).toNat = 1 from rfl, Nat.reduceMul, Nat.reduceEqDiff, Go.Addr.add, ↓reduceIte] at hx412_0); have qi412 : (1 < t406.length) = True := eq_true (by omega); (try rw [show ((1 : Int)).toNat = 1 from rfl] at hx412_0); replace p412 := eq_true p412; replace q412 := eq_true q412) | (go_at_call 30; (with_reducible refine (items_Parts.calls k _ _ t403 _ _ t406 t413 _ ?side1 ?side2 ?side3 ?side4 A13.out).mono ?_); (case side1 => exact aF HO405); (case side2 => exact (Kd.zL HO405.out).2.1); (case side3 => exact aF HO408); (case side4 => exact (Kd.zL HO408.out).2.1); rintro e w47 ⟨v414, rfl, ho0, hb⟩; replace HO386 := zA.mk (Kd.zM (aR HO386) hb); replace HO389 := zA.mk (Kd.zM (aR HO389) hb); replace HO393 := zA.mk (Kd.zM (aR HO393) hb); replace HO396 := zA.mk (Kd.zM (aR HO396) hb); replace HO399 := zA.mk (Kd.zM (aR HO399) hb); replace HO402 := zA.mk (Kd.zM (aR HO402) hb); replace HO405 := zA.mk (Kd.zM (aR HO405) hb); replace HO408 := zA.mk (Kd.zM (aR HO408) hb); have HO415 := zA.mk (Kd.zP (Kd.R_newB (Kd.R_newB ho0 (g := gb382) (o := ob382) (aB BK382)) (g := gb383) (o := ob383) (aB BK383)) (below_size (aL HB))); replace BK382 := zA.mk (blk_below (aB BK382) hb); replace BK383 := zA.mk (blk_below (aB BK383) hb); replace BK390 := zA.mk (blk_below (aB BK390) hb); replace BK409 := zA.mk (blk_below (aB BK409) hb); replace HB := zA.mk (below_step (aL HB) hb); (try clear hb); (try clear hb2); (try clear hk); (try clear hi); (try clear ho0); obtain ⟨Ao48, co48, eo48⟩ := Kd.zO HO415.out; subst eo48))
 go_ret
 exact ⟨aX, aL HB⟩
def stanzaref01_SameInts.l0 : Nat → List Int → List Int → Int → Option (Bool)
 | 0, _, _, _ => none
 | k + 1, x0, x1, x5 => if x5 < (x0.length : Int) then (if 0 ≤ x5 then (if x5 < (x1.length : Int) then (if (rd x0 x5) = (rd x1 x5) then (stanzaref01_SameInts.l0 k x0 x1 (wrap64 (x5 + 1))) else (some false)) else (none)) else (none)) else (some true)
def stanzaref01_SameInts.f (k : Nat) (l0 : List Int) (l1 : List Int) : Option (Bool) := if (l0.length : Int) = (l1.length : Int) then (stanzaref01_SameInts.l0 k l0 l1 0) else (some false)
theorem stanzaref01_SameInts.mono_l : ∀ k, (∀ y0 y1 y2, LeO (stanzaref01_SameInts.l0 k y0 y1 y2) (stanzaref01_SameInts.l0 (k + 1) y0 y1 y2))
 | 0 => fun _ _ _ r h => by simp [stanzaref01_SameInts.l0] at h
 | k + 1 => by
  have ih0 := stanzaref01_SameInts.mono_l k
  ·intro y0 y1 y2
   unfold stanzaref01_SameInts.l0
   repeat' (with_reducible first | exact ih0 _ _ _ | exact LeO.refl _ | exact LeO.none _ | refine LeO.ite ?_ ?_ | refine LeO.bind ?_ (fun _ => ?_))
theorem stanzaref01_SameInts.mono : ∀ a0 a1 k, LeO (stanzaref01_SameInts.f k a0 a1) (stanzaref01_SameInts.f (k + 1) a0 a1) := by
 intro a0 a1 k
 have ih0 := stanzaref01_SameInts.mono_l k; unfold stanzaref01_SameInts.f
 repeat' (with_reducible first | exact ih0 _ _ _ | exact LeO.refl _ | exact LeO.none _ | refine LeO.ite ?_ ?_ | refine LeO.bind ?_ (fun _ => ?_))
set_option maxHeartbeats 8000000 in
set_option maxRecDepth 100000 in
theorem stanzaref01_SameInts.calls (k : Nat) (A0 : Option Addr) (c0 : Nat) (l0 : List Int) (A1 : Option Addr) (c1 : Nat) (l1 : List Int) (r : Bool) (w : World) (hr0 : Kd.C (Kd.int .i64) w A0 l0.length l0) (hc0 : l0.length ≤ c0) (hr1 : Kd.C (Kd.int .i64) w A1 l1.length l1) (hc1 : l1.length ≤ c1) (h : stanzaref01_SameInts.f k l0 l1 = some r) :
  Calls Try.prog 21 #[.slice A0 l0.length c0, .slice A1 l1.length c1] w fun e w' => e = .returned (.bool r) ∧ Drawn0 w w' := by
 have HR0 := zA.mk hr0; have HC0 := zA.mk hc0; clear hr0 hc0; have HR1 := zA.mk hr1; have HC1 := zA.mk hc1; clear hr1 hc1; have H : (if (l0.length : Int) = (l1.length : Int) then (stanzaref01_SameInts.l0 k l0 l1 0) else (some false)) = some r := h
 clear h; by_cases c3 : (l0.length : Int) = (l1.length : Int)
 rotate_left
 ·rw [if_neg c3] at H
  have c3b0 : ((l0.length : Int) == (l1.length : Int)) = false := beq_eq_false_iff_ne.mpr c3
  have c3b1 : ((l0.length : Int) != (l1.length : Int)) = true := bne_iff_ne.mpr c3
  have c3b2 : (l0.length == l1.length) = false := by first | simpa using c3 | (simp at c3 ⊢; omega)
  obtain rfl := Option.some.inj H
  go_enter Try.func21, Try.ntmps21
  go_wp2
  repeat (go_quiet (fail); try go_wp2)
  go_ret
  exact ⟨by first | rfl | (simp; done) | (simp [*]; done), by repeat (first | exact Drawn0.refl _ | apply Drawn0.step)⟩
 rw [if_pos c3] at H; have c3b0 : ((l0.length : Int) == (l1.length : Int)) = true := beq_iff_eq.mpr c3
 have c3b1 : ((l0.length : Int) != (l1.length : Int)) = false := bne_eq_false_iff_eq.mpr c3
 have c3b2 : (l0.length == l1.length) = true := by first | simpa using c3 | (simp at c3 ⊢; omega)
 clear c3; have H' := zA.mk H
 clear H; go_enter Try.func21, Try.ntmps21
 go_wp2
 repeat (go_quiet (fail); try go_wp2)
 go_loopg [5] k (fun kq v5 w' => ∃ (x5_1 : Int), v5 = .int .i64 x5_1 ∧ zA (stanzaref01_SameInts.l0 kq l0 l1 x5_1 = some r) ∧ zA (kq ≤ k) ∧ Drawn0 w w')
 case atStart => exact ⟨(0), aZ, H', ⟨Nat.le_refl _⟩, by repeat (first | exact Drawn0.refl _ | apply Drawn0.step)⟩
 clear H'; obtain ⟨x5_1, rfl, HA, HK1, ⟨m1, rfl⟩⟩ := hrel; cases gk with
 | zero => exact absurd HA.out (by simp [stanzaref01_SameInts.l0])
 | succ k1 =>
  have H := HA.out; clear HA; simp only [stanzaref01_SameInts.l0] at H; by_cases c4 : x5_1 < (l0.length : Int)
  rotate_left
  ·rw [if_neg c4] at H
   have c4b0 : decide (x5_1 < (l0.length : Int)) = false := decide_eq_false c4
   clear c4; obtain rfl := Option.some.inj H
   go_wp2
   repeat (go_quiet (fail); try go_wp2)
   go_ret
   exact ⟨by first | rfl | (simp; done) | (simp [*]; done), by repeat (first | exact Drawn0.refl _ | apply Drawn0.step)⟩
  rw [if_pos c4] at H; have c4b0 : decide (x5_1 < (l0.length : Int)) = true := decide_eq_true c4
  clear c4; by_cases c5 : 0 ≤ x5_1
  rotate_left
  ·rw [if_neg c5] at H
   exact absurd H (by simp)
  rw [if_pos c5] at H; have c5b0 : decide (0 ≤ x5_1) = true := decide_eq_true c5
  clear c5; by_cases c6 : x5_1 < (l1.length : Int)
  rotate_left
  ·rw [if_neg c6] at H
   exact absurd H (by simp)
  rw [if_pos c6] at H; have c6b0 : decide (x5_1 < (l1.length : Int)) = true := decide_eq_true c6
  clear c6; by_cases c7 : (rd l0 x5_1) = (rd l1 x5_1)
  rotate_left
  ·rw [if_neg c7] at H
   have c7b0 : ((rd l0 x5_1) == (rd l1 x5_1)) = false := beq_eq_false_iff_ne.mpr c7
   have c7b1 : ((rd l0 x5_1) != (rd l1 x5_1)) = true := bne_iff_ne.mpr c7
   obtain rfl := Option.some.inj H
   have p548 : 0 ≤ (x5_1 : Int) := aD
   have q548 : x5_1 < (l0.length : Int) := aD
   obtain ⟨ad548, e548, hx548_0⟩ := Kd.at_int HR0.out x5_1 p548 q548; cases e548
   replace p548 := eq_true p548; replace q548 := eq_true q548; have p549 : 0 ≤ (x5_1 : Int) := aD
   have q549 : x5_1 < (l1.length : Int) := aD
   obtain ⟨ad549, e549, hx549_0⟩ := Kd.at_int HR1.out x5_1 p549 q549; cases e549
   replace p549 := eq_true p549; replace q549 := eq_true q549; go_wp2
   repeat (go_quiet (fail); try go_wp2)
   go_ret
   exact ⟨by first | rfl | (simp; done) | (simp [*]; done), by repeat (first | exact Drawn0.refl _ | apply Drawn0.step)⟩
  rw [if_pos c7] at H; have c7b0 : ((rd l0 x5_1) == (rd l1 x5_1)) = true := beq_iff_eq.mpr c7
  have c7b1 : ((rd l0 x5_1) != (rd l1 x5_1)) = false := bne_eq_false_iff_eq.mpr c7
  clear c7; have H' := zA.mk H
  clear H; have p548 : 0 ≤ (x5_1 : Int) := aD
  have q548 : x5_1 < (l0.length : Int) := aD
  obtain ⟨ad548, e548, hx548_0⟩ := Kd.at_int HR0.out x5_1 p548 q548; cases e548
  replace p548 := eq_true p548; replace q548 := eq_true q548; have p549 : 0 ≤ (x5_1 : Int) := aD
  have q549 : x5_1 < (l1.length : Int) := aD
  obtain ⟨ad549, e549, hx549_0⟩ := Kd.at_int HR1.out x5_1 p549 q549; cases e549
  replace p549 := eq_true p549; replace q549 := eq_true q549; go_wp2
  repeat (go_quiet (fail); try go_wp2)
  go_roundg k1
  case measure => have := HK1.out; omega
  case rel => exact ⟨(wrap64 (x5_1 + 1)), aZ, H', ⟨by have := HK1.out; omega⟩, by repeat (first | exact Drawn0.refl _ | apply Drawn0.step)⟩
mutual
def h3_Para.j1 : Nat → List (S90) → List (S48) → Option ((List (S48)) × List Int)
 | 0, _, _ => none
 | k + 1, x0, x552000 => h3_Para.l1 k x0 0 x552000 ([] : List Int)
def h3_Para.l1 : Nat → List (S90) → Int → List (S48) → List Int → Option ((List (S48)) × List Int)
 | 0, _, _, _, _ => none
 | k + 1, x0, x8, x552000, x552001 => if x8 < (x552000.length : Int) then (if x8 > 0 then (if 0 ≤ (wrap64 (x8 - 1)) then (if (wrap64 (x8 - 1)) < (x0.length : Int) then (if x552001.length < 140737488355328 then (h3_Para.l1 k x0 (wrap64 (x8 + 1)) x552000 (x552001 ++ [Int.tmod ((rd_T90 x0 (wrap64 (x8 - 1))).f3) 4])) else (none)) else (none)) else (none)) else (if x552001.length < 140737488355328 then (h3_Para.l1 k x0 (wrap64 (x8 + 1)) x552000 (x552001 ++ [0])) else (none))) else (if x552001.length < 140737488355328 then (some (x552000, (x552001 ++ [2]))) else (none))
def h3_Para.l0 : Nat → List (S90) → Int → Int → List (S48) → Option ((List (S48)) × List Int)
 | 0, _, _, _, _ => none
 | k + 1, x0, x4, x5, x552000 => if x5 < (x0.length : Int) then (if x4 < 4000 then (if 0 ≤ x5 then (if x552000.length < 4398046511104 then (h3_Para.l0 k x0 (wrap64 (x4 + (wrap64 (1 + (wrap64 (Int.tmod ((rd_T90 x0 x5).f2) 4)))))) (wrap64 (x5 + 1)) (x552000 ++ [(⟨x4, wrap64 (1 + (wrap64 (Int.tmod ((rd_T90 x0 x5).f2) 4))), wrap64 (Int.tmod ((rd_T90 x0 x5).f0) 3), Int.tmod ((rd_T90 x0 x5).f1) 3⟩ : S48)])) else (none)) else (none)) else (h3_Para.j1 k x0 x552000)) else (h3_Para.j1 k x0 x552000)
end
def h3_Para.f (k : Nat) (l0 : List (S90)) : Option ((List (S48)) × List Int) := h3_Para.l0 k l0 0 0 ([] : List (S48))
theorem h3_Para.mono_l : ∀ k, (∀ y0 y1, LeO (h3_Para.j1 k y0 y1) (h3_Para.j1 (k + 1) y0 y1)) ∧ (∀ y0 y1 y2 y3, LeO (h3_Para.l1 k y0 y1 y2 y3) (h3_Para.l1 (k + 1) y0 y1 y2 y3)) ∧ (∀ y0 y1 y2 y3, LeO (h3_Para.l0 k y0 y1 y2 y3) (h3_Para.l0 (k + 1) y0 y1 y2 y3))
 | 0 => ⟨fun _ _ r h => by simp [h3_Para.j1] at h, fun _ _ _ _ r h => by simp [h3_Para.l1] at h, fun _ _ _ _ r h => by simp [h3_Para.l0] at h⟩
 | k + 1 => by
  obtain ⟨ih0, ih1, ih2⟩ := h3_Para.mono_l k; refine ⟨?_, ?_, ?_⟩
  ·intro y0 y1
   unfold h3_Para.j1
   repeat' (with_reducible first | exact ih0 _ _ | exact ih1 _ _ _ _ | exact ih2 _ _ _ _ | exact LeO.refl _ | exact LeO.none _ | refine LeO.ite ?_ ?_ | refine LeO.bind ?_ (fun _ => ?_))
  ·intro y0 y1 y2 y3
   unfold h3_Para.l1
   repeat' (with_reducible first | exact ih0 _ _ | exact ih1 _ _ _ _ | exact ih2 _ _ _ _ | exact LeO.refl _ | exact LeO.none _ | refine LeO.ite ?_ ?_ | refine LeO.bind ?_ (fun _ => ?_))
  ·intro y0 y1 y2 y3
   unfold h3_Para.l0
   repeat' (with_reducible first | exact ih0 _ _ | exact ih1 _ _ _ _ | exact ih2 _ _ _ _ | exact LeO.refl _ | exact LeO.none _ | refine LeO.ite ?_ ?_ | refine LeO.bind ?_ (fun _ => ?_))
theorem h3_Para.mono : ∀ a0 k, LeO (h3_Para.f k a0) (h3_Para.f (k + 1) a0) := by
 intro a0 k
 obtain ⟨ih0, ih1, ih2⟩ := h3_Para.mono_l k; unfold h3_Para.f
 repeat' (with_reducible first | exact ih0 _ _ | exact ih1 _ _ _ _ | exact ih2 _ _ _ _ | exact LeO.refl _ | exact LeO.none _ | refine LeO.ite ?_ ?_ | refine LeO.bind ?_ (fun _ => ?_))
set_option maxHeartbeats 8000000 in
set_option maxRecDepth 100000 in
theorem h3_Para.calls (k : Nat) (A0 : Option Addr) (c0 : Nat) (l0 : List (S90)) (r1 : List (S48)) (r2 : List Int) (w : World) (hr0 : Kd.C k90 w A0 l0.length l0) (hc0 : l0.length ≤ c0) (h : h3_Para.f k l0 = some (r1, r2)) :
  Calls Try.prog 27 #[.slice A0 l0.length c0] w fun e w' => ∃ v0_ v1_ : Value, e = .returned (.agg #[v0_, v1_]) ∧ Kd.R k48 48 w' w.heap.size (fun _ => True) v0_ r1 ∧ Kd.R (Kd.int .u8) 53 w' w.heap.size (fun _ => True) v1_ r2 ∧ Below w.heap.size w w' := by
 have hu60 := Try.underlying60; have hu90 := Try.underlying90; have hu48 := Try.underlying48; have HR0 := zA.mk hr0; have HC0 := zA.mk hc0; clear hr0 hc0; have HB := zA.mk (Below.refl w.heap.size w); have H : (h3_Para.l0 k l0 0 0 ([] : List (S48))) = some (r1, r2) := h
 clear h; have HC2 := zA.mk H; clear H; go_enter Try.func27, Try.ntmps27
 go_upto_block 0 with (first | ((with_reducible refine gate_dst (N := 2) rfl ?_); refine box_event ?hg (N := 2) ?hd (cs := #[.slice none 0 0, .slice none 0 0]) (t := 60) ?hr ?_; (case hd => rfl); (case hg => rfl); (case hr => first | (go_simp; done) | (go_simp; rfl)); intro gb550 hg w3 hbox hb; have BK550 := zA.mk (hbox); have GW550 := zA.mk ((by rw [hg]; exact (below_size (aL HB)) : w.heap.size ≤ gb550)); replace HB := zA.mk (below_step (aL HB) hb); have GE550 := GW550; clear hb hbox hg) | ((with_reducible refine gate_dst (N := 3) rfl ?_); refine box_event ?hg (N := 3) ?hd (cs := #[.slice none 0 0, .slice none 0 0]) (t := 60) ?hr ?_; (case hd => rfl); (case hg => rfl); (case hr => first | (go_simp; done) | (go_simp; rfl)); intro gb551 hg w4 hbox hb; have BK551 := zA.mk (hbox); have GW551 := zA.mk ((by rw [hg]; exact (below_size (aL HB)) : w.heap.size ≤ gb551)); replace HB := zA.mk (below_step (aL HB) hb); have GE551 := GW551; have NB550_551 := zA.mk ((by rw [hg]; exact Nat.ne_of_lt (blk_lt (aB BK550)) : gb550 ≠ gb551)); have NB551_550 := zA.mk ((by rw [hg]; exact Nat.ne_of_gt (blk_lt (g := gb550) (o := .cells #[.slice none 0 0, .slice none 0 0] 60 (0, 0)) (aB BK550)) : gb551 ≠ gb550)); replace BK550 := zA.mk (blk_below (aB BK550) hb); clear hb hbox hg; have hnb5 := NB551_550.out; have hnc5 := NB550_551.out; obtain ⟨hcz6_0, hcz6_1, hfz6_0, hfz6_1⟩ := aC2 BK551) | ((with_reducible refine gate_store (t := 60) (p := 3) rfl ?_); refine store_event (t := 60) (p := 3) (v := ?vo_w7) (w1 := ((w4.setCell ⟨gb551, 0, none⟩ (.slice none 0 0)).setCell ⟨gb551, 1, none⟩ (.slice none 0 0))) ?hg ?ho ?hn ?hr ?_; (case ho => rfl); (case hg => rfl); (case hn => rfl); (case hr => first | (go_simp; done) | (go_simp; rfl)); intro w7 hw; have n0_ : zA (w7.heap[gb550]? = some (.cells #[.slice none 0 0, .slice none 0 0] 60 (0, 0))) := ⟨(by rw [hw]; exact (aB BK550))⟩; have n1_ : zA (w7.heap[gb551]? = some (.cells #[.slice none 0 0, .slice none 0 0] 60 (0, 0))) := ⟨(by rw [hw]; exact (by (with_reducible repeat (first | refine zC ?_ _ | refine zD ?_ | refine zB ?_ _)); refine blk_put (cs := #[.slice none 0 0, .slice none 0 0]) ?_ 1 _ rfl; (with_reducible repeat (first | refine zC ?_ _ | refine zD ?_ | refine zB ?_ _)); refine blk_put (cs := #[.slice none 0 0, .slice none 0 0]) ?_ 0 _ rfl; (with_reducible repeat (first | refine zC ?_ _ | refine zD ?_ | refine zB ?_ _)); exact BK551.out))⟩; have n2_ : zA (Below w.heap.size w w7) := ⟨(by rw [hw]; exact (aL HB))⟩; clear hw; clear BK550; clear BK551; clear HB; have BK550 := n0_; have BK551 := n1_; have HB := n2_; clear n0_ n1_ n2_))
 (try simp only [Act.put, sA_, sB_, sC_])
 go_cut [] (fun wc => ∃ (kq : Nat) (x552000_1 : List (S48)) (u552000 : Value), zA (h3_Para.j1 kq l0 x552000_1 = some (r1, r2)) ∧ zA (kq ≤ k) ∧ zA (Kd.R k48 48 wc w.heap.size (fun _ => True) u552000 x552000_1) ∧ zA (wc.heap[gb550]? = some (.cells #[(.slice none 0 0), (.slice none 0 0)] 60 (0, 0))) ∧ zA (wc.heap[gb551]? = some (.cells #[u552000, (.slice none 0 0)] 60 (0, 0))) ∧ zA (Below w.heap.size w wc))
 case first =>
  have H := HC2.out; clear HC2; have H' := zA.mk H
  clear H; go_wp2
  go_loopg [4, 5] k (fun kq v4 v5 w' => ∃ (x4_1 : Int) (x5_1 : Int) (x552000_1 : List (S48)) (u552000 : Value), v4 = .int .i64 x4_1 ∧ v5 = .int .i64 x5_1 ∧ zA (h3_Para.l0 kq l0 x4_1 x5_1 x552000_1 = some (r1, r2)) ∧ zA (kq ≤ k) ∧ zA (Kd.R k48 48 w' w.heap.size (fun _ => True) u552000 x552000_1) ∧ zA (w'.heap[gb550]? = some (.cells #[(.slice none 0 0), (.slice none 0 0)] 60 (0, 0))) ∧ zA (w'.heap[gb551]? = some (.cells #[u552000, (.slice none 0 0)] 60 (0, 0))) ∧ zA (Below w.heap.size w w'))
  case atStart => exact ⟨(0), (0), (([] : List (S48))), (.slice none 0 0), aZ, aZ, H', ⟨Nat.le_refl _⟩, ⟨by first | exact Kd.R_nil _ _ _ _ _ | exact Kd.N_nil _ _ _ _ _ | exact Kd.V_nil _ _ _ _ _ | exact Kd.Q_nil _ _ _ _ _ | exact Kd.S_nil _ _ _ _ _⟩, ⟨aB BK550⟩, ⟨aB BK551⟩, ⟨aL HB⟩⟩
  clear H'; obtain ⟨x4_1, x5_1, x552000_1, u552000, rfl, rfl, HA, HK1, HO_552000, BK550, BK551, HB⟩ := hrel; cases gk with
  | zero => exact absurd HA.out (by simp [h3_Para.l0])
  | succ k1 =>
   have H := HA.out; clear HA; simp only [h3_Para.l0] at H; by_cases c8 : x5_1 < (l0.length : Int)
   rotate_left
   ·rw [if_neg c8] at H
    have c8b0 : decide (x5_1 < (l0.length : Int)) = false := decide_eq_false c8
    clear c8; (first | rw [c8b0] | (simp only [i64_w, i32_w]; rw [c8b0]) | skip)
    have H' := zA.mk H
    clear H; go_wp2
    go_meet
    case rel => exact ⟨_, (x552000_1), (u552000), H', ⟨by have := HK1.out; first | omega | exact Nat.le_refl _⟩, ⟨aR HO_552000⟩, ⟨aB BK550⟩, ⟨aB BK551⟩, ⟨aL HB⟩⟩
   rw [if_pos c8] at H; have c8b0 : decide (x5_1 < (l0.length : Int)) = true := decide_eq_true c8
   clear c8; (first | rw [c8b0] | (simp only [i64_w, i32_w]; rw [c8b0]) | skip)
   by_cases c9 : x4_1 < 4000
   rotate_left
   ·rw [if_neg c9] at H
    have c9b0 : decide (x4_1 < 4000) = false := decide_eq_false c9
    clear c9; have H' := zA.mk H
    clear H; go_wp2
    go_meet
    case rel => exact ⟨_, (x552000_1), (u552000), H', ⟨by have := HK1.out; first | omega | exact Nat.le_refl _⟩, ⟨aR HO_552000⟩, ⟨aB BK550⟩, ⟨aB BK551⟩, ⟨aL HB⟩⟩
   rw [if_pos c9] at H; have c9b0 : decide (x4_1 < 4000) = true := decide_eq_true c9
   clear c9; by_cases c10 : 0 ≤ x5_1
   rotate_left
   ·rw [if_neg c10] at H
    exact absurd H (by simp)
   rw [if_pos c10] at H; have c10b0 : decide (0 ≤ x5_1) = true := decide_eq_true c10
   clear c10; by_cases c11 : x552000_1.length < 4398046511104
   rotate_left
   ·rw [if_neg c11] at H
    exact absurd H (by simp)
   rw [if_pos c11] at H; have LMc11 := zA.mk c11; clear c11; obtain ⟨y555, hy555⟩ : ∃ y_ : List (S48), y_ = (x552000_1 ++ [(⟨x4_1, wrap64 (1 + (wrap64 (Int.tmod ((rd_T90 l0 x5_1).f2) 4))), wrap64 (Int.tmod ((rd_T90 l0 x5_1).f0) 3), Int.tmod ((rd_T90 l0 x5_1).f1) 3⟩ : S48)]) := ⟨_, rfl⟩; replace H : (h3_Para.l0 k1 l0 (wrap64 (x4_1 + (wrap64 (1 + (wrap64 (Int.tmod ((rd_T90 l0 x5_1).f2) 4)))))) (wrap64 (x5_1 + 1)) y555) = some (r1, r2) := by first | (rw [hy555]; with_reducible exact H) | (have H2_ := (Option.bind_some _ _).symm.trans H; rw [hy555]; with_reducible exact H2_) | (have H2_ := (Option.bind_some _ _).symm.trans H; with_reducible exact H2_) | with_reducible exact H | (rw [hy555]; exact H) | exact H
   have Ny555 := zA.mk hy555; clear hy555; have H' := zA.mk H
   clear H; have p552 : 0 ≤ (x5_1 : Int) := aD
   have q552 : x5_1 < (l0.length : Int) := aD
   obtain ⟨ad552, e552, hx552_0, hx552_1, hx552_2, hx552_3⟩ := at_T90 HR0.out x5_1 p552 q552; cases e552
   replace hx552_0 := (HB.out.cell (World.block_lt_of_cell? w _ hx552_0)).trans hx552_0; replace hx552_1 := (HB.out.cell (World.block_lt_of_cell? w _ hx552_1)).trans hx552_1; replace hx552_2 := (HB.out.cell (World.block_lt_of_cell? w _ hx552_2)).trans hx552_2; replace hx552_3 := (HB.out.cell (World.block_lt_of_cell? w _ hx552_3)).trans hx552_3; replace p552 := eq_true p552; replace q552 := eq_true q552; go_wp2_with (first | ((with_reducible refine gate_dst (N := 6) rfl ?_); refine box_event ?hg (N := 6) ?hd (cs := #[.int .u8 0, .int .u8 0, .int .u8 0, .int .u8 0]) (t := 90) ?hr ?_; (case hd => rfl); (case hg => rfl); (case hr => first | (go_simp; done) | (go_simp; rfl)); intro gb553 hg w12 hbox hb; replace HO_552000 := zA.mk (Kd.zM (aR HO_552000) hb); have BK553 := zA.mk (hbox); have GW553 := zA.mk ((by rw [hg]; exact (below_size (aL HB)) : w.heap.size ≤ gb553)); replace HB := zA.mk (below_step (aL HB) hb); have GE553 := GW553; have NB550_553 := zA.mk ((by rw [hg]; exact Nat.ne_of_lt (blk_lt (aB BK550)) : gb550 ≠ gb553)); have NB553_550 := zA.mk ((by rw [hg]; exact Nat.ne_of_gt (blk_lt (g := gb550) (o := .cells #[.slice none 0 0, .slice none 0 0] 60 (0, 0)) (aB BK550)) : gb553 ≠ gb550)); replace BK550 := zA.mk (blk_below (aB BK550) hb); have NB551_553 := zA.mk ((by rw [hg]; exact Nat.ne_of_lt (blk_lt (aB BK551)) : gb551 ≠ gb553)); have NB553_551 := zA.mk ((by rw [hg]; exact Nat.ne_of_gt (blk_lt (g := gb551) (o := .cells #[u552000, .slice none 0 0] 60 (0, 0)) (aB BK551)) : gb553 ≠ gb551)); replace BK551 := zA.mk (blk_below (aB BK551) hb); clear hb hbox hg; have hnb13 := NB553_550.out; have hnc13 := NB550_553.out; have hnb14 := NB553_551.out; have hnc14 := NB551_553.out; obtain ⟨hcz15_0, hcz15_1, hcz15_2, hcz15_3, hfz15_0, hfz15_1, hfz15_2, hfz15_3⟩ := aC4 BK553) | ((with_reducible refine gate_store (t := 90) (p := 6) rfl ?_); refine store_event (t := 90) (p := 6) (v := ?vo_w16) (w1 := ((((w12.setCell ⟨gb553, 0, none⟩ (.int .u8 ((rd_T90 l0 x5_1).f0))).setCell ⟨gb553, 1, none⟩ (.int .u8 ((rd_T90 l0 x5_1).f1))).setCell ⟨gb553, 2, none⟩ (.int .u8 ((rd_T90 l0 x5_1).f2))).setCell ⟨gb553, 3, none⟩ (.int .u8 ((rd_T90 l0 x5_1).f3)))) ?hg ?ho ?hn ?hr ?_; (case ho => rfl); (case hg => rfl); (case hn => rfl); (case hr => first | (go_simp; done) | (go_simp; rfl)); intro w16 hw; have n0_ : zA (Kd.R k48 48 w16 w.heap.size (fun _ => True) u552000 x552000_1) := ⟨(by rw [hw]; exact (by (with_reducible repeat (first | apply Kd.zE | apply Kd.zF | apply Kd.zG)); exact Kd.zQ (Kd.zN (p := ⟨gb553, 3, none⟩) (Kd.zN (p := ⟨gb553, 2, none⟩) (Kd.zN (p := ⟨gb553, 1, none⟩) (Kd.zN (p := ⟨gb553, 0, none⟩) (Kd.zR HO_552000.out BK553.out (by decide)) (fun _ hk => hk.2) (.int .u8 ((rd_T90 l0 x5_1).f0))) (fun _ hk => hk.2) (.int .u8 ((rd_T90 l0 x5_1).f1))) (fun _ hk => hk.2) (.int .u8 ((rd_T90 l0 x5_1).f2))) (fun _ hk => hk.2) (.int .u8 ((rd_T90 l0 x5_1).f3))) (fun _ hk => trivial)))⟩; have n1_ : zA (w16.heap[gb550]? = some (.cells #[.slice none 0 0, .slice none 0 0] 60 (0, 0))) := ⟨(by rw [hw]; exact (aB BK550))⟩; have n2_ : zA (w16.heap[gb551]? = some (.cells #[u552000, .slice none 0 0] 60 (0, 0))) := ⟨(by rw [hw]; exact (aB BK551))⟩; have n3_ : zA (w16.heap[gb553]? = some (.cells #[.int .u8 ((rd_T90 l0 x5_1).f0), .int .u8 ((rd_T90 l0 x5_1).f1), .int .u8 ((rd_T90 l0 x5_1).f2), .int .u8 ((rd_T90 l0 x5_1).f3)] 90 (0, 0))) := ⟨(by rw [hw]; exact (by (with_reducible repeat (first | refine zC ?_ _ | refine zD ?_ | refine zB ?_ _)); refine blk_put (cs := #[.int .u8 ((rd_T90 l0 x5_1).f0), .int .u8 ((rd_T90 l0 x5_1).f1), .int .u8 ((rd_T90 l0 x5_1).f2), .int .u8 0]) ?_ 3 _ rfl; (with_reducible repeat (first | refine zC ?_ _ | refine zD ?_ | refine zB ?_ _)); refine blk_put (cs := #[.int .u8 ((rd_T90 l0 x5_1).f0), .int .u8 ((rd_T90 l0 x5_1).f1), .int .u8 0, .int .u8 0]) ?_ 2 _ rfl; (with_reducible repeat (first | refine zC ?_ _ | refine zD ?_ | refine zB ?_ _)); refine blk_put (cs := #[.int .u8 ((rd_T90 l0 x5_1).f0), .int .u8 0, .int .u8 0, .int .u8 0]) ?_ 1 _ rfl; (with_reducible repeat (first | refine zC ?_ _ | refine zD ?_ | refine zB ?_ _)); refine blk_put (cs := #[.int .u8 0, .int .u8 0, .int .u8 0, .int .u8 0]) ?_ 0 _ rfl; (with_reducible repeat (first | refine zC ?_ _ | refine zD ?_ | refine zB ?_ _)); exact BK553.out))⟩; have n4_ : zA (Below w.heap.size w w16) := ⟨(by rw [hw]; exact (aL HB))⟩; clear hw; clear HO_552000; clear BK550; clear BK551; clear BK553; clear HB; have HO_552000 := n0_; have BK550 := n1_; have BK551 := n2_; have BK553 := n3_; have HB := n4_; clear n0_ n1_ n2_ n3_ n4_; obtain ⟨hcz17_0, hcz17_1, hcz17_2, hcz17_3, hfz17_0, hfz17_1, hfz17_2, hfz17_3⟩ := aC4 BK553) | ((with_reducible refine gate_dst (N := 7) rfl ?_); refine box_event ?hg (N := 7) ?hd (cs := #[.int .i64 0, .int .i64 0, .int .i64 0, .int .u8 0]) (t := 48) ?hr ?_; (case hd => rfl); (case hg => rfl); (case hr => first | (go_simp; done) | (go_simp; rfl)); intro gb554 hg w18 hbox hb; replace HO_552000 := zA.mk (Kd.zM (Kd.R_elderB (aR HO_552000) gb554 (Nat.le_of_eq hg.symm)) hb); have BK554 := zA.mk (hbox); have GW554 := zA.mk ((by rw [hg]; exact (below_size (aL HB)) : w.heap.size ≤ gb554)); replace HB := zA.mk (below_step (aL HB) hb); have GE554 := GW554; have NB550_554 := zA.mk ((by rw [hg]; exact Nat.ne_of_lt (blk_lt (aB BK550)) : gb550 ≠ gb554)); have NB554_550 := zA.mk ((by rw [hg]; exact Nat.ne_of_gt (blk_lt (g := gb550) (o := .cells #[.slice none 0 0, .slice none 0 0] 60 (0, 0)) (aB BK550)) : gb554 ≠ gb550)); replace BK550 := zA.mk (blk_below (aB BK550) hb); have NB551_554 := zA.mk ((by rw [hg]; exact Nat.ne_of_lt (blk_lt (aB BK551)) : gb551 ≠ gb554)); have NB554_551 := zA.mk ((by rw [hg]; exact Nat.ne_of_gt (blk_lt (g := gb551) (o := .cells #[u552000, .slice none 0 0] 60 (0, 0)) (aB BK551)) : gb554 ≠ gb551)); replace BK551 := zA.mk (blk_below (aB BK551) hb); have NB553_554 := zA.mk ((by rw [hg]; exact Nat.ne_of_lt (blk_lt (aB BK553)) : gb553 ≠ gb554)); have NB554_553 := zA.mk ((by rw [hg]; exact Nat.ne_of_gt (blk_lt (g := gb553) (o := .cells #[.int .u8 ((rd_T90 l0 x5_1).f0), .int .u8 ((rd_T90 l0 x5_1).f1), .int .u8 ((rd_T90 l0 x5_1).f2), .int .u8 ((rd_T90 l0 x5_1).f3)] 90 (0, 0)) (aB BK553)) : gb554 ≠ gb553)); replace BK553 := zA.mk (blk_below (aB BK553) hb); clear hb hbox hg; have hnb19 := NB554_550.out; have hnc19 := NB550_554.out; have hnb20 := NB554_551.out; have hnc20 := NB551_554.out; have hnb21 := NB554_553.out; have hnc21 := NB553_554.out; obtain ⟨hcz22_0, hcz22_1, hcz22_2, hcz22_3, hfz22_0, hfz22_1, hfz22_2, hfz22_3⟩ := aC4 BK554) | ((with_reducible refine gate_store (t := 48) (p := 7) rfl ?_); refine store_event (t := 48) (p := 7) (v := ?vo_w23) (w1 := ((((w18.setCell ⟨gb554, 0, none⟩ (.int .i64 x4_1)).setCell ⟨gb554, 1, none⟩ (.int .i64 (wrap64 (1 + (wrap64 (Int.tmod ((rd_T90 l0 x5_1).f2) 4)))))).setCell ⟨gb554, 2, none⟩ (.int .i64 (wrap64 (Int.tmod ((rd_T90 l0 x5_1).f0) 3)))).setCell ⟨gb554, 3, none⟩ (.int .u8 (Int.tmod ((rd_T90 l0 x5_1).f1) 3)))) ?hg ?ho ?hn ?hr ?_; (case ho => rfl); (case hg => rfl); (case hn => rfl); (case hr => first | (go_simp; done) | (go_simp; rfl)); intro w23 hw; have n0_ : zA (Kd.R k48 48 w23 w.heap.size (fun k_ => k_ ≠ gb554) u552000 x552000_1) := ⟨(by rw [hw]; exact (by (with_reducible repeat (first | apply Kd.zE | apply Kd.zF | apply Kd.zG)); exact Kd.zQ (Kd.zN (p := ⟨gb554, 3, none⟩) (Kd.zN (p := ⟨gb554, 2, none⟩) (Kd.zN (p := ⟨gb554, 1, none⟩) (Kd.zN (p := ⟨gb554, 0, none⟩) (Kd.zQ HO_552000.out (fun k_ hk => (⟨hk, hk.2⟩ : _ ∧ k_ ≠ gb554))) (fun _ hk => hk.2) (.int .i64 x4_1)) (fun _ hk => hk.2) (.int .i64 (wrap64 (1 + (wrap64 (Int.tmod ((rd_T90 l0 x5_1).f2) 4)))))) (fun _ hk => hk.2) (.int .i64 (wrap64 (Int.tmod ((rd_T90 l0 x5_1).f0) 3)))) (fun _ hk => hk.2) (.int .u8 (Int.tmod ((rd_T90 l0 x5_1).f1) 3))) (fun _ hk => hk.1.2)))⟩; have n1_ : zA (w23.heap[gb550]? = some (.cells #[.slice none 0 0, .slice none 0 0] 60 (0, 0))) := ⟨(by rw [hw]; exact (aB BK550))⟩; have n2_ : zA (w23.heap[gb551]? = some (.cells #[u552000, .slice none 0 0] 60 (0, 0))) := ⟨(by rw [hw]; exact (aB BK551))⟩; have n3_ : zA (w23.heap[gb553]? = some (.cells #[.int .u8 ((rd_T90 l0 x5_1).f0), .int .u8 ((rd_T90 l0 x5_1).f1), .int .u8 ((rd_T90 l0 x5_1).f2), .int .u8 ((rd_T90 l0 x5_1).f3)] 90 (0, 0))) := ⟨(by rw [hw]; exact (aB BK553))⟩; have n4_ : zA (w23.heap[gb554]? = some (.cells #[.int .i64 x4_1, .int .i64 (wrap64 (1 + (wrap64 (Int.tmod ((rd_T90 l0 x5_1).f2) 4)))), .int .i64 (wrap64 (Int.tmod ((rd_T90 l0 x5_1).f0) 3)), .int .u8 (Int.tmod ((rd_T90 l0 x5_1).f1) 3)] 48 (0, 0))) := ⟨(by rw [hw]; exact (by (with_reducible repeat (first | refine zC ?_ _ | refine zD ?_ | refine zB ?_ _)); refine blk_put (cs := #[.int .i64 x4_1, .int .i64 (wrap64 (1 + (wrap64 (Int.tmod ((rd_T90 l0 x5_1).f2) 4)))), .int .i64 (wrap64 (Int.tmod ((rd_T90 l0 x5_1).f0) 3)), .int .u8 0]) ?_ 3 _ rfl; (with_reducible repeat (first | refine zC ?_ _ | refine zD ?_ | refine zB ?_ _)); refine blk_put (cs := #[.int .i64 x4_1, .int .i64 (wrap64 (1 + (wrap64 (Int.tmod ((rd_T90 l0 x5_1).f2) 4)))), .int .i64 0, .int .u8 0]) ?_ 2 _ rfl; (with_reducible repeat (first | refine zC ?_ _ | refine zD ?_ | refine zB ?_ _)); refine blk_put (cs := #[.int .i64 x4_1, .int .i64 0, .int .i64 0, .int .u8 0]) ?_ 1 _ rfl; (with_reducible repeat (first | refine zC ?_ _ | refine zD ?_ | refine zB ?_ _)); refine blk_put (cs := #[.int .i64 0, .int .i64 0, .int .i64 0, .int .u8 0]) ?_ 0 _ rfl; (with_reducible repeat (first | refine zC ?_ _ | refine zD ?_ | refine zB ?_ _)); exact BK554.out))⟩; have n5_ : zA (Below w.heap.size w w23) := ⟨(by rw [hw]; exact (aL HB))⟩; clear hw; clear HO_552000; clear BK550; clear BK551; clear BK553; clear BK554; clear HB; have HO_552000 := n0_; have BK550 := n1_; have BK551 := n2_; have BK553 := n3_; have BK554 := n4_; have HB := n5_; clear n0_ n1_ n2_ n3_ n4_ n5_; obtain ⟨hcz24_0, hcz24_1, hcz24_2, hcz24_3, hfz24_0, hfz24_1, hfz24_2, hfz24_3⟩ := aC4 BK554; have hnb25 := NB551_550.out; have hnc25 := NB550_551.out; obtain ⟨hcz26_0, hcz26_1, hfz26_0, hfz26_1⟩ := aC2 BK551) | ((with_reducible refine gate_builtin (b := .append) (xs := #[.tmp 44, .tmp 46]) rfl ?_); at_builtin; refine Kd.R_append k48 (w0 := w) w.heap.size rfl (.tmp 44) (.tmp 46) 34 48 (.agg #[(.int .i64 0), (.int .i64 0), (.int .i64 0), (.int .u8 0)]) 32 rfl Try.underlying34 info48 rfl (by decide) (by omega) u552000 x552000_1 (⟨x4_1, wrap64 (1 + (wrap64 (Int.tmod ((rd_T90 l0 x5_1).f2) 4))), wrap64 (Int.tmod ((rd_T90 l0 x5_1).f0) 3), Int.tmod ((rd_T90 l0 x5_1).f1) 3⟩ : S48) [.int .i64 x4_1, .int .i64 (wrap64 (1 + (wrap64 (Int.tmod ((rd_T90 l0 x5_1).f2) 4)))), .int .i64 (wrap64 (Int.tmod ((rd_T90 l0 x5_1).f0) 3)), .int .u8 (Int.tmod ((rd_T90 l0 x5_1).f1) 3)] (fun k_ => k_ ≠ gb554) (fun _ => False) rfl rfl ?aP (fun _ hk => hk.elim) ?aF ?aO ?aB ?aS ?aL ?_; (case aP => exact k48_mkM _ _ _ (⟨x4_1, wrap64 (1 + (wrap64 (Int.tmod ((rd_T90 l0 x5_1).f2) 4))), wrap64 (Int.tmod ((rd_T90 l0 x5_1).f0) 3), Int.tmod ((rd_T90 l0 x5_1).f1) 3⟩ : S48)); (case aB => exact (aL HB)); (case aF => exact (fun k_ hk => Kd.freshB (g := gb554) (o := .cells #[.int .i64 x4_1, .int .i64 (wrap64 (1 + (wrap64 (Int.tmod ((rd_T90 l0 x5_1).f2) 4)))), .int .i64 (wrap64 (Int.tmod ((rd_T90 l0 x5_1).f0) 3)), .int .u8 (Int.tmod ((rd_T90 l0 x5_1).f1) 3)] 48 (0, 0)) (aB BK554) k_ hk)); (case aO => exact (aR HO_552000)); (case aS => exact (below_size (aL HB))); (case aL => have := LMc11.out; omega); intro v556 w27 ho hb hg hat; rw [← Ny555.out] at ho; replace BK550 := zA.mk (blk_grown (g := gb550) (o := .cells #[.slice none 0 0, .slice none 0 0] 60 (0, 0)) (aB BK550) hg (Kd.R_ne HO_552000.out BK550.out (by decide))); replace BK551 := zA.mk (blk_grown (g := gb551) (o := .cells #[u552000, .slice none 0 0] 60 (0, 0)) (aB BK551) hg (Kd.R_ne HO_552000.out BK551.out (by decide))); replace BK553 := zA.mk (blk_grown (g := gb553) (o := .cells #[.int .u8 ((rd_T90 l0 x5_1).f0), .int .u8 ((rd_T90 l0 x5_1).f1), .int .u8 ((rd_T90 l0 x5_1).f2), .int .u8 ((rd_T90 l0 x5_1).f3)] 90 (0, 0)) (aB BK553) hg (Kd.R_ne HO_552000.out BK553.out (by decide))); replace BK554 := zA.mk (blk_grown (g := gb554) (o := .cells #[.int .i64 x4_1, .int .i64 (wrap64 (1 + (wrap64 (Int.tmod ((rd_T90 l0 x5_1).f2) 4)))), .int .i64 (wrap64 (Int.tmod ((rd_T90 l0 x5_1).f0) 3)), .int .u8 (Int.tmod ((rd_T90 l0 x5_1).f1) 3)] 48 (0, 0)) (aB BK554) hg (Kd.R_away HO_552000.out (fun _ hk => hk))); replace HB := zA.mk (hb); have HO557 := zA.mk (ho); clear HO_552000; clear ho hb hg hat; obtain ⟨Ao28, co28, eo28⟩ := Kd.zO HO557.out; subst eo28; obtain ⟨hcz29_0, hcz29_1, hfz29_0, hfz29_1⟩ := aC2 BK551))
   go_roundg k1
   case measure => have := HK1.out; omega
   case rel => exact ⟨(wrap64 (x4_1 + (wrap64 (1 + (wrap64 (Int.tmod ((rd_T90 l0 x5_1).f2) 4)))))), (wrap64 (x5_1 + 1)), (y555), (.slice Ao28 y555.length co28), aZ, aZ, H', ⟨by have := HK1.out; omega⟩, ⟨by (with_reducible repeat (first | apply Kd.zE | apply Kd.zF | apply Kd.zG)); exact Kd.zQ (Kd.zN (p := ⟨gb551, 0, none⟩) (Kd.zR HO557.out BK551.out (by decide)) (fun _ hk => hk.2) (.slice Ao28 y555.length co28)) (fun _ hk => trivial)⟩, ⟨by (with_reducible repeat (first | refine zC ?_ _ | refine zD ?_ | refine zB ?_ _)); refine blk_far ?_ NB550_551.out _; (with_reducible repeat (first | refine zC ?_ _ | refine zD ?_ | refine zB ?_ _)); exact BK550.out⟩, ⟨by (with_reducible repeat (first | refine zC ?_ _ | refine zD ?_ | refine zB ?_ _)); refine blk_put (cs := #[u552000, .slice none 0 0]) ?_ 0 _ rfl; (with_reducible repeat (first | refine zC ?_ _ | refine zD ?_ | refine zB ?_ _)); exact BK551.out⟩, ⟨aL HB⟩⟩
 clear HC2; obtain ⟨kq, x552000_1, u552000, HA, HJ1, HO_552000, BK550, BK551, HB⟩ := hcut; cases kq with
 | zero => exact absurd HA.out (by simp [h3_Para.j1])
 | succ kj1 =>
  have H := HA.out; clear HA; simp only [h3_Para.j1] at H; have H' := zA.mk H
  clear H; go_wp2
  go_loopg [8] kj1 (fun kq v8 w' => ∃ (x8_2 : Int) (x552001_2 : List Int) (u552001 : Value), v8 = .int .i64 x8_2 ∧ zA (h3_Para.l1 kq l0 x8_2 x552000_1 x552001_2 = some (r1, r2)) ∧ zA (kq ≤ kj1) ∧ zA (Kd.R k48 48 w' w.heap.size (fun _ => True) u552000 x552000_1) ∧ zA (Kd.R (Kd.int .u8) 53 w' w.heap.size (fun _ => True) u552001 x552001_2) ∧ zA (w'.heap[gb550]? = some (.cells #[(.slice none 0 0), (.slice none 0 0)] 60 (0, 0))) ∧ zA (w'.heap[gb551]? = some (.cells #[u552000, u552001] 60 (0, 0))) ∧ zA (Below w.heap.size w w'))
  case atStart => exact ⟨(0), (([] : List Int)), (.slice none 0 0), aZ, H', ⟨Nat.le_refl _⟩, ⟨aR HO_552000⟩, ⟨by first | exact Kd.R_nil _ _ _ _ _ | exact Kd.N_nil _ _ _ _ _ | exact Kd.V_nil _ _ _ _ _ | exact Kd.Q_nil _ _ _ _ _ | exact Kd.S_nil _ _ _ _ _⟩, ⟨aB BK550⟩, ⟨aB BK551⟩, ⟨aL HB⟩⟩
  clear H'; obtain ⟨x8_2, x552001_2, u552001, rfl, HA, HK2, HO_552000, HO_552001, BK550, BK551, HB⟩ := hrel; cases gk with
  | zero => exact absurd HA.out (by simp [h3_Para.l1])
  | succ k2 =>
   have H := HA.out; clear HA; simp only [h3_Para.l1] at H; by_cases c30 : x8_2 < (x552000_1.length : Int)
   rotate_left
   ·rw [if_neg c30] at H
    have c30b0 : decide (x8_2 < (x552000_1.length : Int)) = false := decide_eq_false c30
    clear c30; by_cases c49 : x552001_2.length < 140737488355328
    rotate_left
    ·rw [if_neg c49] at H
     exact absurd H (by simp)
    rw [if_pos c49] at H; have LMc49 := zA.mk c49; clear c49; obtain ⟨y565, hy565⟩ : ∃ y_ : List Int, y_ = (x552001_2 ++ [2]) := ⟨_, rfl⟩; replace H : (some (x552000_1, y565)) = some (r1, r2) := by first | (rw [hy565]; with_reducible exact H) | (have H2_ := (Option.bind_some _ _).symm.trans H; rw [hy565]; with_reducible exact H2_) | (have H2_ := (Option.bind_some _ _).symm.trans H; with_reducible exact H2_) | with_reducible exact H | (rw [hy565]; exact H) | exact H
    have Ny565 := zA.mk hy565; clear hy565; simp only [Option.some.injEq, Prod.mk.injEq] at H; obtain ⟨rfl, rfl⟩ := H; have hnb50 := NB551_550.out; have hnc50 := NB550_551.out; obtain ⟨hcz51_0, hcz51_1, hfz51_0, hfz51_1⟩ := aC2 BK551; obtain ⟨Ao52, co52, eo52⟩ := Kd.zO HO_552000.out; subst eo52; go_wp2_with (first | ((with_reducible refine gate_builtin (b := .append) (xs := #[.tmp 72, .tmp 73]) rfl ?_); at_builtin; refine Kd.R_append (Kd.int .u8) (w0 := w) w.heap.size rfl (.tmp 72) (.tmp 73) 38 53 (.int .u8 0) 1 rfl Try.underlying38 info53 rfl (by decide) (by omega) u552001 x552001_2 2 [.int .u8 2] (fun _ => True) (fun _ => False) rfl rfl ?aP (fun _ hk => hk.elim) ?aF ?aO ?aB ?aS ?aL ?_; (case aP => exact rfl); (case aB => exact (aL HB)); (case aF => exact (fun _ _ => trivial)); (case aO => exact (aR HO_552001)); (case aS => exact (below_size (aL HB))); (case aL => have := LMc49.out; omega); intro v566 w53 ho hb hg hat; rw [← Ny565.out] at ho; replace HO_552000 := zA.mk (Kd.R_over' (aR HO_552000) (Kd.R_typed (aR HO_552001)) (by decide) hg); replace BK550 := zA.mk (blk_grown (g := gb550) (o := .cells #[.slice none 0 0, .slice none 0 0] 60 (0, 0)) (aB BK550) hg (Kd.R_ne HO_552001.out BK550.out (by decide))); replace BK551 := zA.mk (blk_grown (g := gb551) (o := .cells #[.slice Ao52 x552000_1.length co52, u552001] 60 (0, 0)) (aB BK551) hg (Kd.R_ne HO_552001.out BK551.out (by decide))); replace HB := zA.mk (hb); have HO567 := zA.mk (ho); clear HO_552001; clear ho hb hg hat; obtain ⟨Ao54, co54, eo54⟩ := Kd.zO HO567.out; subst eo54; obtain ⟨hcz55_0, hcz55_1, hfz55_0, hfz55_1⟩ := aC2 BK551; obtain ⟨hcz56_0, hcz56_1, hfz56_0, hfz56_1⟩ := aC2 BK550) | ((with_reducible refine gate_store (t := 60) (p := 2) rfl ?_); refine store_event (t := 60) (p := 2) (v := ?vo_w57) (w1 := (((w53.setCell ⟨gb551, 1, none⟩ (.slice Ao54 y565.length co54)).setCell ⟨gb550, 0, none⟩ (.slice Ao52 x552000_1.length co52)).setCell ⟨gb550, 1, none⟩ (.slice Ao54 y565.length co54))) ?hg ?ho ?hn ?hr ?_; (case ho => rfl); (case hg => rfl); (case hn => rfl); (case hr => first | (go_simp; done) | (go_simp; rfl)); intro w57 hw; have n0_ : zA (Kd.R k48 48 w57 w.heap.size (fun _ => True) (.slice Ao52 x552000_1.length co52) x552000_1) := ⟨(by rw [hw]; exact (by (with_reducible repeat (first | apply Kd.zE | apply Kd.zF | apply Kd.zG)); exact Kd.zQ (Kd.zN (p := ⟨gb550, 1, none⟩) (Kd.zN (p := ⟨gb550, 0, none⟩) (Kd.zN (p := ⟨gb551, 1, none⟩) (Kd.zR (Kd.zR HO_552000.out BK551.out (by decide)) BK550.out (by decide)) (fun _ hk => hk.1.2) (.slice Ao54 y565.length co54)) (fun _ hk => hk.2) (.slice Ao52 x552000_1.length co52)) (fun _ hk => hk.2) (.slice Ao54 y565.length co54)) (fun _ hk => trivial)))⟩; have n1_ : zA (Kd.R (Kd.int .u8) 53 w57 w.heap.size (fun _ => True) (.slice Ao54 y565.length co54) y565) := ⟨(by rw [hw]; exact (by (with_reducible repeat (first | apply Kd.zE | apply Kd.zF | apply Kd.zG)); exact Kd.zQ (Kd.zN (p := ⟨gb550, 1, none⟩) (Kd.zN (p := ⟨gb550, 0, none⟩) (Kd.zN (p := ⟨gb551, 1, none⟩) (Kd.zR (Kd.zR HO567.out BK551.out (by decide)) BK550.out (by decide)) (fun _ hk => hk.1.2) (.slice Ao54 y565.length co54)) (fun _ hk => hk.2) (.slice Ao52 x552000_1.length co52)) (fun _ hk => hk.2) (.slice Ao54 y565.length co54)) (fun _ hk => trivial)))⟩; have n2_ : zA (w57.heap[gb550]? = some (.cells #[.slice Ao52 x552000_1.length co52, .slice Ao54 y565.length co54] 60 (0, 0))) := ⟨(by rw [hw]; exact (by (with_reducible repeat (first | refine zC ?_ _ | refine zD ?_ | refine zB ?_ _)); refine blk_put (cs := #[.slice Ao52 x552000_1.length co52, .slice none 0 0]) ?_ 1 _ rfl; (with_reducible repeat (first | refine zC ?_ _ | refine zD ?_ | refine zB ?_ _)); refine blk_put (cs := #[.slice none 0 0, .slice none 0 0]) ?_ 0 _ rfl; (with_reducible repeat (first | refine zC ?_ _ | refine zD ?_ | refine zB ?_ _)); refine blk_far ?_ NB550_551.out _; (with_reducible repeat (first | refine zC ?_ _ | refine zD ?_ | refine zB ?_ _)); exact BK550.out))⟩; have n3_ : zA (w57.heap[gb551]? = some (.cells #[.slice Ao52 x552000_1.length co52, .slice Ao54 y565.length co54] 60 (0, 0))) := ⟨(by rw [hw]; exact (by (with_reducible repeat (first | refine zC ?_ _ | refine zD ?_ | refine zB ?_ _)); refine blk_far ?_ NB551_550.out _; (with_reducible repeat (first | refine zC ?_ _ | refine zD ?_ | refine zB ?_ _)); refine blk_far ?_ NB551_550.out _; (with_reducible repeat (first | refine zC ?_ _ | refine zD ?_ | refine zB ?_ _)); refine blk_put (cs := #[.slice Ao52 x552000_1.length co52, u552001]) ?_ 1 _ rfl; (with_reducible repeat (first | refine zC ?_ _ | refine zD ?_ | refine zB ?_ _)); exact BK551.out))⟩; have n4_ : zA (Below w.heap.size w w57) := ⟨(by rw [hw]; exact (aL HB))⟩; clear hw; clear HO_552000; clear HO567; clear BK550; clear BK551; clear HB; have HO_552000 := n0_; have HO567 := n1_; have BK550 := n2_; have BK551 := n3_; have HB := n4_; clear n0_ n1_ n2_ n3_ n4_))
    refine bodyPost_ret (results_cell_row rfl _ _ gb550 60 #[.slice Ao52 x552000_1.length co52, .slice Ao54 y565.length co54] (0, 0) _ rfl (aB BK550) Try.underlying60 rfl (by kernel_rfl)) rfl ?_
    exact ⟨_, _, aX, aR HO_552000, aR HO567, aL HB⟩
   rw [if_pos c30] at H; have c30b0 : decide (x8_2 < (x552000_1.length : Int)) = true := decide_eq_true c30
   clear c30; by_cases c31 : x8_2 > 0
   rotate_left
   ·rw [if_neg c31] at H
    have c31b0 : decide (0 < x8_2) = false := decide_eq_false c31
    clear c31; by_cases c42 : x552001_2.length < 140737488355328
    rotate_left
    ·rw [if_neg c42] at H
     exact absurd H (by simp)
    rw [if_pos c42] at H; have LMc42 := zA.mk c42; clear c42; obtain ⟨y562, hy562⟩ : ∃ y_ : List Int, y_ = (x552001_2 ++ [0]) := ⟨_, rfl⟩; replace H : (h3_Para.l1 k2 l0 (wrap64 (x8_2 + 1)) x552000_1 y562) = some (r1, r2) := by first | (rw [hy562]; with_reducible exact H) | (have H2_ := (Option.bind_some _ _).symm.trans H; rw [hy562]; with_reducible exact H2_) | (have H2_ := (Option.bind_some _ _).symm.trans H; with_reducible exact H2_) | with_reducible exact H | (rw [hy562]; exact H) | exact H
    have Ny562 := zA.mk hy562; clear hy562; have H' := zA.mk H
    clear H; have hnb43 := NB551_550.out; have hnc43 := NB550_551.out; obtain ⟨hcz44_0, hcz44_1, hfz44_0, hfz44_1⟩ := aC2 BK551; obtain ⟨Ao45, co45, eo45⟩ := Kd.zO HO_552000.out; subst eo45; go_wp2_with (first | ((with_reducible refine gate_builtin (b := .append) (xs := #[.tmp 66, .tmp 68]) rfl ?_); at_builtin; refine Kd.R_append (Kd.int .u8) (w0 := w) w.heap.size rfl (.tmp 66) (.tmp 68) 38 53 (.int .u8 0) 1 rfl Try.underlying38 info53 rfl (by decide) (by omega) u552001 x552001_2 0 [.int .u8 0] (fun _ => True) (fun _ => False) rfl rfl ?aP (fun _ hk => hk.elim) ?aF ?aO ?aB ?aS ?aL ?_; (case aP => exact rfl); (case aB => exact (aL HB)); (case aF => exact (fun _ _ => trivial)); (case aO => exact (aR HO_552001)); (case aS => exact (below_size (aL HB))); (case aL => have := LMc42.out; omega); intro v563 w46 ho hb hg hat; rw [← Ny562.out] at ho; replace HO_552000 := zA.mk (Kd.R_over' (aR HO_552000) (Kd.R_typed (aR HO_552001)) (by decide) hg); replace BK550 := zA.mk (blk_grown (g := gb550) (o := .cells #[.slice none 0 0, .slice none 0 0] 60 (0, 0)) (aB BK550) hg (Kd.R_ne HO_552001.out BK550.out (by decide))); replace BK551 := zA.mk (blk_grown (g := gb551) (o := .cells #[.slice Ao45 x552000_1.length co45, u552001] 60 (0, 0)) (aB BK551) hg (Kd.R_ne HO_552001.out BK551.out (by decide))); replace HB := zA.mk (hb); have HO564 := zA.mk (ho); clear HO_552001; clear ho hb hg hat; obtain ⟨Ao47, co47, eo47⟩ := Kd.zO HO564.out; subst eo47; obtain ⟨hcz48_0, hcz48_1, hfz48_0, hfz48_1⟩ := aC2 BK551))
    go_roundg k2
    case measure => have := HJ1.out; have := HK2.out; omega
    case rel => exact ⟨(wrap64 (x8_2 + 1)), (y562), (.slice Ao47 y562.length co47), aZ, H', ⟨by have := HJ1.out; have := HK2.out; omega⟩, ⟨by (with_reducible repeat (first | apply Kd.zE | apply Kd.zF | apply Kd.zG)); exact Kd.zQ (Kd.zN (p := ⟨gb551, 1, none⟩) (Kd.zR HO_552000.out BK551.out (by decide)) (fun _ hk => hk.2) (.slice Ao47 y562.length co47)) (fun _ hk => trivial)⟩, ⟨by (with_reducible repeat (first | apply Kd.zE | apply Kd.zF | apply Kd.zG)); exact Kd.zQ (Kd.zN (p := ⟨gb551, 1, none⟩) (Kd.zR HO564.out BK551.out (by decide)) (fun _ hk => hk.2) (.slice Ao47 y562.length co47)) (fun _ hk => trivial)⟩, ⟨by (with_reducible repeat (first | refine zC ?_ _ | refine zD ?_ | refine zB ?_ _)); refine blk_far ?_ NB550_551.out _; (with_reducible repeat (first | refine zC ?_ _ | refine zD ?_ | refine zB ?_ _)); exact BK550.out⟩, ⟨by (with_reducible repeat (first | refine zC ?_ _ | refine zD ?_ | refine zB ?_ _)); refine blk_put (cs := #[.slice Ao45 x552000_1.length co45, u552001]) ?_ 1 _ rfl; (with_reducible repeat (first | refine zC ?_ _ | refine zD ?_ | refine zB ?_ _)); exact BK551.out⟩, ⟨aL HB⟩⟩
   rw [if_pos c31] at H; have c31b0 : decide (0 < x8_2) = true := decide_eq_true c31
   clear c31; obtain ⟨ji32, hji32⟩ : ∃ j_ : Int, (wrap64 (x8_2 - 1)) = j_ := ⟨_, rfl⟩; replace H : (if 0 ≤ (ji32) then (if (ji32) < (l0.length : Int) then (if x552001_2.length < 140737488355328 then (h3_Para.l1 k2 l0 (wrap64 (x8_2 + 1)) x552000_1 (x552001_2 ++ [Int.tmod ((rd_T90 l0 (ji32)).f3) 4])) else (none)) else (none)) else (none)) = some (r1, r2) := by first | (rw [hji32] at H; exact H) | (simp only [hji32] at H ⊢; exact H)
   have hji32w : (IntKind.i64.wrap (x8_2 - 1)) = ji32 := (i64_w _).trans hji32
   by_cases c33 : 0 ≤ (ji32)
   rotate_left
   ·rw [if_neg c33] at H
    exact absurd H (by simp)
   rw [if_pos c33] at H; have c33b0 : decide (0 ≤ (ji32)) = true := decide_eq_true c33
   clear c33; by_cases c34 : (ji32) < (l0.length : Int)
   rotate_left
   ·rw [if_neg c34] at H
    exact absurd H (by simp)
   rw [if_pos c34] at H; have c34b0 : decide ((ji32) < (l0.length : Int)) = true := decide_eq_true c34
   clear c34; by_cases c35 : x552001_2.length < 140737488355328
   rotate_left
   ·rw [if_neg c35] at H
    exact absurd H (by simp)
   rw [if_pos c35] at H; have LMc35 := zA.mk c35; clear c35; obtain ⟨y559, hy559⟩ : ∃ y_ : List Int, y_ = (x552001_2 ++ [Int.tmod ((rd_T90 l0 (ji32)).f3) 4]) := ⟨_, rfl⟩; replace H : (h3_Para.l1 k2 l0 (wrap64 (x8_2 + 1)) x552000_1 y559) = some (r1, r2) := by first | (rw [hy559]; with_reducible exact H) | (have H2_ := (Option.bind_some _ _).symm.trans H; rw [hy559]; with_reducible exact H2_) | (have H2_ := (Option.bind_some _ _).symm.trans H; with_reducible exact H2_) | with_reducible exact H | (rw [hy559]; exact H) | exact H
   have Ny559 := zA.mk hy559; clear hy559; have H' := zA.mk H
   clear H; have hnb36 := NB551_550.out; have hnc36 := NB550_551.out; obtain ⟨hcz37_0, hcz37_1, hfz37_0, hfz37_1⟩ := aC2 BK551; obtain ⟨Ao38, co38, eo38⟩ := Kd.zO HO_552000.out; subst eo38; have p558 : 0 ≤ ((ji32) : Int) := aD
   have q558 : (ji32) < (l0.length : Int) := aD
   obtain ⟨ad558, e558, hx558_0, hx558_1, hx558_2, hx558_3⟩ := at_T90 HR0.out (ji32) p558 q558; cases e558
   replace hx558_0 := (HB.out.cell (World.block_lt_of_cell? w _ hx558_0)).trans hx558_0; replace hx558_1 := (HB.out.cell (World.block_lt_of_cell? w _ hx558_1)).trans hx558_1; replace hx558_2 := (HB.out.cell (World.block_lt_of_cell? w _ hx558_2)).trans hx558_2; replace hx558_3 := (HB.out.cell (World.block_lt_of_cell? w _ hx558_3)).trans hx558_3; replace p558 := eq_true p558; replace q558 := eq_true q558; go_wp2_with (first | ((with_reducible refine gate_builtin (b := .append) (xs := #[.tmp 66, .tmp 68]) rfl ?_); at_builtin; refine Kd.R_append (Kd.int .u8) (w0 := w) w.heap.size rfl (.tmp 66) (.tmp 68) 38 53 (.int .u8 0) 1 rfl Try.underlying38 info53 rfl (by decide) (by omega) u552001 x552001_2 (Int.tmod ((rd_T90 l0 (ji32)).f3) 4) [.int .u8 (Int.tmod ((rd_T90 l0 (ji32)).f3) 4)] (fun _ => True) (fun _ => False) rfl rfl ?aP (fun _ hk => hk.elim) ?aF ?aO ?aB ?aS ?aL ?_; (case aP => exact rfl); (case aB => exact (aL HB)); (case aF => exact (fun _ _ => trivial)); (case aO => exact (aR HO_552001)); (case aS => exact (below_size (aL HB))); (case aL => have := LMc35.out; omega); intro v560 w39 ho hb hg hat; rw [← Ny559.out] at ho; replace HO_552000 := zA.mk (Kd.R_over' (aR HO_552000) (Kd.R_typed (aR HO_552001)) (by decide) hg); replace BK550 := zA.mk (blk_grown (g := gb550) (o := .cells #[.slice none 0 0, .slice none 0 0] 60 (0, 0)) (aB BK550) hg (Kd.R_ne HO_552001.out BK550.out (by decide))); replace BK551 := zA.mk (blk_grown (g := gb551) (o := .cells #[.slice Ao38 x552000_1.length co38, u552001] 60 (0, 0)) (aB BK551) hg (Kd.R_ne HO_552001.out BK551.out (by decide))); replace HB := zA.mk (hb); have HO561 := zA.mk (ho); clear HO_552001; clear ho hb hg hat; obtain ⟨Ao40, co40, eo40⟩ := Kd.zO HO561.out; subst eo40; obtain ⟨hcz41_0, hcz41_1, hfz41_0, hfz41_1⟩ := aC2 BK551))
   go_roundg k2
   case measure => have := HJ1.out; have := HK2.out; omega
   case rel => exact ⟨(wrap64 (x8_2 + 1)), (y559), (.slice Ao40 y559.length co40), aZ, H', ⟨by have := HJ1.out; have := HK2.out; omega⟩, ⟨by (with_reducible repeat (first | apply Kd.zE | apply Kd.zF | apply Kd.zG)); exact Kd.zQ (Kd.zN (p := ⟨gb551, 1, none⟩) (Kd.zR HO_552000.out BK551.out (by decide)) (fun _ hk => hk.2) (.slice Ao40 y559.length co40)) (fun _ hk => trivial)⟩, ⟨by (with_reducible repeat (first | apply Kd.zE | apply Kd.zF | apply Kd.zG)); exact Kd.zQ (Kd.zN (p := ⟨gb551, 1, none⟩) (Kd.zR HO561.out BK551.out (by decide)) (fun _ hk => hk.2) (.slice Ao40 y559.length co40)) (fun _ hk => trivial)⟩, ⟨by (with_reducible repeat (first | refine zC ?_ _ | refine zD ?_ | refine zB ?_ _)); refine blk_far ?_ NB550_551.out _; (with_reducible repeat (first | refine zC ?_ _ | refine zD ?_ | refine zB ?_ _)); exact BK550.out⟩, ⟨by (with_reducible repeat (first | refine zC ?_ _ | refine zD ?_ | refine zB ?_ _)); refine blk_put (cs := #[.slice Ao38 x552000_1.length co38, u552001]) ?_ 1 _ rfl; (with_reducible repeat (first | refine zC ?_ _ | refine zD ?_ | refine zB ?_ _)); exact BK551.out⟩, ⟨aL HB⟩⟩
def items_Bytes.l0 : Nat → Int → List (S48) → Int → Int → Option (Int)
 | 0, _, _, _, _ => none
 | k + 1, x3, x7, x8, x9 => if x9 < x8 then (if 0 ≤ x9 then (if x9 < (x7.length : Int) then (items_Bytes.l0 k (wrap64 (x3 + ((rd_T48 x7 x9).f1))) x7 x8 (wrap64 (x9 + 1))) else (none)) else (none)) else (some x3)
def items_Bytes.f (k : Nat) (l0_0 : List (S48)) (l0_1 : List Int) : Option (Int) := items_Bytes.l0 k 0 l0_0 (l0_0.length : Int) 0
theorem items_Bytes.mono_l : ∀ k, (∀ y0 y1 y2 y3, LeO (items_Bytes.l0 k y0 y1 y2 y3) (items_Bytes.l0 (k + 1) y0 y1 y2 y3))
 | 0 => fun _ _ _ _ r h => by simp [items_Bytes.l0] at h
 | k + 1 => by
  have ih0 := items_Bytes.mono_l k
  ·intro y0 y1 y2 y3
   unfold items_Bytes.l0
   repeat' (with_reducible first | exact ih0 _ _ _ _ | exact LeO.refl _ | exact LeO.none _ | refine LeO.ite ?_ ?_ | refine LeO.bind ?_ (fun _ => ?_))
theorem items_Bytes.mono : ∀ a0 a1 k, LeO (items_Bytes.f k a0 a1) (items_Bytes.f (k + 1) a0 a1) := by
 intro a0 a1 k
 have ih0 := items_Bytes.mono_l k; unfold items_Bytes.f
 repeat' (with_reducible first | exact ih0 _ _ _ _ | exact LeO.refl _ | exact LeO.none _ | refine LeO.ite ?_ ?_ | refine LeO.bind ?_ (fun _ => ?_))
set_option maxHeartbeats 8000000 in
set_option maxRecDepth 100000 in
theorem items_Bytes.calls (k : Nat) (A0_0 : Option Addr) (c0_0 : Nat) (l0_0 : List (S48)) (A0_1 : Option Addr) (c0_1 : Nat) (l0_1 : List Int) (r : Int) (w : World) (hr0_0 : Kd.C k48 w A0_0 l0_0.length l0_0) (hc0_0 : l0_0.length ≤ c0_0) (hr0_1 : Kd.C (Kd.int .u8) w A0_1 l0_1.length l0_1) (hc0_1 : l0_1.length ≤ c0_1) (h : items_Bytes.f k l0_0 l0_1 = some r) :
  Calls Try.prog 31 #[.agg #[.slice A0_0 l0_0.length c0_0, .slice A0_1 l0_1.length c0_1]] w fun e w' => e = .returned (.int .i64 r) ∧ Below w.heap.size w w' := by
 have hu60 := Try.underlying60; have hu48 := Try.underlying48; have HR0_0 := zA.mk hr0_0; have HC0_0 := zA.mk hc0_0; clear hr0_0 hc0_0; have HR0_1 := zA.mk hr0_1; have HC0_1 := zA.mk hc0_1; clear hr0_1 hc0_1; have HB := zA.mk (Below.refl w.heap.size w); have H : (items_Bytes.l0 k 0 l0_0 (l0_0.length : Int) 0) = some r := h
 clear h; have H' := zA.mk H
 clear H; go_enter Try.func31, Try.ntmps31
 go_wp2_with (first | ((with_reducible refine gate_dst (N := 1) rfl ?_); refine box_event ?hg (N := 1) ?hd (cs := #[.slice A0_0 l0_0.length c0_0, .slice A0_1 l0_1.length c0_1]) (t := 60) ?hr ?_; (case hd => rfl); (case hg => rfl); (case hr => first | (go_simp; done) | (go_simp; rfl)); intro gb568 hg w2 hbox hb; have BK568 := zA.mk (hbox); have GW568 := zA.mk ((by rw [hg]; exact (below_size (aL HB)) : w.heap.size ≤ gb568)); replace HB := zA.mk (below_step (aL HB) hb); have GE568 := GW568; clear hb hbox hg; obtain ⟨hcz3_0, hcz3_1, hfz3_0, hfz3_1⟩ := aC2 BK568))
 go_loopg [3, 9] k (fun kq v3 v9 w' => ∃ (x3_1 : Int) (x9_1 : Int), v3 = .int .i64 x3_1 ∧ v9 = .int .i64 x9_1 ∧ zA (items_Bytes.l0 kq x3_1 l0_0 (l0_0.length : Int) x9_1 = some r) ∧ zA (kq ≤ k) ∧ zA (w'.heap[gb568]? = some (.cells #[(.slice A0_0 l0_0.length c0_0), (.slice A0_1 l0_1.length c0_1)] 60 (0, 0))) ∧ zA (Below w.heap.size w w'))
 case atStart => exact ⟨(0), (0), aZ, aZ, H', ⟨Nat.le_refl _⟩, ⟨aB BK568⟩, ⟨aL HB⟩⟩
 clear H'; obtain ⟨x3_1, x9_1, rfl, rfl, HA, HK1, BK568, HB⟩ := hrel; cases gk with
 | zero => exact absurd HA.out (by simp [items_Bytes.l0])
 | succ k1 =>
  have H := HA.out; clear HA; simp only [items_Bytes.l0] at H; by_cases c4 : x9_1 < (l0_0.length : Int)
  rotate_left
  ·rw [if_neg c4] at H
   have c4b0 : decide (x9_1 < (l0_0.length : Int)) = false := decide_eq_false c4
   clear c4; obtain rfl := Option.some.inj H
   go_wp2
   go_ret
   exact ⟨aX, aL HB⟩
  rw [if_pos c4] at H; have c4b0 : decide (x9_1 < (l0_0.length : Int)) = true := decide_eq_true c4
  clear c4; by_cases c5 : 0 ≤ x9_1
  rotate_left
  ·rw [if_neg c5] at H
   exact absurd H (by simp)
  rw [if_pos c5] at H; have c5b0 : decide (0 ≤ x9_1) = true := decide_eq_true c5
  clear c5; by_cases c6 : x9_1 < (l0_0.length : Int)
  rotate_left
  ·rw [if_neg c6] at H
   exact absurd H (by simp)
  rw [if_pos c6] at H; have c6b0 : decide (x9_1 < (l0_0.length : Int)) = true := decide_eq_true c6
  clear c6; have H' := zA.mk H
  clear H; have p569 : 0 ≤ (x9_1 : Int) := aD
  have q569 : x9_1 < (l0_0.length : Int) := aD
  obtain ⟨ad569, e569, hx569_0, hx569_1, hx569_2, hx569_3⟩ := at_T48 HR0_0.out x9_1 p569 q569; cases e569
  replace hx569_0 := (HB.out.cell (World.block_lt_of_cell? w _ hx569_0)).trans hx569_0; replace hx569_1 := (HB.out.cell (World.block_lt_of_cell? w _ hx569_1)).trans hx569_1; replace hx569_2 := (HB.out.cell (World.block_lt_of_cell? w _ hx569_2)).trans hx569_2; replace hx569_3 := (HB.out.cell (World.block_lt_of_cell? w _ hx569_3)).trans hx569_3; replace p569 := eq_true p569; replace q569 := eq_true q569; go_wp2_with (first | ((with_reducible refine gate_dst (N := 5) rfl ?_); refine box_event ?hg (N := 5) ?hd (cs := #[.int .i64 0, .int .i64 0, .int .i64 0, .int .u8 0]) (t := 48) ?hr ?_; (case hd => rfl); (case hg => rfl); (case hr => first | (go_simp; done) | (go_simp; rfl)); intro gb570 hg w7 hbox hb; have BK570 := zA.mk (hbox); have GW570 := zA.mk ((by rw [hg]; exact (below_size (aL HB)) : w.heap.size ≤ gb570)); replace HB := zA.mk (below_step (aL HB) hb); have GE570 := GW570; have NB568_570 := zA.mk ((by rw [hg]; exact Nat.ne_of_lt (blk_lt (aB BK568)) : gb568 ≠ gb570)); have NB570_568 := zA.mk ((by rw [hg]; exact Nat.ne_of_gt (blk_lt (g := gb568) (o := .cells #[.slice (some ad569) l0_0.length c0_0, .slice A0_1 l0_1.length c0_1] 60 (0, 0)) (aB BK568)) : gb570 ≠ gb568)); replace BK568 := zA.mk (blk_below (aB BK568) hb); clear hb hbox hg; have hnb8 := NB570_568.out; have hnc8 := NB568_570.out; obtain ⟨hcz9_0, hcz9_1, hcz9_2, hcz9_3, hfz9_0, hfz9_1, hfz9_2, hfz9_3⟩ := aC4 BK570) | ((with_reducible refine gate_store (t := 48) (p := 5) rfl ?_); refine store_event (t := 48) (p := 5) (v := ?vo_w10) (w1 := ((((w7.setCell ⟨gb570, 0, none⟩ (.int .i64 ((rd_T48 l0_0 x9_1).f0))).setCell ⟨gb570, 1, none⟩ (.int .i64 ((rd_T48 l0_0 x9_1).f1))).setCell ⟨gb570, 2, none⟩ (.int .i64 ((rd_T48 l0_0 x9_1).f2))).setCell ⟨gb570, 3, none⟩ (.int .u8 ((rd_T48 l0_0 x9_1).f3)))) ?hg ?ho ?hn ?hr ?_; (case ho => rfl); (case hg => rfl); (case hn => rfl); (case hr => first | (go_simp; done) | (go_simp; rfl)); intro w10 hw; have n0_ : zA (w10.heap[gb568]? = some (.cells #[.slice (some ad569) l0_0.length c0_0, .slice A0_1 l0_1.length c0_1] 60 (0, 0))) := ⟨(by rw [hw]; exact (aB BK568))⟩; have n1_ : zA (w10.heap[gb570]? = some (.cells #[.int .i64 ((rd_T48 l0_0 x9_1).f0), .int .i64 ((rd_T48 l0_0 x9_1).f1), .int .i64 ((rd_T48 l0_0 x9_1).f2), .int .u8 ((rd_T48 l0_0 x9_1).f3)] 48 (0, 0))) := ⟨(by rw [hw]; exact (by (with_reducible repeat (first | refine zC ?_ _ | refine zD ?_ | refine zB ?_ _)); refine blk_put (cs := #[.int .i64 ((rd_T48 l0_0 x9_1).f0), .int .i64 ((rd_T48 l0_0 x9_1).f1), .int .i64 ((rd_T48 l0_0 x9_1).f2), .int .u8 0]) ?_ 3 _ rfl; (with_reducible repeat (first | refine zC ?_ _ | refine zD ?_ | refine zB ?_ _)); refine blk_put (cs := #[.int .i64 ((rd_T48 l0_0 x9_1).f0), .int .i64 ((rd_T48 l0_0 x9_1).f1), .int .i64 0, .int .u8 0]) ?_ 2 _ rfl; (with_reducible repeat (first | refine zC ?_ _ | refine zD ?_ | refine zB ?_ _)); refine blk_put (cs := #[.int .i64 ((rd_T48 l0_0 x9_1).f0), .int .i64 0, .int .i64 0, .int .u8 0]) ?_ 1 _ rfl; (with_reducible repeat (first | refine zC ?_ _ | refine zD ?_ | refine zB ?_ _)); refine blk_put (cs := #[.int .i64 0, .int .i64 0, .int .i64 0, .int .u8 0]) ?_ 0 _ rfl; (with_reducible repeat (first | refine zC ?_ _ | refine zD ?_ | refine zB ?_ _)); exact BK570.out))⟩; have n2_ : zA (Below w.heap.size w w10) := ⟨(by rw [hw]; exact (aL HB))⟩; clear hw; clear BK568; clear BK570; clear HB; have BK568 := n0_; have BK570 := n1_; have HB := n2_; clear n0_ n1_ n2_; obtain ⟨hcz11_0, hcz11_1, hcz11_2, hcz11_3, hfz11_0, hfz11_1, hfz11_2, hfz11_3⟩ := aC4 BK570))
  go_roundg k1
  case measure => have := HK1.out; omega
  case rel => exact ⟨(wrap64 (x3_1 + ((rd_T48 l0_0 x9_1).f1))), (wrap64 (x9_1 + 1)), aZ, aZ, H', ⟨by have := HK1.out; omega⟩, ⟨aB BK568⟩, ⟨aL HB⟩⟩
def r0_Parts.l0 : Nat → List Int → Int → List (S48) → List Int → Option (List Int)
 | 0, _, _, _, _ => none
 | k + 1, x3, x4, x572000, x572001 => if x4 < (x572001.length : Int) then (if 0 ≤ x4 then (if (rd x572001 x4) = 2 then (if x3.length < 17592186044416 then (r0_Parts.l0 k (x3 ++ [x4]) (wrap64 (x4 + 1)) x572000 x572001) else (none)) else (r0_Parts.l0 k x3 (wrap64 (x4 + 1)) x572000 x572001)) else (none)) else (some x3)
def r0_Parts.f (k : Nat) (l0_0 : List (S48)) (l0_1 : List Int) : Option (List Int) := r0_Parts.l0 k ([] : List Int) 0 l0_0 l0_1
theorem r0_Parts.mono_l : ∀ k, (∀ y0 y1 y2 y3, LeO (r0_Parts.l0 k y0 y1 y2 y3) (r0_Parts.l0 (k + 1) y0 y1 y2 y3))
 | 0 => fun _ _ _ _ r h => by simp [r0_Parts.l0] at h
 | k + 1 => by
  have ih0 := r0_Parts.mono_l k
  ·intro y0 y1 y2 y3
   unfold r0_Parts.l0
   repeat' (with_reducible first | exact ih0 _ _ _ _ | exact LeO.refl _ | exact LeO.none _ | refine LeO.ite ?_ ?_ | refine LeO.bind ?_ (fun _ => ?_))
theorem r0_Parts.mono : ∀ a0 a1 k, LeO (r0_Parts.f k a0 a1) (r0_Parts.f (k + 1) a0 a1) := by
 intro a0 a1 k
 have ih0 := r0_Parts.mono_l k; unfold r0_Parts.f
 repeat' (with_reducible first | exact ih0 _ _ _ _ | exact LeO.refl _ | exact LeO.none _ | refine LeO.ite ?_ ?_ | refine LeO.bind ?_ (fun _ => ?_))
set_option maxHeartbeats 8000000 in
set_option maxRecDepth 100000 in
theorem r0_Parts.calls (k : Nat) (A0_0 : Option Addr) (c0_0 : Nat) (l0_0 : List (S48)) (A0_1 : Option Addr) (c0_1 : Nat) (l0_1 : List Int) (r : List Int) (w : World) (hr0_0 : Kd.C k48 w A0_0 l0_0.length l0_0) (hc0_0 : l0_0.length ≤ c0_0) (hr0_1 : Kd.C (Kd.int .u8) w A0_1 l0_1.length l0_1) (hc0_1 : l0_1.length ≤ c0_1) (h : r0_Parts.f k l0_0 l0_1 = some r) :
  Calls Try.prog 32 #[.agg #[.slice A0_0 l0_0.length c0_0, .slice A0_1 l0_1.length c0_1]] w fun e w' => ∃ v0_ : Value, e = .returned (v0_) ∧ Kd.R (Kd.int .i64) 3 w' w.heap.size (fun _ => True) v0_ r ∧ Below w.heap.size w w' := by
 have hu60 := Try.underlying60; have HR0_0 := zA.mk hr0_0; have HC0_0 := zA.mk hc0_0; clear hr0_0 hc0_0; have HR0_1 := zA.mk hr0_1; have HC0_1 := zA.mk hc0_1; clear hr0_1 hc0_1; have HB := zA.mk (Below.refl w.heap.size w); have H : (r0_Parts.l0 k ([] : List Int) 0 l0_0 l0_1) = some r := h
 clear h; have H' := zA.mk H
 clear H; go_enter Try.func32, Try.ntmps32
 go_wp2_with (first | ((with_reducible refine gate_dst (N := 1) rfl ?_); refine box_event ?hg (N := 1) ?hd (cs := #[.slice A0_0 l0_0.length c0_0, .slice A0_1 l0_1.length c0_1]) (t := 60) ?hr ?_; (case hd => rfl); (case hg => rfl); (case hr => first | (go_simp; done) | (go_simp; rfl)); intro gb571 hg w2 hbox hb; have BK571 := zA.mk (hbox); have GW571 := zA.mk ((by rw [hg]; exact (below_size (aL HB)) : w.heap.size ≤ gb571)); replace HB := zA.mk (below_step (aL HB) hb); have GE571 := GW571; clear hb hbox hg))
 go_loopg [3, 4] k (fun kq v3 v4 w' => ∃ (x3_1 : List Int) (x4_1 : Int), v4 = .int .i64 x4_1 ∧ zA (r0_Parts.l0 kq x3_1 x4_1 l0_0 l0_1 = some r) ∧ zA (kq ≤ k) ∧ zA (Kd.R (Kd.int .i64) 3 w' w.heap.size (fun _ => True) v3 x3_1) ∧ zA (w'.heap[gb571]? = some (.cells #[(.slice A0_0 l0_0.length c0_0), (.slice A0_1 l0_1.length c0_1)] 60 (0, 0))) ∧ zA (Below w.heap.size w w'))
 case atStart => exact ⟨(([] : List Int)), (0), aZ, H', ⟨Nat.le_refl _⟩, ⟨by first | exact Kd.R_nil _ _ _ _ _ | exact Kd.N_nil _ _ _ _ _ | exact Kd.V_nil _ _ _ _ _ | exact Kd.Q_nil _ _ _ _ _ | exact Kd.S_nil _ _ _ _ _⟩, ⟨aB BK571⟩, ⟨aL HB⟩⟩
 clear H'; obtain ⟨x3_1, x4_1, rfl, HA, HK1, HO_3, BK571, HB⟩ := hrel; cases gk with
 | zero => exact absurd HA.out (by simp [r0_Parts.l0])
 | succ k1 =>
  have H := HA.out; clear HA; simp only [r0_Parts.l0] at H; by_cases c3 : x4_1 < (l0_1.length : Int)
  rotate_left
  ·rw [if_neg c3] at H
   have c3b0 : decide (x4_1 < (l0_1.length : Int)) = false := decide_eq_false c3
   clear c3; obtain rfl := Option.some.inj H
   obtain ⟨hcz10_0, hcz10_1, hfz10_0, hfz10_1⟩ := aC2 BK571; go_wp2
   go_ret
   exact ⟨_, aX, aR HO_3, aL HB⟩
  rw [if_pos c3] at H; have c3b0 : decide (x4_1 < (l0_1.length : Int)) = true := decide_eq_true c3
  clear c3; by_cases c4 : 0 ≤ x4_1
  rotate_left
  ·rw [if_neg c4] at H
   exact absurd H (by simp)
  rw [if_pos c4] at H; have c4b0 : decide (0 ≤ x4_1) = true := decide_eq_true c4
  clear c4; by_cases c5 : (rd l0_1 x4_1) = 2
  rotate_left
  ·rw [if_neg c5] at H
   have c5b0 : ((rd l0_1 x4_1) == 2) = false := beq_eq_false_iff_ne.mpr c5
   have c5b1 : ((rd l0_1 x4_1) != 2) = true := bne_iff_ne.mpr c5
   have H' := zA.mk H
   clear H; obtain ⟨hcz9_0, hcz9_1, hfz9_0, hfz9_1⟩ := aC2 BK571; have p572 : 0 ≤ (x4_1 : Int) := aD
   have q572 : x4_1 < (l0_1.length : Int) := aD
   obtain ⟨ad572, e572, hx572_0⟩ := Kd.at_int HR0_1.out x4_1 p572 q572; cases e572
   replace hx572_0 := (HB.out.cell (World.block_lt_of_cell? w _ hx572_0)).trans hx572_0; replace p572 := eq_true p572; replace q572 := eq_true q572; go_wp2
   go_roundg k1
   case measure => have := HK1.out; omega
   case rel => exact ⟨(x3_1), (wrap64 (x4_1 + 1)), aZ, H', ⟨by have := HK1.out; omega⟩, ⟨aR HO_3⟩, ⟨aB BK571⟩, ⟨aL HB⟩⟩
  rw [if_pos c5] at H; have c5b0 : ((rd l0_1 x4_1) == 2) = true := beq_iff_eq.mpr c5
  have c5b1 : ((rd l0_1 x4_1) != 2) = false := bne_eq_false_iff_eq.mpr c5
  clear c5; by_cases c6 : x3_1.length < 17592186044416
  rotate_left
  ·rw [if_neg c6] at H
   exact absurd H (by simp)
  rw [if_pos c6] at H; have LMc6 := zA.mk c6; clear c6; obtain ⟨y573, hy573⟩ : ∃ y_ : List Int, y_ = (x3_1 ++ [x4_1]) := ⟨_, rfl⟩; replace H : (r0_Parts.l0 k1 y573 (wrap64 (x4_1 + 1)) l0_0 l0_1) = some r := by first | (rw [hy573]; with_reducible exact H) | (have H2_ := (Option.bind_some _ _).symm.trans H; rw [hy573]; with_reducible exact H2_) | (have H2_ := (Option.bind_some _ _).symm.trans H; with_reducible exact H2_) | with_reducible exact H | (rw [hy573]; exact H) | exact H
  have Ny573 := zA.mk hy573; clear hy573; have H' := zA.mk H
  clear H; obtain ⟨hcz7_0, hcz7_1, hfz7_0, hfz7_1⟩ := aC2 BK571; have p572 : 0 ≤ (x4_1 : Int) := aD
  have q572 : x4_1 < (l0_1.length : Int) := aD
  obtain ⟨ad572, e572, hx572_0⟩ := Kd.at_int HR0_1.out x4_1 p572 q572; cases e572
  replace hx572_0 := (HB.out.cell (World.block_lt_of_cell? w _ hx572_0)).trans hx572_0; replace p572 := eq_true p572; replace q572 := eq_true q572; go_wp2_with (first | ((with_reducible refine gate_builtin (b := .append) (xs := #[.tmp 18, .tmp 20]) rfl ?_); at_builtin; refine Kd.R_append (Kd.int .i64) (w0 := w) w.heap.size rfl (.tmp 18) (.tmp 20) 35 3 (.int .i64 0) 8 rfl Try.underlying35 info3 rfl (by decide) (by omega) u3 x3_1 x4_1 [.int .i64 x4_1] (fun _ => True) (fun _ => False) rfl rfl ?aP (fun _ hk => hk.elim) ?aF ?aO ?aB ?aS ?aL ?_; (case aP => exact rfl); (case aB => exact (aL HB)); (case aF => exact (fun _ _ => trivial)); (case aO => exact (aR HO_3)); (case aS => exact (below_size (aL HB))); (case aL => have := LMc6.out; omega); intro v574 w8 ho hb hg hat; rw [← Ny573.out] at ho; replace BK571 := zA.mk (blk_grown (g := gb571) (o := .cells #[.slice A0_0 l0_0.length c0_0, .slice (some ad572) l0_1.length c0_1] 60 (0, 0)) (aB BK571) hg (Kd.R_ne HO_3.out BK571.out (by decide))); replace HB := zA.mk (hb); have HO575 := zA.mk (ho); clear HO_3; clear ho hb hg hat))
  go_roundg k1
  case measure => have := HK1.out; omega
  case rel => exact ⟨(y573), (wrap64 (x4_1 + 1)), aZ, H', ⟨by have := HK1.out; omega⟩, ⟨aR HO575⟩, ⟨aB BK571⟩, ⟨aL HB⟩⟩
def stanzalaw11_ItemsParts.l0 : Nat → Int → List (S48) → Int → Int → List (S48) → List Int → Option (Bool)
 | 0, _, _, _, _, _, _ => none
 | k + 1, x4, x15, x16, x17, x584000, x584001 => if x17 < x16 then (if 0 ≤ x17 then (if x17 < (x15.length : Int) then (stanzalaw11_ItemsParts.l0 k (wrap64 (x4 + ((rd_T48 x15 x17).f1))) x15 x16 (wrap64 (x17 + 1)) x584000 x584001) else (none)) else (none)) else ((items_Parts.f k x584000 x584001).bind fun t586 => ((r0_Parts.f k x584000 x584001).bind fun t589 => ((stanzaref01_SameInts.f k t586 t589).bind fun t592 => (if t592 = true then ((items_Bytes.f k x584000 x584001).bind fun t593 => (some (t593 == x4))) else (some false)))))
def stanzalaw11_ItemsParts.f (k : Nat) (l0 : List (S90)) : Option (Bool) := (stanzalaw11_Awake.f k).bind fun t576 => (if t576 = true then (if (l0.length : Int) > 1000 then (some true) else ((h3_Para.f k l0).bind fun bt577 => (stanzalaw11_ItemsParts.l0 k 0 bt577.1 (bt577.1.length : Int) 0 bt577.1 bt577.2))) else (some false))
theorem stanzalaw11_ItemsParts.mono_l : ∀ k, (∀ y0 y1 y2 y3 y4 y5, LeO (stanzalaw11_ItemsParts.l0 k y0 y1 y2 y3 y4 y5) (stanzalaw11_ItemsParts.l0 (k + 1) y0 y1 y2 y3 y4 y5))
 | 0 => fun _ _ _ _ _ _ r h => by simp [stanzalaw11_ItemsParts.l0] at h
 | k + 1 => by
  have ih0 := stanzalaw11_ItemsParts.mono_l k
  ·intro y0 y1 y2 y3 y4 y5
   unfold stanzalaw11_ItemsParts.l0
   repeat' (with_reducible first | exact ih0 _ _ _ _ _ _ | exact items_Bytes.mono _ _ _ | exact items_Parts.mono _ _ _ | exact h3_Para.mono _ _ | exact stanzalaw11_Awake.mono _ | exact stanzaref01_SameInts.mono _ _ _ | exact r0_Parts.mono _ _ _ | exact LeO.refl _ | exact LeO.none _ | refine LeO.ite ?_ ?_ | refine LeO.bind ?_ (fun _ => ?_))
theorem stanzalaw11_ItemsParts.mono : ∀ a0 k, LeO (stanzalaw11_ItemsParts.f k a0) (stanzalaw11_ItemsParts.f (k + 1) a0) := by
 intro a0 k
 have ih0 := stanzalaw11_ItemsParts.mono_l k; unfold stanzalaw11_ItemsParts.f
 repeat' (with_reducible first | exact ih0 _ _ _ _ _ _ | exact items_Bytes.mono _ _ _ | exact items_Parts.mono _ _ _ | exact h3_Para.mono _ _ | exact stanzalaw11_Awake.mono _ | exact stanzaref01_SameInts.mono _ _ _ | exact r0_Parts.mono _ _ _ | exact LeO.refl _ | exact LeO.none _ | refine LeO.ite ?_ ?_ | refine LeO.bind ?_ (fun _ => ?_))
def stanzalaw11_ItemsParts.T12 : Bool × List (List Nat × List Nat) := (true, [([], []), ([0], [0]), ([], []), ([2, 1], [2]), ([1, 3, 3], [1, 3]), ([4, 4], [4]), ([5], [5]), ([6, 5, 5], [5, 6]), ([5], [5]), ([7, 8, 5], [5, 7, 8]), ([5, 9], [5, 9]), ([10, 7, 0, 1, 2, 3, 4, 5, 6, 7, 8, 9, 10], [10])])
def stanzalaw11_ItemsParts.B12 : List Nat := [0, 1, 0, 7, 15, 31, 63, 127, 63, 511, 1023, 2047]
theorem stanzalaw11_ItemsParts.tab12 : rtab .any (opsOf Try.f11 12) = stanzalaw11_ItemsParts.T12 := by kernel_rfl
theorem stanzalaw11_ItemsParts.bits12 : waitsOk stanzalaw11_ItemsParts.T12.2 stanzalaw11_ItemsParts.B12 = true := by kernel_rfl
set_option maxHeartbeats 8000000 in
set_option maxRecDepth 100000 in
theorem stanzalaw11_ItemsParts.calls (k : Nat) (A0 : Option Addr) (c0 : Nat) (l0 : List (S90)) (r : Bool) (w : World) (hr0 : Kd.C k90 w A0 l0.length l0) (hc0 : l0.length ≤ c0) (h : stanzalaw11_ItemsParts.f k l0 = some r) (hrt_ : zA (r = true)) :
  Calls Try.prog 11 #[.slice A0 l0.length c0] w fun e w' => e = .returned (.bool r) ∧ Below w.heap.size w w' := by
 have hu60 := Try.underlying60; have hu48 := Try.underlying48; have HR0 := zA.mk hr0; have HC0 := zA.mk hc0; clear hr0 hc0; have HB := zA.mk (Below.refl w.heap.size w); have H : ((stanzalaw11_Awake.f k).bind fun t576 => (if t576 = true then (if (l0.length : Int) > 1000 then (some true) else ((h3_Para.f k l0).bind fun bt577 => (stanzalaw11_ItemsParts.l0 k 0 bt577.1 (bt577.1.length : Int) 0 bt577.1 bt577.2))) else (some false))) = some r := h
 clear h; replace H := Option.bind_eq_some_iff.mp H; obtain ⟨t576, A20, H⟩ := H; replace H : (if t576 = true then (if (l0.length : Int) > 1000 then (some true) else ((h3_Para.f k l0).bind fun bt577 => (stanzalaw11_ItemsParts.l0 k 0 bt577.1 (bt577.1.length : Int) 0 bt577.1 bt577.2))) else (some false)) = some r := H
 have A2 := zA.mk A20; clear A20; by_cases c3 : t576 = true
 rotate_left
 ·replace c3 := Bool.eq_false_iff.mpr c3
  subst c3; have H1 : (some false) = some r := by rw [if_neg (show ¬ (false = true) by decide)] at H; exact H
  clear H; have H := H1; clear H1; exact absurd ((Option.some.inj H).trans hrt_.out) (by decide)
 subst c3; have H1 : (if (l0.length : Int) > 1000 then (some true) else ((h3_Para.f k l0).bind fun bt577 => (stanzalaw11_ItemsParts.l0 k 0 bt577.1 (bt577.1.length : Int) 0 bt577.1 bt577.2))) = some r := by rw [if_pos rfl] at H; exact H
 clear H; have H := H1; clear H1; by_cases c4 : (l0.length : Int) > 1000
 ·rw [if_pos c4] at H
  have c4b0 : decide (1000 < (l0.length : Int)) = true := decide_eq_true c4
  have c4b1 : decide (1000 < l0.length) = true := decide_eq_true (by omega)
  clear c4; obtain rfl := Option.some.inj H
  go_enter Try.func11, Try.ntmps11
  go_wp2_with (first | ((with_reducible refine gate_callee (f := 23) rfl ?_); refine goesL_ (some 7) rfl rfl Try.func23 (by kernel_rfl) rfl #[] rfl aT ?_; (with_reducible refine (stanzalaw11_Awake.calls k  true _ A2.out (by first | exact ⟨rfl⟩ | exact hrt_)).mono ?_); rintro e w5 ⟨rfl, hb⟩; refine ⟨_, rfl, ?_⟩; have n0_ := zA.mk (below_step (aL HB) hb); clear HB; have HB := n0_; clear n0_; (try clear hb); (try clear hb2); (try clear hk); (try clear hi)))
  go_ret
  exact ⟨aX, aL HB⟩
 rw [if_neg c4] at H; have c4b0 : decide (1000 < (l0.length : Int)) = false := decide_eq_false c4
 have c4b1 : decide (1000 < l0.length) = false := decide_eq_false (by omega)
 clear c4; replace H := Option.bind_eq_some_iff.mp H; obtain ⟨⟨t577, t580⟩, A60, H⟩ := H; replace H : (stanzalaw11_ItemsParts.l0 k 0 t577 (t577.length : Int) 0 t577 t580) = some r := H; have A6 := zA.mk A60; clear A60; have H' := zA.mk H
 clear H; go_enter Try.func11, Try.ntmps11
 go_wp2_with (first | ((with_reducible refine gate_callee (f := 23) rfl ?_); refine goesL_ (some 7) rfl rfl Try.func23 (by kernel_rfl) rfl #[] rfl aT ?_; (with_reducible refine (stanzalaw11_Awake.calls k  true _ A2.out (by first | exact ⟨rfl⟩ | exact hrt_)).mono ?_); rintro e w7 ⟨rfl, hb⟩; refine ⟨_, rfl, ?_⟩; have n0_ := zA.mk (below_step (aL HB) hb); clear HB; have HB := n0_; clear n0_; (try clear hb); (try clear hb2); (try clear hk); (try clear hi)) | ((with_reducible refine gate_callee (f := 27) rfl ?_); refine goesL_ (some 13) rfl rfl Try.func27 (by kernel_rfl) rfl #[.slice A0 l0.length c0] rfl aT ?_; (with_reducible refine (h3_Para.calls k _ _ l0 t577 t580 _ ?side1 ?side2 A6.out).mono ?_); (case side1 => exact aA HR0 HB); (case side2 => exact HC0.out); rintro e w8 ⟨v578, v581, rfl, ho0, ho1, hb⟩; refine ⟨_, rfl, ?_⟩; have n0_ := zA.mk (Kd.zP ho0 (below_size (aL HB))); have n1_ := zA.mk (Kd.zP ho1 (below_size (aL HB))); have n2_ := zA.mk (below_step (aL HB) hb); clear HB; have HO579 := n0_; have HO582 := n1_; have HB := n2_; clear n0_ n1_ n2_; (try clear hb); (try clear hb2); (try clear hk); (try clear hi); (try clear ho0); (try clear ho1)) | ((with_reducible refine gate_dst (N := 3) rfl ?_); refine box_event ?hg (N := 3) ?hd (cs := #[.slice none 0 0, .slice none 0 0]) (t := 60) ?hr ?_; (case hd => rfl); (case hg => rfl); (case hr => first | (go_simp; done) | (go_simp; rfl)); intro gb583 hg w9 hbox hb; have n0_ := zA.mk (Kd.zM (aR HO579) hb); have n1_ := zA.mk (Kd.zM (aR HO582) hb); have n2_ := zA.mk (below_step (aL HB) hb); have n3_ := zA.mk (hbox); have n4_ := zA.mk ((by rw [hg]; exact (below_size (aL HB)) : w.heap.size ≤ gb583)); have n5_ := zA.mk ((by rw [hg]; exact (below_size (aL HB)) : w.heap.size ≤ gb583)); clear HO579; clear HO582; clear HB; have HO579 := n0_; have HO582 := n1_; have HB := n2_; have BK583 := n3_; have GW583 := n4_; have GE583 := n5_; clear n0_ n1_ n2_ n3_ n4_ n5_; clear hb hbox hg; obtain ⟨Ao10, co10, eo10⟩ := Kd.zO HO579.out; subst eo10; obtain ⟨hcz11_0, hcz11_1, hfz11_0, hfz11_1⟩ := aC2 BK583; obtain ⟨Ao12, co12, eo12⟩ := Kd.zO HO582.out; subst eo12) | ((with_reducible refine gate_store (t := 60) (p := 3) rfl ?_); refine store_event (t := 60) (p := 3) (v := ?vo_w13) (w1 := ((w9.setCell ⟨gb583, 0, none⟩ (.slice Ao10 t577.length co10)).setCell ⟨gb583, 1, none⟩ (.slice Ao12 t580.length co12))) ?hg ?ho ?hn ?hr ?_; (case ho => rfl); (case hg => rfl); (case hn => rfl); (case hr => first | (go_simp; done) | (go_simp; rfl)); intro w13 hw; have n0_ : zA (Kd.R k48 48 w13 w.heap.size (fun _ => True) (.slice Ao10 t577.length co10) t577) := ⟨(by rw [hw]; exact (by (with_reducible repeat (first | apply Kd.zE | apply Kd.zF | apply Kd.zG)); exact Kd.zQ (Kd.zN (p := ⟨gb583, 1, none⟩) (Kd.zN (p := ⟨gb583, 0, none⟩) (Kd.zR HO579.out BK583.out (by decide)) (fun _ hk => hk.2) (.slice Ao10 t577.length co10)) (fun _ hk => hk.2) (.slice Ao12 t580.length co12)) (fun _ hk => trivial)))⟩; have n1_ : zA (Kd.R (Kd.int .u8) 53 w13 w.heap.size (fun _ => True) (.slice Ao12 t580.length co12) t580) := ⟨(by rw [hw]; exact (by (with_reducible repeat (first | apply Kd.zE | apply Kd.zF | apply Kd.zG)); exact Kd.zQ (Kd.zN (p := ⟨gb583, 1, none⟩) (Kd.zN (p := ⟨gb583, 0, none⟩) (Kd.zR HO582.out BK583.out (by decide)) (fun _ hk => hk.2) (.slice Ao10 t577.length co10)) (fun _ hk => hk.2) (.slice Ao12 t580.length co12)) (fun _ hk => trivial)))⟩; have n2_ : zA (w13.heap[gb583]? = some (.cells #[.slice Ao10 t577.length co10, .slice Ao12 t580.length co12] 60 (0, 0))) := ⟨(by rw [hw]; exact (by (with_reducible repeat (first | refine zC ?_ _ | refine zD ?_ | refine zB ?_ _)); refine blk_put (cs := #[.slice Ao10 t577.length co10, .slice none 0 0]) ?_ 1 _ rfl; (with_reducible repeat (first | refine zC ?_ _ | refine zD ?_ | refine zB ?_ _)); refine blk_put (cs := #[.slice none 0 0, .slice none 0 0]) ?_ 0 _ rfl; (with_reducible repeat (first | refine zC ?_ _ | refine zD ?_ | refine zB ?_ _)); exact BK583.out))⟩; have n3_ : zA (Below w.heap.size w w13) := ⟨(by rw [hw]; exact (aL HB))⟩; clear hw; clear HO579; clear HO582; clear BK583; clear HB; have HO579 := n0_; have HO582 := n1_; have BK583 := n2_; have HB := n3_; clear n0_ n1_ n2_ n3_; obtain ⟨hcz14_0, hcz14_1, hfz14_0, hfz14_1⟩ := aC2 BK583))
 go_loopg [4, 17] k (fun kq v4 v17 w' => ∃ (x4_1 : Int) (x17_1 : Int), v4 = .int .i64 x4_1 ∧ v17 = .int .i64 x17_1 ∧ zA (stanzalaw11_ItemsParts.l0 kq x4_1 t577 (t577.length : Int) x17_1 t577 t580 = some r) ∧ zA (kq ≤ k) ∧ zA (Kd.R k48 48 w' w.heap.size (fun _ => True) (.slice Ao10 t577.length co10) t577) ∧ zA (Kd.R k48 48 w' w.heap.size (fun _ => True) (.slice Ao10 t577.length co10) t577) ∧ zA (Kd.R (Kd.int .u8) 53 w' w.heap.size (fun _ => True) (.slice Ao12 t580.length co12) t580) ∧ zA (w'.heap[gb583]? = some (.cells #[(.slice Ao10 t577.length co10), (.slice Ao12 t580.length co12)] 60 (0, 0))) ∧ zA (Below w.heap.size w w'))
 case atStart => exact ⟨(0), (0), aZ, aZ, H', ⟨Nat.le_refl _⟩, ⟨aR HO579⟩, ⟨aR HO579⟩, ⟨aR HO582⟩, ⟨aB BK583⟩, ⟨aL HB⟩⟩
 clear H'; try clear c1
 try clear c2
 try clear p2
 try clear c3
 try clear c4
 try clear c4b0
 try clear c4b1
 try clear c11
 try clear hcz11_0
 try clear hcz11_1
 try clear hcz14_0
 try clear hcz14_1
 try clear hfz11_0
 try clear hfz11_1
 try clear hfz14_0
 try clear hfz14_1
 obtain ⟨x4_1, x17_1, rfl, rfl, HA, HK1, HO_15, HO_584000, HO_584001, BK583, HB⟩ := hrel; cases gk with
 | zero => exact absurd HA.out (by simp [stanzalaw11_ItemsParts.l0])
 | succ k1 =>
  have H := HA.out; clear HA; simp only [stanzalaw11_ItemsParts.l0] at H; by_cases c15 : x17_1 < (t577.length : Int)
  ·rw [if_pos c15] at H
   have c15b0 : decide (x17_1 < (t577.length : Int)) = true := decide_eq_true c15
   clear c15; by_cases c16 : 0 ≤ x17_1
   rotate_left
   ·rw [if_neg c16] at H
    exact absurd H (by simp)
   rw [if_pos c16] at H; have c16b0 : decide (0 ≤ x17_1) = true := decide_eq_true c16
   clear c16; by_cases c17 : x17_1 < (t577.length : Int)
   rotate_left
   ·rw [if_neg c17] at H
    exact absurd H (by simp)
   rw [if_pos c17] at H; have c17b0 : decide (x17_1 < (t577.length : Int)) = true := decide_eq_true c17
   clear c17; have H' := zA.mk H
   clear H; have p584 : 0 ≤ (x17_1 : Int) := aD
   have q584 : x17_1 < (t577.length : Int) := aD
   obtain ⟨ad584, e584, hx584_0, hx584_1, hx584_2, hx584_3⟩ := at_T48 (Kd.zL HO_15.out).2.2 x17_1 p584 q584; cases e584
   replace p584 := eq_true p584; replace q584 := eq_true q584; go_wp2_with (first | ((with_reducible refine gate_dst (N := 6) rfl ?_); refine box_event ?hg (N := 6) ?hd (cs := #[.int .i64 0, .int .i64 0, .int .i64 0, .int .u8 0]) (t := 48) ?hr ?_; (case hd => rfl); (case hg => rfl); (case hr => first | (go_simp; done) | (go_simp; rfl)); intro gb585 hg w18 hbox hb; have n0_ := zA.mk (Kd.zM (Kd.R_elderB (aR HO_15) gb585 (Nat.le_of_eq hg.symm)) hb); have n1_ := zA.mk (Kd.zM (Kd.R_elderB (aR HO_584000) gb585 (Nat.le_of_eq hg.symm)) hb); have n2_ := zA.mk (Kd.zM (aR HO_584001) hb); have n3_ := zA.mk (blk_below (g := gb583) (o := .cells #[.slice (some ad584) t577.length co10, .slice Ao12 t580.length co12] 60 (0, 0)) (aB BK583) hb); have n4_ := zA.mk (below_step (aL HB) hb); have n5_ := zA.mk (hbox); have n6_ := zA.mk ((by rw [hg]; exact (below_size (aL HB)) : w.heap.size ≤ gb585)); have n7_ := zA.mk ((by rw [hg]; exact (below_size (aL HB)) : w.heap.size ≤ gb585)); have n8_ := zA.mk ((by rw [hg]; exact Nat.ne_of_lt (blk_lt (g := gb583) (o := .cells #[.slice (some ad584) t577.length co10, .slice Ao12 t580.length co12] 60 (0, 0)) (aB BK583)) : gb583 ≠ gb585)); have n9_ := zA.mk ((by rw [hg]; exact Nat.ne_of_gt (blk_lt (g := gb583) (o := .cells #[.slice (some ad584) t577.length co10, .slice Ao12 t580.length co12] 60 (0, 0)) (aB BK583)) : gb585 ≠ gb583)); clear HO_15; clear HO_584000; clear HO_584001; clear BK583; clear HB; have HO_15 := n0_; have HO_584000 := n1_; have HO_584001 := n2_; have BK583 := n3_; have HB := n4_; have BK585 := n5_; have GW585 := n6_; have GE585 := n7_; have NB583_585 := n8_; have NB585_583 := n9_; clear n0_ n1_ n2_ n3_ n4_ n5_ n6_ n7_ n8_ n9_; clear hb hbox hg; have hnb19 := NB585_583.out; have hnc19 := NB583_585.out; obtain ⟨hcz20_0, hcz20_1, hcz20_2, hcz20_3, hfz20_0, hfz20_1, hfz20_2, hfz20_3⟩ := aC4 BK585) | ((with_reducible refine gate_store (t := 48) (p := 6) rfl ?_); refine store_event (t := 48) (p := 6) (v := ?vo_w21) (w1 := ((((w18.setCell ⟨gb585, 0, none⟩ (.int .i64 ((rd_T48 t577 x17_1).f0))).setCell ⟨gb585, 1, none⟩ (.int .i64 ((rd_T48 t577 x17_1).f1))).setCell ⟨gb585, 2, none⟩ (.int .i64 ((rd_T48 t577 x17_1).f2))).setCell ⟨gb585, 3, none⟩ (.int .u8 ((rd_T48 t577 x17_1).f3)))) ?hg ?ho ?hn ?hr ?_; (case ho => rfl); (case hg => rfl); (case hn => rfl); (case hr => first | (go_simp; done) | (go_simp; rfl)); intro w21 hw; have n0_ : zA (Kd.R k48 48 w21 w.heap.size (fun k_ => k_ ≠ gb585) (.slice (some ad584) t577.length co10) t577) := ⟨(by rw [hw]; exact (by (with_reducible repeat (first | apply Kd.zE | apply Kd.zF | apply Kd.zG)); exact Kd.zQ (Kd.zN (p := ⟨gb585, 3, none⟩) (Kd.zN (p := ⟨gb585, 2, none⟩) (Kd.zN (p := ⟨gb585, 1, none⟩) (Kd.zN (p := ⟨gb585, 0, none⟩) (Kd.zQ HO_15.out (fun k_ hk => (⟨hk, hk.2⟩ : _ ∧ k_ ≠ gb585))) (fun _ hk => hk.2) (.int .i64 ((rd_T48 t577 x17_1).f0))) (fun _ hk => hk.2) (.int .i64 ((rd_T48 t577 x17_1).f1))) (fun _ hk => hk.2) (.int .i64 ((rd_T48 t577 x17_1).f2))) (fun _ hk => hk.2) (.int .u8 ((rd_T48 t577 x17_1).f3))) (fun _ hk => hk.1.2)))⟩; have n1_ : zA (Kd.R k48 48 w21 w.heap.size (fun k_ => k_ ≠ gb585) (.slice (some ad584) t577.length co10) t577) := ⟨(by rw [hw]; exact (by (with_reducible repeat (first | apply Kd.zE | apply Kd.zF | apply Kd.zG)); exact Kd.zQ (Kd.zN (p := ⟨gb585, 3, none⟩) (Kd.zN (p := ⟨gb585, 2, none⟩) (Kd.zN (p := ⟨gb585, 1, none⟩) (Kd.zN (p := ⟨gb585, 0, none⟩) (Kd.zQ HO_584000.out (fun k_ hk => (⟨hk, hk.2⟩ : _ ∧ k_ ≠ gb585))) (fun _ hk => hk.2) (.int .i64 ((rd_T48 t577 x17_1).f0))) (fun _ hk => hk.2) (.int .i64 ((rd_T48 t577 x17_1).f1))) (fun _ hk => hk.2) (.int .i64 ((rd_T48 t577 x17_1).f2))) (fun _ hk => hk.2) (.int .u8 ((rd_T48 t577 x17_1).f3))) (fun _ hk => hk.1.2)))⟩; have n2_ : zA (Kd.R (Kd.int .u8) 53 w21 w.heap.size (fun _ => True) (.slice Ao12 t580.length co12) t580) := ⟨(by rw [hw]; exact (by (with_reducible repeat (first | apply Kd.zE | apply Kd.zF | apply Kd.zG)); exact Kd.zQ (Kd.zN (p := ⟨gb585, 3, none⟩) (Kd.zN (p := ⟨gb585, 2, none⟩) (Kd.zN (p := ⟨gb585, 1, none⟩) (Kd.zN (p := ⟨gb585, 0, none⟩) (Kd.zR HO_584001.out BK585.out (by decide)) (fun _ hk => hk.2) (.int .i64 ((rd_T48 t577 x17_1).f0))) (fun _ hk => hk.2) (.int .i64 ((rd_T48 t577 x17_1).f1))) (fun _ hk => hk.2) (.int .i64 ((rd_T48 t577 x17_1).f2))) (fun _ hk => hk.2) (.int .u8 ((rd_T48 t577 x17_1).f3))) (fun _ hk => trivial)))⟩; have n3_ : zA (w21.heap[gb583]? = some (.cells #[.slice (some ad584) t577.length co10, .slice Ao12 t580.length co12] 60 (0, 0))) := ⟨(by rw [hw]; exact (aB BK583))⟩; have n4_ : zA (w21.heap[gb585]? = some (.cells #[.int .i64 ((rd_T48 t577 x17_1).f0), .int .i64 ((rd_T48 t577 x17_1).f1), .int .i64 ((rd_T48 t577 x17_1).f2), .int .u8 ((rd_T48 t577 x17_1).f3)] 48 (0, 0))) := ⟨(by rw [hw]; exact (by (with_reducible repeat (first | refine zC ?_ _ | refine zD ?_ | refine zB ?_ _)); refine blk_put (cs := #[.int .i64 ((rd_T48 t577 x17_1).f0), .int .i64 ((rd_T48 t577 x17_1).f1), .int .i64 ((rd_T48 t577 x17_1).f2), .int .u8 0]) ?_ 3 _ rfl; (with_reducible repeat (first | refine zC ?_ _ | refine zD ?_ | refine zB ?_ _)); refine blk_put (cs := #[.int .i64 ((rd_T48 t577 x17_1).f0), .int .i64 ((rd_T48 t577 x17_1).f1), .int .i64 0, .int .u8 0]) ?_ 2 _ rfl; (with_reducible repeat (first | refine zC ?_ _ | refine zD ?_ | refine zB ?_ _)); refine blk_put (cs := #[.int .i64 ((rd_T48 t577 x17_1).f0), .int .i64 0, .int .i64 0, .int .u8 0]) ?_ 1 _ rfl; (with_reducible repeat (first | refine zC ?_ _ | refine zD ?_ | refine zB ?_ _)); refine blk_put (cs := #[.int .i64 0, .int .i64 0, .int .i64 0, .int .u8 0]) ?_ 0 _ rfl; (with_reducible repeat (first | refine zC ?_ _ | refine zD ?_ | refine zB ?_ _)); exact BK585.out))⟩; have n5_ : zA (Below w.heap.size w w21) := ⟨(by rw [hw]; exact (aL HB))⟩; clear hw; clear HO_15; clear HO_584000; clear HO_584001; clear BK583; clear BK585; clear HB; have HO_15 := n0_; have HO_584000 := n1_; have HO_584001 := n2_; have BK583 := n3_; have BK585 := n4_; have HB := n5_; clear n0_ n1_ n2_ n3_ n4_ n5_; obtain ⟨hcz22_0, hcz22_1, hcz22_2, hcz22_3, hfz22_0, hfz22_1, hfz22_2, hfz22_3⟩ := aC4 BK585))
   go_roundg k1
   case measure => have := HK1.out; omega
   case rel => exact ⟨(wrap64 (x4_1 + ((rd_T48 t577 x17_1).f1))), (wrap64 (x17_1 + 1)), aZ, aZ, H', ⟨by have := HK1.out; omega⟩, ⟨by (with_reducible repeat (first | apply Kd.zE | apply Kd.zF | apply Kd.zG)); exact Kd.zQ HO_15.out (fun _ hk => trivial)⟩, ⟨by (with_reducible repeat (first | apply Kd.zE | apply Kd.zF | apply Kd.zG)); exact Kd.zQ HO_584000.out (fun _ hk => trivial)⟩, ⟨aR HO_584001⟩, ⟨aB BK583⟩, ⟨aL HB⟩⟩
  rw [if_neg c15] at H; have c15b0 : decide (x17_1 < (t577.length : Int)) = false := decide_eq_false c15
  clear c15; replace H := Option.bind_eq_some_iff.mp H; obtain ⟨t586, A230, H⟩ := H; replace H : ((r0_Parts.f k1 t577 t580).bind fun t589 => ((stanzaref01_SameInts.f k1 t586 t589).bind fun t592 => (if t592 = true then ((items_Bytes.f k1 t577 t580).bind fun t593 => (some (t593 == x4_1))) else (some false)))) = some r := H
  have A23 := zA.mk A230; clear A230; replace H := Option.bind_eq_some_iff.mp H; obtain ⟨t589, A240, H⟩ := H; replace H : ((stanzaref01_SameInts.f k1 t586 t589).bind fun t592 => (if t592 = true then ((items_Bytes.f k1 t577 t580).bind fun t593 => (some (t593 == x4_1))) else (some false))) = some r := H
  have A24 := zA.mk A240; clear A240; replace H := Option.bind_eq_some_iff.mp H; obtain ⟨t592, A250, H⟩ := H; replace H : (if t592 = true then ((items_Bytes.f k1 t577 t580).bind fun t593 => (some (t593 == x4_1))) else (some false)) = some r := H
  have A25 := zA.mk A250; clear A250; by_cases c26 : t592 = true
  rotate_left
  ·replace c26 := Bool.eq_false_iff.mpr c26
   subst c26; have H1 : (some false) = some r := by rw [if_neg (show ¬ (false = true) by decide)] at H; exact H
   clear H; have H := H1; clear H1; exact absurd ((Option.some.inj H).trans hrt_.out) (by decide)
  subst c26; have H1 : ((items_Bytes.f k1 t577 t580).bind fun t593 => (some (t593 == x4_1))) = some r := by rw [if_pos rfl] at H; exact H
  clear H; have H := H1; clear H1; replace H := Option.bind_eq_some_iff.mp H; obtain ⟨t593, A270, H⟩ := H; replace H : (some (t593 == x4_1)) = some r := H; have A27 := zA.mk A270; clear A270; obtain rfl := Option.some.inj H
  try go_wp2
  have n0_ := zA.mk (Kd.zG HO_15.out); have n1_ := zA.mk (Kd.zG HO_584000.out); have n2_ := zA.mk (Kd.zG HO_584001.out); have n3_ := zA.mk (zD BK583.out); have n4_ := zA.mk (below_drew1 HB.out); clear HO_15; clear HO_584000; clear HO_584001; clear BK583; clear HB; have HO_15 := n0_; have HO_584000 := n1_; have HO_584001 := n2_; have BK583 := n3_; have HB := n4_; clear n0_ n1_ n2_ n3_ n4_; refine start_ (n := 12) (S := fun w' => w'.cell? ⟨gb583, 0, none⟩ = some (.slice Ao10 t577.length co10) ∧ w'.cell? ⟨gb583, 1, none⟩ = some (.slice Ao12 t580.length co12)) (ds := []) #[false, false, false, false, false, false, false, false, false, false, false, false] (by kernel_rfl) rfl rfl ⟨(blk_cell BK583.out 0).trans rfl, (blk_cell BK583.out 1).trans rfl⟩ (fun hHeld => ?_); refine with_tabW stanzalaw11_ItemsParts.tab12 stanzalaw11_ItemsParts.bits12 (fun HT_ HW_ => ?_)
  generalize wr.drew = w28 at HO_15 HO_584000 HO_584001 BK583 HB hHeld ⊢
  refine take_ (i := 0) (N := some 26) (v := ?_) (a' := ?_) (tf_ 1 12) rfl rfl (take_ofW HT_.out HW_.out (by kernel_rfl)) (fun _ _ _ h => h) (Or.inl ⟨by rfl, ?_⟩) hHeld ?_ ?_
  rotate_left
  ·rintro w' ⟨s0, s1⟩
   go_simp
   with_reducible rfl
  rotate_left
  ·simp only [Act.put, sA_, sB_, sC_, i64_w, i32_w]
   rfl
  refine take_ (i := 2) (N := some 28) (v := ?_) (a' := ?_) #[true, false, true, false, false, false, false, false, false, false, false, false] rfl rfl (take_ofW HT_.out HW_.out (by kernel_rfl)) (fun _ _ _ h => h) (Or.inl ⟨by rfl, ?_⟩) hHeld ?_ ?_
  rotate_left
  ·rintro w' ⟨s0, s1⟩
   go_simp
   with_reducible rfl
  rotate_left
  ·simp only [Act.put, sA_, sB_, sC_, i64_w, i32_w]
   rfl
  refine one_ (i := 1) (N := some 27) #[true, true, true, false, false, false, false, false, false, false, false, false] rfl rfl (one_of HT_.out (by kernel_rfl)) (by decide) (fun K hK => ?_)
  refine goes_ Try.func30 (by kernel_rfl) rfl #[.agg #[.slice Ao10 t577.length co10, .slice Ao12 t580.length co12]] (by rfl) rfl rfl aT ?_
  with_reducible refine (items_Parts.calls k1 _ _ t577 _ _ t580 t586 _ ?side1 ?side2 ?side3 ?side4 A23.out).mono ?_
  (case side1 => exact aF HO_584000)
  (case side2 => exact (Kd.zL HO_584000.out).2.1)
  (case side3 => exact aF HO_584001)
  (case side4 => exact (Kd.zL HO_584001.out).2.1)
  rintro e w29 ⟨v587, rfl, ho0, hb⟩
  refine ⟨_, rfl, ?_⟩
  have n0_ := zA.mk (Kd.zM (aR HO_15) hb); have n1_ := zA.mk (Kd.zM (aR HO_584000) hb); have n2_ := zA.mk (Kd.zM (aR HO_584001) hb); have n3_ := zA.mk (Kd.zP ho0 (below_size (aL HB))); have n4_ := zA.mk (blk_below (g := gb583) (o := .cells #[.slice Ao10 t577.length co10, .slice Ao12 t580.length co12] 60 (0, 0)) (aB BK583) hb); have n5_ := zA.mk (below_step (aL HB) hb); clear HO_15; clear HO_584000; clear HO_584001; clear BK583; clear HB; have HO_15 := n0_; have HO_584000 := n1_; have HO_584001 := n2_; have HO588 := n3_; have BK583 := n4_; have HB := n5_; clear n0_ n1_ n2_ n3_ n4_ n5_; (try clear hb)
  (try clear hb2)
  (try clear hk)
  (try clear hi)
  (try clear ho0)
  refine hK.out _ _ ⟨(blk_cell BK583.out 0).trans rfl, (blk_cell BK583.out 1).trans rfl⟩ (fun hHeld => ?_)
  clear hK K; refine norm_ (a' := ?_) ?_ ?_
  rotate_left
  ·show Act.put _ (some 27) _ = _
   simp only [Act.put, sA_, sB_, sC_, i64_w, i32_w]; rfl
  refine one_ (i := 3) (N := some 29) #[true, true, true, true, false, false, false, false, false, false, false, false] rfl rfl (one_of HT_.out (by kernel_rfl)) (by decide) (fun K hK => ?_)
  refine goes_ Try.func32 (by kernel_rfl) rfl #[.agg #[.slice Ao10 t577.length co10, .slice Ao12 t580.length co12]] (by rfl) rfl rfl aT ?_
  with_reducible refine (r0_Parts.calls k1 _ _ t577 _ _ t580 t589 _ ?side1 ?side2 ?side3 ?side4 A24.out).mono ?_
  (case side1 => exact aF HO_584000)
  (case side2 => exact (Kd.zL HO_584000.out).2.1)
  (case side3 => exact aF HO_584001)
  (case side4 => exact (Kd.zL HO_584001.out).2.1)
  rintro e w30 ⟨v590, rfl, ho0, hb⟩
  refine ⟨_, rfl, ?_⟩
  have n0_ := zA.mk (Kd.zM (aR HO_15) hb); have n1_ := zA.mk (Kd.zM (aR HO_584000) hb); have n2_ := zA.mk (Kd.zM (aR HO_584001) hb); have n3_ := zA.mk (Kd.R_elder' (aR HO588) (Kd.R_base ho0) hb); have n4_ := zA.mk (Kd.zP (Kd.R_new' ho0 (Kd.R_lt (aR HO588))) (below_size (aL HB))); have n5_ := zA.mk (blk_below (g := gb583) (o := .cells #[.slice Ao10 t577.length co10, .slice Ao12 t580.length co12] 60 (0, 0)) (aB BK583) hb); have n6_ := zA.mk (below_step (aL HB) hb); clear HO_15; clear HO_584000; clear HO_584001; clear HO588; clear BK583; clear HB; have HO_15 := n0_; have HO_584000 := n1_; have HO_584001 := n2_; have HO588 := n3_; have HO591 := n4_; have BK583 := n5_; have HB := n6_; clear n0_ n1_ n2_ n3_ n4_ n5_ n6_; (try clear hb)
  (try clear hb2)
  (try clear hk)
  (try clear hi)
  (try clear ho0)
  obtain ⟨Ao31, co31, eo31⟩ := Kd.zO HO588.out; (first | subst eo31 | (injection eo31 with f1_ f2_ f3_; have f4_ := f1_.symm; have f5_ := f3_.symm; clear f1_ f2_ f3_; subst f4_; subst f5_))
  obtain ⟨Ao32, co32, eo32⟩ := Kd.zO HO591.out; (first | subst eo32 | (injection eo32 with f1_ f2_ f3_; have f4_ := f1_.symm; have f5_ := f3_.symm; clear f1_ f2_ f3_; subst f4_; subst f5_))
  refine hK.out _ _ ⟨(blk_cell BK583.out 0).trans rfl, (blk_cell BK583.out 1).trans rfl⟩ (fun hHeld => ?_)
  clear hK K; refine norm_ (a' := ?_) ?_ ?_
  rotate_left
  ·show Act.put _ (some 29) _ = _
   simp only [Act.put, sA_, sB_, sC_, i64_w, i32_w]; rfl
  refine one_ (i := 4) (N := some 30) #[true, true, true, true, true, false, false, false, false, false, false, false] rfl rfl (one_of HT_.out (by kernel_rfl)) (by decide) (fun K hK => ?_)
  refine goes_ Try.func21 (by kernel_rfl) rfl #[.slice Ao31 t586.length co31, .slice Ao32 t589.length co32] (by rfl) rfl rfl aT ?_
  with_reducible refine (stanzaref01_SameInts.calls k1 _ _ t586 _ _ t589 true _ ?side1 ?side2 ?side3 ?side4 A25.out).mono ?_
  (case side1 => exact aF HO588)
  (case side2 => exact (Kd.zL HO588.out).2.1)
  (case side3 => exact aF HO591)
  (case side4 => exact (Kd.zL HO591.out).2.1)
  rintro e w' ⟨rfl, ⟨nd, rfl⟩⟩
  refine ⟨_, rfl, ?_⟩
  refine hK.out _ _ ⟨(blk_cell BK583.out 0).trans rfl, (blk_cell BK583.out 1).trans rfl⟩ (fun hHeld => ?_)
  clear hK K; refine norm_ (a' := ?_) ?_ ?_
  rotate_left
  ·show Act.put _ (some 30) _ = _
   simp only [Act.put, sA_, sB_, sC_, i64_w, i32_w]; rfl
  refine aP 5 (some 31) (tf_ 6 12) HT_ ?_
  refine aP 8 (some 34) #[true, true, true, true, true, true, false, false, true, false, false, false] HT_ ?_
  refine take_ (i := 6) (N := some 32) (v := ?_) (a' := ?_) #[true, true, true, true, true, true, true, false, true, false, false, false] rfl rfl (take_ofW HT_.out HW_.out (by kernel_rfl)) (fun _ _ _ h => h) (Or.inl ⟨by rfl, ?_⟩) hHeld ?_ ?_
  rotate_left
  ·rintro w' ⟨s0, s1⟩
   go_simp
   with_reducible rfl
  rotate_left
  ·simp only [Act.put, sA_, sB_, sC_, i64_w, i32_w]
   rfl
  refine one_ (i := 7) (N := some 33) #[true, true, true, true, true, true, true, true, true, false, false, false] rfl rfl (one_of HT_.out (by kernel_rfl)) (by decide) (fun K hK => ?_)
  refine goes_ Try.func31 (by kernel_rfl) rfl #[.agg #[.slice Ao10 t577.length co10, .slice Ao12 t580.length co12]] (by rfl) rfl rfl aT ?_
  with_reducible refine (items_Bytes.calls k1 _ _ t577 _ _ t580 t593 _ ?side1 ?side2 ?side3 ?side4 A27.out).mono ?_
  (case side1 => exact aF HO_584000)
  (case side2 => exact (Kd.zL HO_584000.out).2.1)
  (case side3 => exact aF HO_584001)
  (case side4 => exact (Kd.zL HO_584001.out).2.1)
  rintro e w33 ⟨rfl, hb⟩
  refine ⟨_, rfl, ?_⟩
  have n0_ := zA.mk (Kd.zM (aR HO_15) hb); have n1_ := zA.mk (Kd.zM (aR HO_584000) hb); have n2_ := zA.mk (Kd.zM (aR HO_584001) hb); have n3_ := zA.mk (Kd.zM (aR HO588) hb); have n4_ := zA.mk (Kd.zM (aR HO591) hb); have n5_ := zA.mk (blk_below (g := gb583) (o := .cells #[.slice Ao10 t577.length co10, .slice Ao12 t580.length co12] 60 (0, 0)) (aB BK583) hb); have n6_ := zA.mk (below_step (aL HB) hb); clear HO_15; clear HO_584000; clear HO_584001; clear HO588; clear HO591; clear BK583; clear HB; have HO_15 := n0_; have HO_584000 := n1_; have HO_584001 := n2_; have HO588 := n3_; have HO591 := n4_; have BK583 := n5_; have HB := n6_; clear n0_ n1_ n2_ n3_ n4_ n5_ n6_; (try clear hb)
  (try clear hb2)
  (try clear hk)
  (try clear hi)
  refine hK.out _ _ ⟨(blk_cell BK583.out 0).trans rfl, (blk_cell BK583.out 1).trans rfl⟩ (fun hHeld => ?_)
  clear hK K; refine norm_ (a' := ?_) ?_ ?_
  rotate_left
  ·show Act.put _ (some 33) _ = _
   simp only [Act.put, sA_, sB_, sC_, i64_w, i32_w]; rfl
  refine aP 9 (some 35) (tf_ 10 12) HT_ ?_
  refine aP 10 (some 36) (tf_ 11 12) HT_ ?_
  refine aP 11 (some 2) #[true, true, true, true, true, true, true, true, true, true, true, true] HT_ ?_
  refine done_ (done_of HT_.out (by kernel_rfl)) ?_
  try go_wp2
  go_ret
  exact ⟨aX, aL HB⟩
def stanzalaw11_ItemsParts.Pure : Prop := ∀ (l0 : List (S90)), (l0.length * 4 ≤ 140737488351232 ∧ ∀ y0 ∈ l0, ((Lit.int .u8 y0.f0).wf = true ∧ ((Lit.int .u8 y0.f1).wf = true ∧ ((Lit.int .u8 y0.f2).wf = true ∧ (Lit.int .u8 y0.f3).wf = true)))) → ∃ k, stanzalaw11_ItemsParts.f k l0 = some true
def stanzaref01_Of.l0 : Nat → List (S45) → Int → Int → Option (Int)
 | 0, _, _, _ => none
 | k + 1, x0, x1, x5 => if x5 < (x0.length : Int) then (if 0 ≤ x5 then (if ((rd_T45 x0 x5).f0) ≤ x1 then (if x1 ≤ ((rd_T45 x0 x5).f1) then (some ((rd_T45 x0 x5).f2)) else (stanzaref01_Of.l0 k x0 x1 (wrap64 (x5 + 1)))) else (stanzaref01_Of.l0 k x0 x1 (wrap64 (x5 + 1)))) else (none)) else (some 0)
def stanzaref01_Of.f (k : Nat) (l0 : List (S45)) (a1 : Int) : Option (Int) := stanzaref01_Of.l0 k l0 a1 0
theorem stanzaref01_Of.mono_l : ∀ k, (∀ y0 y1 y2, LeO (stanzaref01_Of.l0 k y0 y1 y2) (stanzaref01_Of.l0 (k + 1) y0 y1 y2))
 | 0 => fun _ _ _ r h => by simp [stanzaref01_Of.l0] at h
 | k + 1 => by
  have ih0 := stanzaref01_Of.mono_l k
  ·intro y0 y1 y2
   unfold stanzaref01_Of.l0
   repeat' (with_reducible first | exact ih0 _ _ _ | exact LeO.refl _ | exact LeO.none _ | refine LeO.ite ?_ ?_ | refine LeO.bind ?_ (fun _ => ?_))
theorem stanzaref01_Of.mono : ∀ a0 a1 k, LeO (stanzaref01_Of.f k a0 a1) (stanzaref01_Of.f (k + 1) a0 a1) := by
 intro a0 a1 k
 have ih0 := stanzaref01_Of.mono_l k; unfold stanzaref01_Of.f
 repeat' (with_reducible first | exact ih0 _ _ _ | exact LeO.refl _ | exact LeO.none _ | refine LeO.ite ?_ ?_ | refine LeO.bind ?_ (fun _ => ?_))
set_option maxHeartbeats 8000000 in
set_option maxRecDepth 100000 in
theorem stanzaref01_Of.calls (k : Nat) (A0 : Option Addr) (c0 : Nat) (l0 : List (S45)) (a1 : Int) (r : Int) (w : World) (hr0 : Kd.C k45 w A0 l0.length l0) (hc0 : l0.length ≤ c0) (h : stanzaref01_Of.f k l0 a1 = some r) :
  Calls Try.prog 37 #[.slice A0 l0.length c0, .int .i32 a1] w fun e w' => e = .returned (.int .i64 r) ∧ Drawn0 w w' := by
 have HR0 := zA.mk hr0; have HC0 := zA.mk hc0; clear hr0 hc0; have H : (stanzaref01_Of.l0 k l0 a1 0) = some r := h
 clear h; have H' := zA.mk H
 clear H; go_enter Try.func37, Try.ntmps37
 go_wp2
 go_loopg [5] k (fun kq v5 w' => ∃ (x5_1 : Int), v5 = .int .i64 x5_1 ∧ zA (stanzaref01_Of.l0 kq l0 a1 x5_1 = some r) ∧ zA (kq ≤ k) ∧ Drawn0 w w')
 case atStart => exact ⟨(0), aZ, H', ⟨Nat.le_refl _⟩, by repeat (first | exact Drawn0.refl _ | apply Drawn0.step)⟩
 clear H'; obtain ⟨x5_1, rfl, HA, HK1, ⟨m1, rfl⟩⟩ := hrel; cases gk with
 | zero => exact absurd HA.out (by simp [stanzaref01_Of.l0])
 | succ k1 =>
  have H := HA.out; clear HA; simp only [stanzaref01_Of.l0] at H; by_cases c3 : x5_1 < (l0.length : Int)
  rotate_left
  ·rw [if_neg c3] at H
   have c3b0 : decide (x5_1 < (l0.length : Int)) = false := decide_eq_false c3
   clear c3; obtain rfl := Option.some.inj H
   go_wp2
   go_ret
   exact ⟨by first | rfl | (simp; done) | (simp [*]; done), by repeat (first | exact Drawn0.refl _ | apply Drawn0.step)⟩
  rw [if_pos c3] at H; have c3b0 : decide (x5_1 < (l0.length : Int)) = true := decide_eq_true c3
  clear c3; by_cases c4 : 0 ≤ x5_1
  rotate_left
  ·rw [if_neg c4] at H
   exact absurd H (by simp)
  rw [if_pos c4] at H; have c4b0 : decide (0 ≤ x5_1) = true := decide_eq_true c4
  clear c4; by_cases c5 : ((rd_T45 l0 x5_1).f0) ≤ a1
  rotate_left
  ·rw [if_neg c5] at H
   have c5b0 : decide (((rd_T45 l0 x5_1).f0) ≤ a1) = false := decide_eq_false c5
   clear c5; have H' := zA.mk H
   clear H; have p422 : 0 ≤ (x5_1 : Int) := aD
   have q422 : x5_1 < (l0.length : Int) := aD
   obtain ⟨ad422, e422, hx422_0, hx422_1, hx422_2⟩ := at_T45 HR0.out x5_1 p422 q422; cases e422
   replace p422 := eq_true p422; replace q422 := eq_true q422; go_wp2
   go_roundg k1
   case measure => have := HK1.out; omega
   case rel => exact ⟨(wrap64 (x5_1 + 1)), aZ, H', ⟨by have := HK1.out; omega⟩, by repeat (first | exact Drawn0.refl _ | apply Drawn0.step)⟩
  rw [if_pos c5] at H; have c5b0 : decide (((rd_T45 l0 x5_1).f0) ≤ a1) = true := decide_eq_true c5
  clear c5; by_cases c6 : a1 ≤ ((rd_T45 l0 x5_1).f1)
  rotate_left
  ·rw [if_neg c6] at H
   have c6b0 : decide (a1 ≤ ((rd_T45 l0 x5_1).f1)) = false := decide_eq_false c6
   clear c6; have H' := zA.mk H
   clear H; have p422 : 0 ≤ (x5_1 : Int) := aD
   have q422 : x5_1 < (l0.length : Int) := aD
   obtain ⟨ad422, e422, hx422_0, hx422_1, hx422_2⟩ := at_T45 HR0.out x5_1 p422 q422; cases e422
   replace p422 := eq_true p422; replace q422 := eq_true q422; have p423 : 0 ≤ (x5_1 : Int) := aD
   have q423 : x5_1 < (l0.length : Int) := aD
   obtain ⟨ad423, e423, hx423_0, hx423_1, hx423_2⟩ := at_T45 HR0.out x5_1 p423 q423; obtain rfl : ad422 = ad423 := (by injection e423)
   replace p423 := eq_true p423; replace q423 := eq_true q423; go_wp2
   go_roundg k1
   case measure => have := HK1.out; omega
   case rel => exact ⟨(wrap64 (x5_1 + 1)), aZ, H', ⟨by have := HK1.out; omega⟩, by repeat (first | exact Drawn0.refl _ | apply Drawn0.step)⟩
  rw [if_pos c6] at H; have c6b0 : decide (a1 ≤ ((rd_T45 l0 x5_1).f1)) = true := decide_eq_true c6
  clear c6; obtain rfl := Option.some.inj H
  have p422 : 0 ≤ (x5_1 : Int) := aD
  have q422 : x5_1 < (l0.length : Int) := aD
  obtain ⟨ad422, e422, hx422_0, hx422_1, hx422_2⟩ := at_T45 HR0.out x5_1 p422 q422; cases e422
  replace p422 := eq_true p422; replace q422 := eq_true q422; have p423 : 0 ≤ (x5_1 : Int) := aD
  have q423 : x5_1 < (l0.length : Int) := aD
  obtain ⟨ad423, e423, hx423_0, hx423_1, hx423_2⟩ := at_T45 HR0.out x5_1 p423 q423; obtain rfl : ad422 = ad423 := (by injection e423)
  replace p423 := eq_true p423; replace q423 := eq_true q423; have p424 : 0 ≤ (x5_1 : Int) := aD
  have q424 : x5_1 < (l0.length : Int) := aD
  obtain ⟨ad424, e424, hx424_0, hx424_1, hx424_2⟩ := at_T45 HR0.out x5_1 p424 q424; obtain rfl : ad422 = ad424 := (by injection e424)
  replace p424 := eq_true p424; replace q424 := eq_true q424; go_wp2
  go_ret
  exact ⟨by first | rfl | (simp; done) | (simp [*]; done), by repeat (first | exact Drawn0.refl _ | apply Drawn0.step)⟩
mutual
def stanzaref01_length.j0 : Nat → Int → Bool → Option (Int)
 | 0, _, _ => none
 | k + 1, x0, x6 => if x6 = true then (some 2) else (if x0 ≥ 224 then (stanzaref01_length.j1 k x0 (decide (x0 ≤ 239))) else (stanzaref01_length.j1 k x0 false))
def stanzaref01_length.j1 : Nat → Int → Bool → Option (Int)
 | 0, _, _ => none
 | k + 1, x0, x13 => if x13 = true then (some 3) else (if x0 ≥ 240 then (if x0 ≤ 244 then (some 4) else (some 0)) else (some 0))
end
def stanzaref01_length.f (k : Nat) (a0 : Int) : Option (Int) := if a0 < 128 then (some 1) else (if a0 ≥ 194 then (stanzaref01_length.j0 k a0 (decide (a0 ≤ 223))) else (stanzaref01_length.j0 k a0 false))
theorem stanzaref01_length.mono_l : ∀ k, (∀ y0 y1, LeO (stanzaref01_length.j0 k y0 y1) (stanzaref01_length.j0 (k + 1) y0 y1)) ∧ (∀ y0 y1, LeO (stanzaref01_length.j1 k y0 y1) (stanzaref01_length.j1 (k + 1) y0 y1))
 | 0 => ⟨fun _ _ r h => by simp [stanzaref01_length.j0] at h, fun _ _ r h => by simp [stanzaref01_length.j1] at h⟩
 | k + 1 => by
  obtain ⟨ih0, ih1⟩ := stanzaref01_length.mono_l k; refine ⟨?_, ?_⟩
  ·intro y0 y1
   unfold stanzaref01_length.j0
   repeat' (with_reducible first | exact ih0 _ _ | exact ih1 _ _ | exact LeO.refl _ | exact LeO.none _ | refine LeO.ite ?_ ?_ | refine LeO.bind ?_ (fun _ => ?_))
  ·intro y0 y1
   unfold stanzaref01_length.j1
   repeat' (with_reducible first | exact ih0 _ _ | exact ih1 _ _ | exact LeO.refl _ | exact LeO.none _ | refine LeO.ite ?_ ?_ | refine LeO.bind ?_ (fun _ => ?_))
theorem stanzaref01_length.mono : ∀ a0 k, LeO (stanzaref01_length.f k a0) (stanzaref01_length.f (k + 1) a0) := by
 intro a0 k
 obtain ⟨ih0, ih1⟩ := stanzaref01_length.mono_l k; unfold stanzaref01_length.f
 repeat' (with_reducible first | exact ih0 _ _ | exact ih1 _ _ | exact LeO.refl _ | exact LeO.none _ | refine LeO.ite ?_ ?_ | refine LeO.bind ?_ (fun _ => ?_))
set_option maxHeartbeats 8000000 in
set_option maxRecDepth 100000 in
theorem stanzaref01_length.calls (k : Nat) (a0 : Int) (r : Int) (w : World) (h : stanzaref01_length.f k a0 = some r) :
  Calls Try.prog 39 #[.int .u8 a0] w fun e w' => e = .returned (.int .i64 r) ∧ Drawn0 w w' := by
 have H : (if a0 < 128 then (some 1) else (if a0 ≥ 194 then (stanzaref01_length.j0 k a0 (decide (a0 ≤ 223))) else (stanzaref01_length.j0 k a0 false))) = some r := h
 clear h; by_cases c2 : a0 < 128
 ·rw [if_pos c2] at H
  have c2b0 : decide (a0 < 128) = true := decide_eq_true c2
  clear c2; obtain rfl := Option.some.inj H
  go_enter Try.func39, Try.ntmps39
  go_wp2
  go_ret
  exact ⟨by first | rfl | (simp; done) | (simp [*]; done), by repeat (first | exact Drawn0.refl _ | apply Drawn0.step)⟩
 rw [if_neg c2] at H; have c2b0 : decide (a0 < 128) = false := decide_eq_false c2
 clear c2; have HC3 := zA.mk H; clear H; go_enter Try.func39, Try.ntmps39
 go_upto_region 3 with (fail)
 go_cut [6] (fun v6 wc => ∃ (kq : Nat) (x6_2 : Bool), v6 = .bool x6_2 ∧ zA (stanzaref01_length.j0 kq a0 x6_2 = some r) ∧ zA (kq ≤ k) ∧ Drawn0 w wc)
 case first =>
  have H := HC3.out; clear HC3; by_cases c4 : a0 ≥ 194
  ·rw [if_pos c4] at H
   have c4b0 : decide (194 ≤ a0) = true := decide_eq_true c4
   clear c4; (first | rw [c4b0] | (simp only [i64_w, i32_w]; rw [c4b0]) | skip)
   have H' := zA.mk H
   clear H; go_wp2
   go_meet
   case rel => exact ⟨_, (decide (a0 ≤ 223)), aZ, H', ⟨by first | omega | exact Nat.le_refl _⟩, by repeat (first | exact Drawn0.refl _ | apply Drawn0.step)⟩
  rw [if_neg c4] at H; have c4b0 : decide (194 ≤ a0) = false := decide_eq_false c4
  clear c4; (first | rw [c4b0] | (simp only [i64_w, i32_w]; rw [c4b0]) | skip)
  have H' := zA.mk H
  clear H; go_wp2
  go_meet
  case rel => exact ⟨_, (false), aZ, H', ⟨by first | omega | exact Nat.le_refl _⟩, by repeat (first | exact Drawn0.refl _ | apply Drawn0.step)⟩
 clear HC3; obtain ⟨kq, x6_2, rfl, HA, HJ2, ⟨mc2, rfl⟩⟩ := hcut; cases kq with
 | zero => exact absurd HA.out (by simp [stanzaref01_length.j0])
 | succ kj2 =>
  have H := HA.out; clear HA; simp only [stanzaref01_length.j0] at H; by_cases c5 : x6_2 = true
  ·subst c5
   have H1 : (some 2) = some r := by rw [if_pos rfl] at H; exact H
   clear H; have H := H1; clear H1; obtain rfl := Option.some.inj H
   go_wp2
   go_ret
   exact ⟨by first | rfl | (simp; done) | (simp [*]; done), by repeat (first | exact Drawn0.refl _ | apply Drawn0.step)⟩
  replace c5 := Bool.eq_false_iff.mpr c5; subst c5; have H1 : (if a0 ≥ 224 then (stanzaref01_length.j1 kj2 a0 (decide (a0 ≤ 239))) else (stanzaref01_length.j1 kj2 a0 false)) = some r := by rw [if_neg (show ¬ (false = true) by decide)] at H; exact H
  clear H; have H := H1; clear H1; have HC6 := zA.mk H; clear H; go_upto_region 5 with (fail)
  go_cut [13] (fun v13 wc => ∃ (kq : Nat) (x13_5 : Bool), v13 = .bool x13_5 ∧ zA (stanzaref01_length.j1 kq a0 x13_5 = some r) ∧ zA (kq ≤ kj2) ∧ Drawn0 w wc)
  case first =>
   have H := HC6.out; clear HC6; by_cases c7 : a0 ≥ 224
   ·rw [if_pos c7] at H
    have c7b0 : decide (224 ≤ a0) = true := decide_eq_true c7
    clear c7; (first | rw [c7b0] | (simp only [i64_w, i32_w]; rw [c7b0]) | skip)
    have H' := zA.mk H
    clear H; go_wp2
    go_meet
    case rel => exact ⟨_, (decide (a0 ≤ 239)), aZ, H', ⟨by have := HJ2.out; first | omega | exact Nat.le_refl _⟩, by repeat (first | exact Drawn0.refl _ | apply Drawn0.step)⟩
   rw [if_neg c7] at H; have c7b0 : decide (224 ≤ a0) = false := decide_eq_false c7
   clear c7; (first | rw [c7b0] | (simp only [i64_w, i32_w]; rw [c7b0]) | skip)
   have H' := zA.mk H
   clear H; go_wp2
   go_meet
   case rel => exact ⟨_, (false), aZ, H', ⟨by have := HJ2.out; first | omega | exact Nat.le_refl _⟩, by repeat (first | exact Drawn0.refl _ | apply Drawn0.step)⟩
  clear HC6; obtain ⟨kq, x13_5, rfl, HA, HJ5, ⟨mc5, rfl⟩⟩ := hcut; cases kq with
  | zero => exact absurd HA.out (by simp [stanzaref01_length.j1])
  | succ kj5 =>
   have H := HA.out; clear HA; simp only [stanzaref01_length.j1] at H; by_cases c8 : x13_5 = true
   ·subst c8
    have H1 : (some 3) = some r := by rw [if_pos rfl] at H; exact H
    clear H; have H := H1; clear H1; obtain rfl := Option.some.inj H
    go_wp2
    go_ret
    exact ⟨by first | rfl | (simp; done) | (simp [*]; done), by repeat (first | exact Drawn0.refl _ | apply Drawn0.step)⟩
   replace c8 := Bool.eq_false_iff.mpr c8; subst c8; have H1 : (if a0 ≥ 240 then (if a0 ≤ 244 then (some 4) else (some 0)) else (some 0)) = some r := by rw [if_neg (show ¬ (false = true) by decide)] at H; exact H
   clear H; have H := H1; clear H1; by_cases c9 : a0 ≥ 240
   rotate_left
   ·rw [if_neg c9] at H
    have c9b0 : decide (240 ≤ a0) = false := decide_eq_false c9
    clear c9; obtain rfl := Option.some.inj H
    go_wp2
    go_ret
    exact ⟨by first | rfl | (simp; done) | (simp [*]; done), by repeat (first | exact Drawn0.refl _ | apply Drawn0.step)⟩
   rw [if_pos c9] at H; have c9b0 : decide (240 ≤ a0) = true := decide_eq_true c9
   clear c9; by_cases c10 : a0 ≤ 244
   ·rw [if_pos c10] at H
    have c10b0 : decide (a0 ≤ 244) = true := decide_eq_true c10
    clear c10; obtain rfl := Option.some.inj H
    go_wp2
    go_ret
    exact ⟨by first | rfl | (simp; done) | (simp [*]; done), by repeat (first | exact Drawn0.refl _ | apply Drawn0.step)⟩
   rw [if_neg c10] at H; have c10b0 : decide (a0 ≤ 244) = false := decide_eq_false c10
   clear c10; obtain rfl := Option.some.inj H
   go_wp2
   go_ret
   exact ⟨by first | rfl | (simp; done) | (simp [*]; done), by repeat (first | exact Drawn0.refl _ | apply Drawn0.step)⟩
mutual
def stanzaref01_Begins.j0 : Nat → List Int → Bool → Option (Bool)
 | 0, _, _ => none
 | k + 1, x0, x15 => if x15 = true then (some false) else (stanzaref01_Begins.l0 k x0 1)
def stanzaref01_Begins.l0 : Nat → List Int → Int → Option (Bool)
 | 0, _, _ => none
 | k + 1, x0, x3 => if x3 < (x0.length : Int) then (if 0 ≤ x3 then (if (rd x0 x3) < 128 then (some false) else (if (rd x0 x3) > 191 then (some false) else (stanzaref01_Begins.l0 k x0 (wrap64 (x3 + 1))))) else (none)) else (if (x0.length : Int) = 1 then (some true) else (if 0 < (x0.length : Int) then (if (rd x0 0) = 224 then (if 1 < (x0.length : Int) then (some (decide ((rd x0 1) ≥ 160))) else (none)) else (if (rd x0 0) = 237 then (if 1 < (x0.length : Int) then (some (decide ((rd x0 1) < 160))) else (none)) else (if (rd x0 0) = 240 then (if 1 < (x0.length : Int) then (some (decide ((rd x0 1) ≥ 144))) else (none)) else (if (rd x0 0) = 244 then (if 1 < (x0.length : Int) then (some (decide ((rd x0 1) < 144))) else (none)) else (some true))))) else (none)))
end
def stanzaref01_Begins.f (k : Nat) (l0 : List Int) : Option (Bool) := if (l0.length : Int) = 0 then (stanzaref01_Begins.j0 k l0 true) else (if 0 < (l0.length : Int) then ((stanzaref01_length.f k (rd l0 0)).bind fun t175 => (stanzaref01_Begins.j0 k l0 (decide ((l0.length : Int) > t175)))) else (none))
theorem stanzaref01_Begins.mono_l : ∀ k, (∀ y0 y1, LeO (stanzaref01_Begins.j0 k y0 y1) (stanzaref01_Begins.j0 (k + 1) y0 y1)) ∧ (∀ y0 y1, LeO (stanzaref01_Begins.l0 k y0 y1) (stanzaref01_Begins.l0 (k + 1) y0 y1))
 | 0 => ⟨fun _ _ r h => by simp [stanzaref01_Begins.j0] at h, fun _ _ r h => by simp [stanzaref01_Begins.l0] at h⟩
 | k + 1 => by
  obtain ⟨ih0, ih1⟩ := stanzaref01_Begins.mono_l k; refine ⟨?_, ?_⟩
  ·intro y0 y1
   unfold stanzaref01_Begins.j0
   repeat' (with_reducible first | exact ih0 _ _ | exact ih1 _ _ | exact stanzaref01_length.mono _ _ | exact LeO.refl _ | exact LeO.none _ | refine LeO.ite ?_ ?_ | refine LeO.bind ?_ (fun _ => ?_))
  ·intro y0 y1
   unfold stanzaref01_Begins.l0
   repeat' (with_reducible first | exact ih0 _ _ | exact ih1 _ _ | exact stanzaref01_length.mono _ _ | exact LeO.refl _ | exact LeO.none _ | refine LeO.ite ?_ ?_ | refine LeO.bind ?_ (fun _ => ?_))
theorem stanzaref01_Begins.mono : ∀ a0 k, LeO (stanzaref01_Begins.f k a0) (stanzaref01_Begins.f (k + 1) a0) := by
 intro a0 k
 obtain ⟨ih0, ih1⟩ := stanzaref01_Begins.mono_l k; unfold stanzaref01_Begins.f
 repeat' (with_reducible first | exact ih0 _ _ | exact ih1 _ _ | exact stanzaref01_length.mono _ _ | exact LeO.refl _ | exact LeO.none _ | refine LeO.ite ?_ ?_ | refine LeO.bind ?_ (fun _ => ?_))
set_option maxHeartbeats 8000000 in
set_option maxRecDepth 100000 in
theorem stanzaref01_Begins.calls (k : Nat) (A0 : Option Addr) (c0 : Nat) (l0 : List Int) (r : Bool) (w : World) (hr0 : Kd.C (Kd.int .u8) w A0 l0.length l0) (hc0 : l0.length ≤ c0) (h : stanzaref01_Begins.f k l0 = some r) :
  Calls Try.prog 38 #[.slice A0 l0.length c0] w fun e w' => e = .returned (.bool r) ∧ Drawn0 w w' := by
 have HR0 := zA.mk hr0; have HC0 := zA.mk hc0; clear hr0 hc0; have H : (if (l0.length : Int) = 0 then (stanzaref01_Begins.j0 k l0 true) else (if 0 < (l0.length : Int) then ((stanzaref01_length.f k (rd l0 0)).bind fun t175 => (stanzaref01_Begins.j0 k l0 (decide ((l0.length : Int) > t175)))) else (none))) = some r := h
 clear h; have HC2 := zA.mk H; clear H; go_enter Try.func38, Try.ntmps38
 go_upto_region 1 with (fail)
 go_cut [15] (fun v15 wc => ∃ (kq : Nat) (x15_1 : Bool), v15 = .bool x15_1 ∧ zA (stanzaref01_Begins.j0 kq l0 x15_1 = some r) ∧ zA (kq ≤ k) ∧ Drawn0 w wc)
 case first =>
  have H := HC2.out; clear HC2; by_cases c3 : (l0.length : Int) = 0
  ·rw [if_pos c3] at H
   have c3b0 : ((l0.length : Int) == 0) = true := beq_iff_eq.mpr c3
   have c3b1 : ((l0.length : Int) != 0) = false := bne_eq_false_iff_eq.mpr c3
   clear c3; (first | rw [c3b0] | (simp only [i64_w, i32_w]; rw [c3b0]) | skip)
   have H' := zA.mk H
   clear H; go_wp2
   go_meet
   case rel => exact ⟨_, (true), aZ, H', ⟨by first | omega | exact Nat.le_refl _⟩, by repeat (first | exact Drawn0.refl _ | apply Drawn0.step)⟩
  rw [if_neg c3] at H; have c3b0 : ((l0.length : Int) == 0) = false := beq_eq_false_iff_ne.mpr c3
  have c3b1 : ((l0.length : Int) != 0) = true := bne_iff_ne.mpr c3
  have c3b2 : ¬ (l0 = []) := fun h_ => c3 (by rw [h_]; rfl)
  (first | rw [c3b0] | (simp only [i64_w, i32_w]; rw [c3b0]) | skip)
  by_cases c4 : 0 < (l0.length : Int)
  rotate_left
  ·rw [if_neg c4] at H
   exact absurd H (by simp)
  rw [if_pos c4] at H; have c4b0 : decide (0 < (l0.length : Int)) = true := decide_eq_true c4
  have c4b1 : decide (0 < l0.length) = true := decide_eq_true (by omega)
  clear c4; replace H := Option.bind_eq_some_iff.mp H; obtain ⟨t175, A50, H⟩ := H; replace H : (stanzaref01_Begins.j0 k l0 (decide ((l0.length : Int) > t175))) = some r := H; have A5 := zA.mk A50; clear A50; have H' := zA.mk H
  clear H; have p174 : 0 ≤ (0 : Int) := (by omega)
  have q174 : 0 < (l0.length : Int) := aD
  obtain ⟨ad174, e174, hx174_0⟩ := Kd.at_int HR0.out 0 p174 q174; cases e174
  have qi174 : (0 < l0.length) = True := eq_true (by omega)
  (try rw [show ((0 : Int)).toNat = 0 from rfl] at hx174_0)
  (try rw [Addr.add_zero'] at hx174_0)
  replace p174 := eq_true p174; replace q174 := eq_true q174; go_wp2_with (first | (go_at_call 39; (with_reducible refine (stanzaref01_length.calls k (rd l0 0) t175 _ A5.out).mono ?_); rintro e w' ⟨rfl, ⟨nd, rfl⟩⟩))
  go_meet
  case rel => exact ⟨_, (decide ((l0.length : Int) > t175)), aZ, H', ⟨by first | omega | exact Nat.le_refl _⟩, by repeat (first | exact Drawn0.refl _ | apply Drawn0.step)⟩
 clear HC2; obtain ⟨kq, x15_1, rfl, HA, HJ1, ⟨mc1, rfl⟩⟩ := hcut; cases kq with
 | zero => exact absurd HA.out (by simp [stanzaref01_Begins.j0])
 | succ kj1 =>
  have H := HA.out; clear HA; simp only [stanzaref01_Begins.j0] at H; by_cases c6 : x15_1 = true
  ·subst c6
   have H1 : (some false) = some r := by rw [if_pos rfl] at H; exact H
   clear H; have H := H1; clear H1; obtain rfl := Option.some.inj H
   go_wp2
   go_ret
   exact ⟨by first | rfl | (simp; done) | (simp [*]; done), by repeat (first | exact Drawn0.refl _ | apply Drawn0.step)⟩
  replace c6 := Bool.eq_false_iff.mpr c6; subst c6; have H1 : (stanzaref01_Begins.l0 kj1 l0 1) = some r := by rw [if_neg (show ¬ (false = true) by decide)] at H; exact H
  clear H; have H := H1; clear H1; have H' := zA.mk H
  clear H; go_wp2
  go_loopg [3] kj1 (fun kq v3 w' => ∃ (x3_2 : Int), v3 = .int .i64 x3_2 ∧ zA (stanzaref01_Begins.l0 kq l0 x3_2 = some r) ∧ zA (kq ≤ kj1) ∧ Drawn0 w w')
  case atStart => exact ⟨(1), aZ, H', ⟨Nat.le_refl _⟩, by repeat (first | exact Drawn0.refl _ | apply Drawn0.step)⟩
  clear H'; obtain ⟨x3_2, rfl, HA, HK2, ⟨m2, rfl⟩⟩ := hrel; cases gk with
  | zero => exact absurd HA.out (by simp [stanzaref01_Begins.l0])
  | succ k2 =>
   have H := HA.out; clear HA; simp only [stanzaref01_Begins.l0] at H; by_cases c7 : x3_2 < (l0.length : Int)
   ·rw [if_pos c7] at H
    have c7b0 : decide (x3_2 < (l0.length : Int)) = true := decide_eq_true c7
    clear c7; by_cases c8 : 0 ≤ x3_2
    rotate_left
    ·rw [if_neg c8] at H
     exact absurd H (by simp)
    rw [if_pos c8] at H; have c8b0 : decide (0 ≤ x3_2) = true := decide_eq_true c8
    clear c8; by_cases c9 : (rd l0 x3_2) < 128
    ·rw [if_pos c9] at H
     have c9b0 : decide ((rd l0 x3_2) < 128) = true := decide_eq_true c9
     clear c9; obtain rfl := Option.some.inj H
     have p176 : 0 ≤ (x3_2 : Int) := aD
     have q176 : x3_2 < (l0.length : Int) := aD
     obtain ⟨ad176, e176, hx176_0⟩ := Kd.at_int HR0.out x3_2 p176 q176; cases e176
     replace p176 := eq_true p176; replace q176 := eq_true q176; go_wp2
     go_ret
     exact ⟨by first | rfl | (simp; done) | (simp [*]; done), by repeat (first | exact Drawn0.refl _ | apply Drawn0.step)⟩
    rw [if_neg c9] at H; have c9b0 : decide ((rd l0 x3_2) < 128) = false := decide_eq_false c9
    clear c9; by_cases c10 : (rd l0 x3_2) > 191
    ·rw [if_pos c10] at H
     have c10b0 : decide (191 < (rd l0 x3_2)) = true := decide_eq_true c10
     clear c10; obtain rfl := Option.some.inj H
     have p176 : 0 ≤ (x3_2 : Int) := aD
     have q176 : x3_2 < (l0.length : Int) := aD
     obtain ⟨ad176, e176, hx176_0⟩ := Kd.at_int HR0.out x3_2 p176 q176; cases e176
     replace p176 := eq_true p176; replace q176 := eq_true q176; have p177 : 0 ≤ (x3_2 : Int) := aD
     have q177 : x3_2 < (l0.length : Int) := aD
     obtain ⟨ad177, e177, hx177_0⟩ := Kd.at_int HR0.out x3_2 p177 q177; obtain rfl : ad176 = ad177 := (by injection e177)
     replace p177 := eq_true p177; replace q177 := eq_true q177; go_wp2
     go_ret
     exact ⟨by first | rfl | (simp; done) | (simp [*]; done), by repeat (first | exact Drawn0.refl _ | apply Drawn0.step)⟩
    rw [if_neg c10] at H; have c10b0 : decide (191 < (rd l0 x3_2)) = false := decide_eq_false c10
    clear c10; have H' := zA.mk H
    clear H; have p176 : 0 ≤ (x3_2 : Int) := aD
    have q176 : x3_2 < (l0.length : Int) := aD
    obtain ⟨ad176, e176, hx176_0⟩ := Kd.at_int HR0.out x3_2 p176 q176; cases e176
    replace p176 := eq_true p176; replace q176 := eq_true q176; have p177 : 0 ≤ (x3_2 : Int) := aD
    have q177 : x3_2 < (l0.length : Int) := aD
    obtain ⟨ad177, e177, hx177_0⟩ := Kd.at_int HR0.out x3_2 p177 q177; obtain rfl : ad176 = ad177 := (by injection e177)
    replace p177 := eq_true p177; replace q177 := eq_true q177; go_wp2
    go_roundg k2
    case measure => have := HJ1.out; have := HK2.out; omega
    case rel => exact ⟨(wrap64 (x3_2 + 1)), aZ, H', ⟨by have := HJ1.out; have := HK2.out; omega⟩, by repeat (first | exact Drawn0.refl _ | apply Drawn0.step)⟩
   rw [if_neg c7] at H; have c7b0 : decide (x3_2 < (l0.length : Int)) = false := decide_eq_false c7
   clear c7; by_cases c11 : (l0.length : Int) = 1
   ·rw [if_pos c11] at H
    have c11b0 : ((l0.length : Int) == 1) = true := beq_iff_eq.mpr c11
    have c11b1 : ((l0.length : Int) != 1) = false := bne_eq_false_iff_eq.mpr c11
    clear c11; obtain rfl := Option.some.inj H
    go_wp2
    go_ret
    exact ⟨by first | rfl | (simp; done) | (simp [*]; done), by repeat (first | exact Drawn0.refl _ | apply Drawn0.step)⟩
   rw [if_neg c11] at H; have c11b0 : ((l0.length : Int) == 1) = false := beq_eq_false_iff_ne.mpr c11
   have c11b1 : ((l0.length : Int) != 1) = true := bne_iff_ne.mpr c11
   by_cases c12 : 0 < (l0.length : Int)
   rotate_left
   ·rw [if_neg c12] at H
    exact absurd H (by simp)
   rw [if_pos c12] at H; have c12b0 : decide (0 < (l0.length : Int)) = true := decide_eq_true c12
   have c12b1 : decide (0 < l0.length) = true := decide_eq_true (by omega)
   clear c12; by_cases c13 : (rd l0 0) = 224
   ·rw [if_pos c13] at H
    have c13b0 : ((rd l0 0) == 224) = true := beq_iff_eq.mpr c13
    have c13b1 : ((rd l0 0) != 224) = false := bne_eq_false_iff_eq.mpr c13
    clear c13; by_cases c14 : 1 < (l0.length : Int)
    rotate_left
    ·rw [if_neg c14] at H
     exact absurd H (by simp)
    rw [if_pos c14] at H; have c14b0 : decide (1 < (l0.length : Int)) = true := decide_eq_true c14
    have c14b1 : decide (1 < l0.length) = true := decide_eq_true (by omega)
    clear c14; obtain rfl := Option.some.inj H
    have p178 : 0 ≤ (0 : Int) := (by omega)
    have q178 : 0 < (l0.length : Int) := aD
    obtain ⟨ad178, e178, hx178_0⟩ := Kd.at_int HR0.out 0 p178 q178; cases e178
    have qi178 : (0 < l0.length) = True := eq_true (by omega)
    (try rw [show ((0 : Int)).toNat = 0 from rfl] at hx178_0)
    (try rw [Addr.add_zero'] at hx178_0)
    replace p178 := eq_true p178; replace q178 := eq_true q178; have p179 : 0 ≤ (1 : Int) := (by omega)
    have q179 : 1 < (l0.length : Int) := aD
    obtain ⟨ad179, e179, hx179_0⟩ := Kd.at_int HR0.out 1 p179 q179; obtain rfl : ad178 = ad179 := (by injection e179)
    (try simp only [show (1 : Int).toNat = 1 from rfl, Nat.reduceMul, Nat.reduceEqDiff, Go.Addr.add, ↓reduceIte] at hx179_0)
    have qi179 : (1 < l0.length) = True := eq_true (by omega)
    (try rw [show ((1 : Int)).toNat = 1 from rfl] at hx179_0)
    replace p179 := eq_true p179; replace q179 := eq_true q179; go_wp2
    go_ret
    exact ⟨by first | rfl | (simp; done) | (simp [*]; done), by repeat (first | exact Drawn0.refl _ | apply Drawn0.step)⟩
   rw [if_neg c13] at H; have c13b0 : ((rd l0 0) == 224) = false := beq_eq_false_iff_ne.mpr c13
   have c13b1 : ((rd l0 0) != 224) = true := bne_iff_ne.mpr c13
   by_cases c15 : (rd l0 0) = 237
   ·rw [if_pos c15] at H
    have c15b0 : ((rd l0 0) == 237) = true := beq_iff_eq.mpr c15
    have c15b1 : ((rd l0 0) != 237) = false := bne_eq_false_iff_eq.mpr c15
    clear c15; by_cases c16 : 1 < (l0.length : Int)
    rotate_left
    ·rw [if_neg c16] at H
     exact absurd H (by simp)
    rw [if_pos c16] at H; have c16b0 : decide (1 < (l0.length : Int)) = true := decide_eq_true c16
    have c16b1 : decide (1 < l0.length) = true := decide_eq_true (by omega)
    clear c16; obtain rfl := Option.some.inj H
    have p178 : 0 ≤ (0 : Int) := (by omega)
    have q178 : 0 < (l0.length : Int) := aD
    obtain ⟨ad178, e178, hx178_0⟩ := Kd.at_int HR0.out 0 p178 q178; cases e178
    have qi178 : (0 < l0.length) = True := eq_true (by omega)
    (try rw [show ((0 : Int)).toNat = 0 from rfl] at hx178_0)
    (try rw [Addr.add_zero'] at hx178_0)
    replace p178 := eq_true p178; replace q178 := eq_true q178; have p180 : 0 ≤ (1 : Int) := (by omega)
    have q180 : 1 < (l0.length : Int) := aD
    obtain ⟨ad180, e180, hx180_0⟩ := Kd.at_int HR0.out 1 p180 q180; obtain rfl : ad178 = ad180 := (by injection e180)
    (try simp only [show (1 : Int).toNat = 1 from rfl, Nat.reduceMul, Nat.reduceEqDiff, Go.Addr.add, ↓reduceIte] at hx180_0)
    have qi180 : (1 < l0.length) = True := eq_true (by omega)
    (try rw [show ((1 : Int)).toNat = 1 from rfl] at hx180_0)
    replace p180 := eq_true p180; replace q180 := eq_true q180; go_wp2
    go_ret
    exact ⟨by first | rfl | (simp; done) | (simp [*]; done), by repeat (first | exact Drawn0.refl _ | apply Drawn0.step)⟩
   rw [if_neg c15] at H; have c15b0 : ((rd l0 0) == 237) = false := beq_eq_false_iff_ne.mpr c15
   have c15b1 : ((rd l0 0) != 237) = true := bne_iff_ne.mpr c15
   by_cases c17 : (rd l0 0) = 240
   ·rw [if_pos c17] at H
    have c17b0 : ((rd l0 0) == 240) = true := beq_iff_eq.mpr c17
    have c17b1 : ((rd l0 0) != 240) = false := bne_eq_false_iff_eq.mpr c17
    clear c17; by_cases c18 : 1 < (l0.length : Int)
    rotate_left
    ·rw [if_neg c18] at H
     exact absurd H (by simp)
    rw [if_pos c18] at H; have c18b0 : decide (1 < (l0.length : Int)) = true := decide_eq_true c18
    have c18b1 : decide (1 < l0.length) = true := decide_eq_true (by omega)
    clear c18; obtain rfl := Option.some.inj H
    have p178 : 0 ≤ (0 : Int) := (by omega)
    have q178 : 0 < (l0.length : Int) := aD
    obtain ⟨ad178, e178, hx178_0⟩ := Kd.at_int HR0.out 0 p178 q178; cases e178
    have qi178 : (0 < l0.length) = True := eq_true (by omega)
    (try rw [show ((0 : Int)).toNat = 0 from rfl] at hx178_0)
    (try rw [Addr.add_zero'] at hx178_0)
    replace p178 := eq_true p178; replace q178 := eq_true q178; have p181 : 0 ≤ (1 : Int) := (by omega)
    have q181 : 1 < (l0.length : Int) := aD
    obtain ⟨ad181, e181, hx181_0⟩ := Kd.at_int HR0.out 1 p181 q181; obtain rfl : ad178 = ad181 := (by injection e181)
    (try simp only [show (1 : Int).toNat = 1 from rfl, Nat.reduceMul, Nat.reduceEqDiff, Go.Addr.add, ↓reduceIte] at hx181_0)
    have qi181 : (1 < l0.length) = True := eq_true (by omega)
    (try rw [show ((1 : Int)).toNat = 1 from rfl] at hx181_0)
    replace p181 := eq_true p181; replace q181 := eq_true q181; go_wp2
    go_ret
    exact ⟨by first | rfl | (simp; done) | (simp [*]; done), by repeat (first | exact Drawn0.refl _ | apply Drawn0.step)⟩
   rw [if_neg c17] at H; have c17b0 : ((rd l0 0) == 240) = false := beq_eq_false_iff_ne.mpr c17
   have c17b1 : ((rd l0 0) != 240) = true := bne_iff_ne.mpr c17
   by_cases c19 : (rd l0 0) = 244
   rotate_left
   ·rw [if_neg c19] at H
    have c19b0 : ((rd l0 0) == 244) = false := beq_eq_false_iff_ne.mpr c19
    have c19b1 : ((rd l0 0) != 244) = true := bne_iff_ne.mpr c19
    obtain rfl := Option.some.inj H
    have p178 : 0 ≤ (0 : Int) := (by omega)
    have q178 : 0 < (l0.length : Int) := aD
    obtain ⟨ad178, e178, hx178_0⟩ := Kd.at_int HR0.out 0 p178 q178; cases e178
    have qi178 : (0 < l0.length) = True := eq_true (by omega)
    (try rw [show ((0 : Int)).toNat = 0 from rfl] at hx178_0)
    (try rw [Addr.add_zero'] at hx178_0)
    replace p178 := eq_true p178; replace q178 := eq_true q178; go_wp2
    go_ret
    exact ⟨by first | rfl | (simp; done) | (simp [*]; done), by repeat (first | exact Drawn0.refl _ | apply Drawn0.step)⟩
   rw [if_pos c19] at H; have c19b0 : ((rd l0 0) == 244) = true := beq_iff_eq.mpr c19
   have c19b1 : ((rd l0 0) != 244) = false := bne_eq_false_iff_eq.mpr c19
   clear c19; by_cases c20 : 1 < (l0.length : Int)
   rotate_left
   ·rw [if_neg c20] at H
    exact absurd H (by simp)
   rw [if_pos c20] at H; have c20b0 : decide (1 < (l0.length : Int)) = true := decide_eq_true c20
   have c20b1 : decide (1 < l0.length) = true := decide_eq_true (by omega)
   clear c20; obtain rfl := Option.some.inj H
   have p178 : 0 ≤ (0 : Int) := (by omega)
   have q178 : 0 < (l0.length : Int) := aD
   obtain ⟨ad178, e178, hx178_0⟩ := Kd.at_int HR0.out 0 p178 q178; cases e178
   have qi178 : (0 < l0.length) = True := eq_true (by omega)
   (try rw [show ((0 : Int)).toNat = 0 from rfl] at hx178_0)
   (try rw [Addr.add_zero'] at hx178_0)
   replace p178 := eq_true p178; replace q178 := eq_true q178; have p182 : 0 ≤ (1 : Int) := (by omega)
   have q182 : 1 < (l0.length : Int) := aD
   obtain ⟨ad182, e182, hx182_0⟩ := Kd.at_int HR0.out 1 p182 q182; obtain rfl : ad178 = ad182 := (by injection e182)
   (try simp only [show (1 : Int).toNat = 1 from rfl, Nat.reduceMul, Nat.reduceEqDiff, Go.Addr.add, ↓reduceIte] at hx182_0)
   have qi182 : (1 < l0.length) = True := eq_true (by omega)
   (try rw [show ((1 : Int)).toNat = 1 from rfl] at hx182_0)
   replace p182 := eq_true p182; replace q182 := eq_true q182; go_wp2
   go_ret
   exact ⟨by first | rfl | (simp; done) | (simp [*]; done), by repeat (first | exact Drawn0.refl _ | apply Drawn0.step)⟩
end Go.Proofs.Ytigajcipjklknaa.F
end
