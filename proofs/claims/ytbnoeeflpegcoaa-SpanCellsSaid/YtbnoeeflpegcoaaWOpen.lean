-- words of this session's own: what a law's arguments, read as data, tell of the kinds
import Derived.Test.YtbnoeeflpegcoaaWFl
import Derived.Deep.Slices
import Derived.Deep.Fields
import Derived.SizedLaws
import Derived.ChangeArms
namespace Go.Proofs.YtbnoeeflpegcoaaW.PrintWords
open Go.ChangeShapes Go.WideShapes Go.Deep

/-- A value of type t that reads as data is told by the kind d, and what it tells meets G. -/
def Opens (P : Program) (t : TypeId) {α : Type} (d : Kd α) (G : α → Prop) : Prop :=
  ∀ (H : Type) (enc : TypeId × Value → H) (w : World) (base : Nat) (spare : Nat → Bool) (held : Bool) (n : Nat) (cs : List Value) (y : DataW H × List MemPlace),
    DataW.trod enc P w base spare held n t cs = some y → (∀ b ∈ y.1.weights P t, b ≤ reachBytes) → ∃ x, d.K w x cs ∧ G x
/-- The same of cells one behind the other, each of a type. -/
def OpensEach (P : Program) (ts : List TypeId) {α : Type} (d : Kd α) (G : α → Prop) : Prop :=
  ∀ (H : Type) (enc : TypeId × Value → H) (w : World) (base : Nat) (spare : Nat → Bool) (held : Bool) (n : Nat) (cs : List Value) (ys : List (DataW H × List MemPlace)),
    cs.length = ts.length → ys.length = ts.length → (∀ (i : Nat) t, ts[i]? = some t → ∃ c y, cs[i]? = some c ∧ ys[i]? = some y ∧ DataW.trod enc P w base spare held n t [c] = some y) →
    (∀ b ∈ DataW.weightsEach P ts (ys.map (·.1)), b ≤ reachBytes) → ∃ x, d.K w x cs ∧ G x
section
variable {P : Program} {t e : TypeId} {α β : Type} {d : Kd α} {d2 : Kd β} {G : α → Prop} {G2 : β → Prop}
theorem opens_int {k : IntKind} (hu : P.underlying t = some (.int k)) : Opens P t (Kd.int k) (fun x => (Lit.int k x).wf = true) := by
  intro H enc w base spare held n cs y h _
  obtain ⟨x, rfl, _, hw⟩ := DataW.trod_int hu h
  exact ⟨x, rfl, hw⟩
theorem opens_bool (hu : P.underlying t = some .bool) : Opens P t Kd.bool (fun _ => True) := by
  intro H enc w base spare held n cs y h _
  obtain ⟨x, rfl, _⟩ := DataW.trod_bool hu h
  exact ⟨x, rfl, trivial⟩
theorem opens_f64 (hu : P.underlying t = some (.float .f64)) : Opens P t Kd.f64 (fun x => (Lit.float .f64 x).wf = true) := by
  intro H enc w base spare held n cs y h _
  cases n with
  | zero => simp [DataW.trod] at h
  | succ n =>
    unfold DataW.trod at h
    rw [hu] at h
    split at h <;> simp_all
    rename_i e0
    obtain ⟨⟨e1, hw⟩, _⟩ := h
    subst e1
    subst e0
    exact ⟨_, rfl, hw⟩
theorem opens_slice {B : Nat} (hu : P.underlying t = some (.slice e)) (hB : P.bytesOf e = B) (hC : P.cellsOf e = d.sz) (o : Opens P e d G) : Opens P t (Kd.slice e d) (fun xs => xs.length * B ≤ 140737488351232 ∧ ∀ x ∈ xs, G x) := by
  intro H enc w base spare held n cs y h hw
  rcases open_slice hu h with ⟨rfl, _⟩ | ⟨a, len, cap, m, n', D, Pl, rfl, _, hl, hm, hmm, hx, hi⟩
  · exact ⟨[], ⟨none, 0, rfl, Nat.le_refl _, ⟨rfl, by simp, fun hp => absurd hp (Nat.lt_irrefl _)⟩⟩, by simp, fun x hx => by cases hx⟩
  · have hle : len ≤ m := by rw [hmm]; split <;> omega
    subst hx
    simp only [DataW.weights, hu, List.mem_cons, List.mem_append, List.length_map, List.length_range] at hw
    have hw0 := hw _ (.inl rfl)
    rw [hB] at hw0
    have hall : ∀ {l : List (DataW H)} {z : DataW H}, z ∈ l → ∀ b ∈ z.weights P e, b ∈ DataW.weightsAll P e l := by
      intro l z hz b hb
      induction l with
      | nil => cases hz
      | cons q l ih =>
        simp only [DataW.weightsAll, List.mem_append]
        rcases List.mem_cons.1 hz with rfl | hz
        · exact .inl hb
        · exact .inr (ih hz)
    have key : ∀ i, i < len → ∃ x cs', w.cells? base (a.add (i * P.cellsOf e)) (P.cellsOf e) = some cs' ∧ d.K w x cs' ∧ G x := by
      intro i hlt
      obtain ⟨cs', hc, ht⟩ := hi i (by omega)
      obtain ⟨x, hK, hG⟩ := o H enc w base spare held n' cs' (D i, Pl i) ht (fun b hb => hw b (.inr (.inl (hall (List.mem_map.2 ⟨i, List.mem_range.2 hlt, rfl⟩) b hb))))
      exact ⟨x, cs', hc, hK, hG⟩
    have build : ∀ m, m ≤ len → ∃ xs : List α, xs.length = m ∧ ∀ i x, xs[i]? = some x → ∃ cs', w.cells? base (a.add (i * P.cellsOf e)) (P.cellsOf e) = some cs' ∧ d.K w x cs' ∧ G x := by
      intro m
      induction m with
      | zero => exact fun _ => ⟨[], rfl, fun i x hx => by simp at hx⟩
      | succ m ih =>
        intro hm
        obtain ⟨xs, hxl, hxs⟩ := ih (by omega)
        obtain ⟨x, hx⟩ := key m (by omega)
        refine ⟨xs ++ [x], by simp [hxl], fun i z hz => ?_⟩
        rcases Nat.lt_or_ge i xs.length with hlt | hge
        · rw [List.getElem?_append_left hlt] at hz
          exact hxs i z hz
        · rw [List.getElem?_append_right hge] at hz
          have h0 : i = xs.length := by
            rcases Nat.eq_or_lt_of_le hge with h0 | h0
            · exact h0.symm
            · have : i - xs.length ≠ 0 := by omega
              obtain ⟨q, hq⟩ := Nat.exists_eq_succ_of_ne_zero this
              rw [hq] at hz; simp at hz
          subst h0
          simp at hz
          subst hz
          rw [hxl]
          exact hx
    obtain ⟨xs, hxl, hxs⟩ := build len (Nat.le_refl _)
    have hmax : maxLen = 9223372036854775807 := rfl
    refine ⟨xs, ⟨some a, cap, by rw [hxl], by omega, ⟨rfl, by omega, fun _ => ⟨a, rfl, fun j p hj => ?_⟩⟩⟩, ?_, fun x hx => ?_⟩
    · obtain ⟨cs', hc, hK, _⟩ := hxs j p hj
      refine ⟨cs', d.K_len hK, hK, fun i u hu => ?_⟩
      obtain ⟨_, hcl, hat⟩ := World.cells?_some hc
      have hil : i < cs'.length := (List.getElem?_eq_some_iff.1 hu).1
      have h1 := hat i (by omega)
      rw [← Go.Deep.add_add, ← hC, h1, hu]
    · have hb : reachBytes = 140737488351232 := rfl
      rw [hb] at hw0
      rw [hxl]
      exact Nat.le_trans (Nat.mul_le_mul_right _ (by omega)) hw0
    · obtain ⟨i, hi'⟩ := List.mem_iff_getElem?.1 hx
      obtain ⟨_, _, _, hG⟩ := hxs i x hi'
      exact hG
theorem opens_one (o : Opens P t d G) : OpensEach P [t] d G := by
  intro H enc w base spare held n cs ys hc hy h hw
  match cs, hc, ys, hy with
  | [c], _, [y], _ =>
    obtain ⟨c', y', h1, h2, h3⟩ := h 0 t rfl
    simp at h1 h2
    subst h1; subst h2
    exact o H enc w base spare held n [c] y h3 (fun b hb => hw b (by simp [DataW.weightsEach, hb]))
theorem opens_pair {ts : List TypeId} (o : Opens P t d G) (o2 : OpensEach P ts d2 G2) : OpensEach P (t :: ts) (Kd.pair d d2) (fun x => G x.1 ∧ G2 x.2) := by
  intro H enc w base spare held n cs ys hc hy h hw
  match cs, hc, ys, hy with
  | c :: cs, hc, y :: ys, hy =>
    obtain ⟨c', y', h1, h2, h3⟩ := h 0 t rfl
    simp at h1 h2
    subst h1; subst h2
    obtain ⟨x1, k1, g1⟩ := o H enc w base spare held n [c] y h3 (fun b hb => hw b (by simp [DataW.weightsEach, hb]))
    obtain ⟨x2, k2, g2⟩ := o2 H enc w base spare held n cs ys (by simpa using hc) (by simpa using hy) (fun i t' hi => by
      obtain ⟨c', y', q1, q2, q3⟩ := h (i + 1) t' (by simpa using hi)
      exact ⟨c', y', by simpa using q1, by simpa using q2, q3⟩) (fun b hb => hw b (by simp [DataW.weightsEach]; exact .inr hb))
    exact ⟨(x1, x2), ⟨[c], cs, rfl, k1, k2⟩, g1, g2⟩
theorem opens_struct {fs : Array Field} {ts : List TypeId} (hu : P.underlying t = some (.struct fs)) (hone : oneCellFields P fs = true) (hC : P.cellsOf t = fs.size) (hts : fs.toList.map (·.type) = ts) (f : β → α) (g : α → β) (hfg : ∀ x, f (g x) = x)
    (o : OpensEach P ts d G) : Opens P t (Kd.iso d f) (fun x => G (f x)) := by
  intro H enc w base spare held n cs y h hw
  obtain ⟨ys, n', hn', hy, hlen, hyl, hf⟩ := DataW.trod_struct hu h
  subst hy
  have hl : ts.length = fs.size := by rw [← hts]; simp
  have hw' : ∀ b ∈ DataW.weightsEach P ts (ys.map (·.1)), b ≤ reachBytes := by
    intro b hb
    refine hw b ?_
    simp only [DataW.weights, hu, hts]
    exact hb
  obtain ⟨x, k, gx⟩ := o H enc w base spare held n' cs ys (by omega) (by omega) (fun i t' hi => by
    rw [← hts, List.getElem?_map, Option.map_eq_some_iff] at hi
    obtain ⟨fl, hfl, rfl⟩ := hi
    have hfl' : fs[i]? = some fl := by simpa using hfl
    obtain ⟨ho, hk⟩ := hone_of hone i fl hfl'
    have hjl : i < fs.size := (Array.getElem?_eq_some_iff.1 hfl').1
    have h1 := hf i fl hfl'
    rw [ho, hk] at h1
    have hv : cs[i]? = some (cs[i]'(by omega)) := List.getElem?_eq_getElem (by omega)
    have hone' : (cs.drop i).take 1 = [cs[i]'(by omega)] := by
      rw [List.drop_eq_getElem_cons (by omega)]
      rfl
    rw [hone'] at h1
    have hys : ys[i]? = some (ys[i]'(by omega)) := List.getElem?_eq_getElem (by omega)
    exact ⟨_, _, hv, hys, h1.trans hys⟩) hw'
  exact ⟨g x, by show d.K w (f (g x)) cs; rw [hfg]; exact k, by show G (f (g x)); rw [hfg]; exact gx⟩
end
end Go.Proofs.YtbnoeeflpegcoaaW.PrintWords
