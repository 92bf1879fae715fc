/- Each value of plain data that a call is handed reads as a Lean value of its kind: whole numbers, Bools, slices and structs, to any depth. -/
import Derived.Test.YtnppgmbhdomelaaWWords
import Derived.Deep.Slices
import Derived.ChangeArms
set_option linter.unusedVariables false
namespace Go.Proofs.Ytnppgmbhdomelaa.Open
open Go.RowKit Go.Proofs.YtnppgmbhdomelaaW.PrintWords Go.WideShapes

def Opens {α : Type} (P : Program) (t : TypeId) (d : Kd α) (wf : α → Prop) : Prop :=
  ∀ (H : Type) (enc : TypeId × Value → H) (W : World) (fuel : Nat) (cs : List Value) (x : DataW H × List MemPlace), DataW.trod enc P W 0 (fun _ => true) true fuel t cs = some x → ∃ a, d.K W a cs ∧ wf a
def OpensF {α : Type} (P : Program) (fs : List Field) (off tot : Nat) (d : Kd α) (wf : α → Prop) : Prop :=
  ∀ (H : Type) (enc : TypeId × Value → H) (W : World) (fuel : Nat) (cs : List Value), cs.length = tot → (∀ f ∈ fs, ∃ y, DataW.trod enc P W 0 (fun _ => true) true fuel f.type ((cs.drop f.offset).take (P.cellsOf f.type)) = some y) → ∃ a, d.K W a (cs.drop off) ∧ wf a
section
variable {P : Program} {t e : TypeId} {α β : Type} {d : Kd α} {wf : α → Prop}
theorem opens_int {k : IntKind} (ht : P.underlying t = some (.int k)) : Opens P t (Kd.int k) (fun x => (Lit.int k x).wf = true) := by
  intro H enc W fuel cs x h
  obtain ⟨n, rfl, _, hw⟩ := DataW.trod_int ht h
  exact ⟨n, rfl, hw⟩
theorem opens_bool (ht : P.underlying t = some .bool) : Opens P t Kd.bool (fun _ => True) := by
  intro H enc W fuel cs x h
  obtain ⟨b, rfl, _⟩ := DataW.trod_bool ht h
  exact ⟨b, rfl, trivial⟩
theorem choose_list {n : Nat} {p : Nat → α → Prop} (h : ∀ i, i < n → ∃ x, p i x) : ∃ l : List α, l.length = n ∧ ∀ i x, l[i]? = some x → p i x := by
  induction n with
  | zero => exact ⟨[], rfl, fun i x hx => by simp at hx⟩
  | succ n ih =>
    obtain ⟨l, hl, hp⟩ := ih (fun i hi => h i (by omega))
    obtain ⟨x, hx⟩ := h n (by omega)
    refine ⟨l ++ [x], by simp [hl], fun i y hy => ?_⟩
    by_cases q : i < n
    · rw [List.getElem?_append_left (by omega)] at hy; exact hp i y hy
    · rw [List.getElem?_append_right (by omega)] at hy
      have : i = n := by
        have := (List.getElem?_eq_some_iff.1 hy).1
        simp at this; omega
      subst this
      rw [hl, Nat.sub_self] at hy
      simp at hy; subst hy; exact hx
theorem opens_slice (ht : P.underlying t = some (.slice e)) (hs : P.cellsOf e = d.sz) (h : Opens P e d wf) : Opens P t (Kd.slice e d) (fun l => l.length ≤ maxLen ∧ ∀ x ∈ l, wf x) := by
  intro H enc W fuel cs x hx
  rcases Deep.open_slice ht hx with ⟨rfl, _⟩ | ⟨a, len, cap, m, n, D, Pl, rfl, _, hl, hm, hmm, _, hel⟩
  · exact ⟨[], ⟨none, 0, rfl, Nat.le_refl _, rfl, by simp, fun h => absurd h (Nat.lt_irrefl 0)⟩, by simp, fun x hx => by simp at hx⟩
  · have hmc : m = cap := by simpa using hmm
    subst hmc
    obtain ⟨l, hll, hp⟩ := choose_list (n := len) (p := fun i (x : α) => wf x ∧ ∃ c, c.length = d.sz ∧ d.K W x c ∧ ∀ k u, c[k]? = some u → W.cell? (a.add (i * d.sz + k)) = some u) (fun i hi => by
      obtain ⟨cs', h1, h2⟩ := hel i (by omega)
      obtain ⟨y, hk, hw⟩ := h H enc W n cs' _ h2
      obtain ⟨_, hlen, hcell⟩ := World.cells?_some h1
      rw [hs] at hlen hcell
      refine ⟨y, hw, cs', hlen, hk, fun k u hu => ?_⟩
      have hk' : k < d.sz := by rw [← hlen]; exact (List.getElem?_eq_some_iff.1 hu).1
      have := hcell k hk'
      rw [Deep.add_add] at this
      rw [this, hu])
    have hml : l.length ≤ maxLen := by omega
    refine ⟨l, ⟨some a, m, by rw [hll], by omega, rfl, by unfold maxLen at hml; omega, fun _ => ⟨a, rfl, fun j p hj => (hp j p hj).2⟩⟩, hml, fun x hx => ?_⟩
    obtain ⟨i, hi⟩ := List.getElem?_of_mem hx
    exact (hp i x hi).1
theorem opensF_one {f : Field} {off tot : Nat} (ho : f.offset = off) (hs : off + P.cellsOf f.type = tot) (h : Opens P f.type d wf) : OpensF P [f] off tot d wf := by
  intro H enc W fuel cs hl hf
  obtain ⟨y, hy⟩ := hf f (by simp)
  obtain ⟨a, hk, hw⟩ := h H enc W fuel _ y hy
  rw [ho, List.take_of_length_le (by simp; omega)] at hk
  exact ⟨a, hk, hw⟩
theorem opensF_cons {f : Field} {fs : List Field} {off tot s : Nat} {d' : Kd β} {wf' : β → Prop} (ho : f.offset = off) (hs : P.cellsOf f.type = s) (h : Opens P f.type d wf) (h' : OpensF P fs (off + s) tot d' wf') :
    OpensF P (f :: fs) off tot (Kd.pair d d') (fun x => wf x.1 ∧ wf' x.2) := by
  intro H enc W fuel cs hl hf
  obtain ⟨y, hy⟩ := hf f (by simp)
  obtain ⟨a, hk, hw⟩ := h H enc W fuel _ y hy
  obtain ⟨b, hk', hw'⟩ := h' H enc W fuel cs hl (fun g hg => hf g (by simp [hg]))
  rw [ho, hs] at hk
  exact ⟨(a, b), ⟨_, _, by rw [← List.drop_drop, List.take_append_drop], hk, hk'⟩, hw, hw'⟩
theorem opens_struct {fs : Array Field} {fl : List Field} {tot : Nat} (ht : P.underlying t = some (.struct fs)) (hfl : fs.toList = fl) (hs : P.cellsOf t = tot) (h : OpensF P fl 0 tot d wf) : Opens P t d wf := by
  intro H enc W fuel cs x hx
  obtain ⟨xs, n, _, _, hl, hxl, hf⟩ := DataW.trod_struct ht hx
  have := h H enc W n cs (by omega) (fun f hm => by
    rw [← hfl] at hm
    obtain ⟨i, hi⟩ := List.getElem?_of_mem hm
    have hi' : fs[i]? = some f := by simpa using hi
    have hlt : i < xs.length := by
      rw [hxl]
      have := (List.getElem?_eq_some_iff.1 hi).1
      simpa using this
    exact ⟨xs[i], by rw [hf i f hi', List.getElem?_eq_getElem hlt]⟩)
  simpa using this
theorem opens_iso {f : β → α} (g : α → β) (hg : ∀ x, f (g x) = x) (h : Opens P t d wf) : Opens P t (Kd.iso d f) (fun b => wf (f b)) := by
  intro H enc W fuel cs x hx
  obtain ⟨a, hk, hw⟩ := h H enc W fuel cs x hx
  exact ⟨g a, by show d.K W (f (g a)) cs; rw [hg]; exact hk, by show wf (f (g a)); rw [hg]; exact hw⟩
end
end Go.Proofs.Ytnppgmbhdomelaa.Open
