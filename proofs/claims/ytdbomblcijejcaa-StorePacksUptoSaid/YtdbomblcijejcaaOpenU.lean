/- Each value of plain data that a call is handed reads as a Lean value of its kind, and what that value counts is no more than the reading's bulk. -/
import Derived.Test.YtdbomblcijejcaaOpen
import Derived.Test.YtdbomblcijejcaaRows
set_option linter.unusedVariables false
namespace Go.Proofs.Ytdbomblcijejcaa.OpenU
open Go.RowKit Go.Proofs.YtdbomblcijejcaaW.PrintWords Go.WideShapes Go.Proofs.Ytdbomblcijejcaa.Open Go.Proofs.Ytdbomblcijejcaa.Rows

def OpensM {α : Type} (P : Program) (t : TypeId) (d : Kd α) (wf : α → Prop) (m : α → Nat) : Prop :=
  ∀ (H : Type) (enc : TypeId × Value → H) (W : World) (fuel : Nat) (cs : List Value) (x : DataW H × List MemPlace), DataW.trod enc P W 0 (fun _ => true) true fuel t cs = some x → ∃ a, d.K W a cs ∧ wf a ∧ m a ≤ uptoBulk x.1
def OpensFM {α : Type} (P : Program) (fs : List Field) (off tot : Nat) (d : Kd α) (wf : α → Prop) (m : α → Nat) : Prop :=
  ∀ (H : Type) (enc : TypeId × Value → H) (W : World) (fuel : Nat) (cs : List Value) (ys : List (DataW H × List MemPlace)), cs.length = tot → ys.length = fs.length → (∀ (i : Nat) (f : Field), fs[i]? = some f → DataW.trod enc P W 0 (fun _ => true) true fuel f.type ((cs.drop f.offset).take (P.cellsOf f.type)) = ys[i]?) → ∃ a, d.K W a (cs.drop off) ∧ wf a ∧ m a ≤ uptoBulkAll (ys.map (·.1))
theorem sumBulk {α H : Type} {m : α → Nat} : ∀ (l : List α) (e : List (DataW H)), l.length = e.length → (∀ (i : Nat) (x : α) (d : DataW H), l[i]? = some x → e[i]? = some d → m x ≤ uptoBulk d) → (l.map m).sum ≤ uptoBulkAll e
  | [], [], _, _ => Nat.le_refl _
  | [], _ :: _, h, _ => by simp at h
  | _ :: _, [], h, _ => by simp at h
  | x :: l, d :: e, h, hp => by
    have h0 := hp 0 x d rfl rfl
    have := sumBulk (m := m) l e (by simpa using h) (fun i y z h1 h2 => hp (i + 1) y z (by simpa using h1) (by simpa using h2))
    rw [List.map_cons, List.sum_cons, uptoBulkAll]
    omega
section
variable {P : Program} {t e : TypeId} {α β : Type} {d : Kd α} {wf : α → Prop} {m : α → Nat}
theorem openm_int {k : IntKind} (ht : P.underlying t = some (.int k)) : OpensM P t (Kd.int k) (fun x => (Lit.int k x).wf = true) (fun _ => 1) := by
  intro H enc W fuel cs x h
  obtain ⟨n, rfl, rfl, hw⟩ := DataW.trod_int ht h
  exact ⟨n, rfl, hw, Nat.le_refl _⟩
theorem openm_bool (ht : P.underlying t = some .bool) : OpensM P t Kd.bool (fun _ => True) (fun _ => 0) := by
  intro H enc W fuel cs x h
  obtain ⟨b, rfl, _⟩ := DataW.trod_bool ht h
  exact ⟨b, rfl, trivial, Nat.zero_le _⟩
theorem openm_slice (ht : P.underlying t = some (.slice e)) (hs : P.cellsOf e = d.sz) (h : OpensM P e d wf m) : OpensM P t (Kd.slice e d) (fun l => l.length ≤ maxLen ∧ ∀ x ∈ l, wf x) (fun l => (l.map m).sum + 1) := by
  intro H enc W fuel cs x hx
  rcases Deep.open_slice ht hx with ⟨rfl, rfl⟩ | ⟨a, len, cap, q, n, D, Pl, rfl, _, hl, hm, hmm, rfl, hel⟩
  · exact ⟨[], ⟨none, 0, rfl, Nat.le_refl _, rfl, by simp, fun h => absurd h (Nat.lt_irrefl 0)⟩, ⟨by simp, fun x hx => by simp at hx⟩, Nat.le_refl _⟩
  · have hmc : q = cap := by simpa using hmm
    subst hmc
    obtain ⟨l, hll, hp⟩ := choose_list (n := len) (p := fun i (x : α) => (wf x ∧ m x ≤ uptoBulk (D i)) ∧ ∃ c, c.length = d.sz ∧ d.K W x c ∧ ∀ k u, c[k]? = some u → W.cell? (a.add (i * d.sz + k)) = some u) (fun i hi => by
      obtain ⟨cs', h1, h2⟩ := hel i (by omega)
      obtain ⟨y, hk, hw, hmy⟩ := h H enc W n cs' _ h2
      obtain ⟨_, hlen, hcell⟩ := World.cells?_some h1
      rw [hs] at hlen hcell
      refine ⟨y, ⟨hw, hmy⟩, cs', hlen, hk, fun k u hu => ?_⟩
      have hk' : k < d.sz := by rw [← hlen]; exact (List.getElem?_eq_some_iff.1 hu).1
      have := hcell k hk'
      rw [Deep.add_add] at this
      rw [this, hu])
    have hml : l.length ≤ maxLen := by omega
    refine ⟨l, ⟨some a, q, by rw [hll], by omega, rfl, by unfold maxLen at hml; omega, fun _ => ⟨a, rfl, fun j p hj => (hp j p hj).2⟩⟩, ⟨hml, fun x hx => ?_⟩, ?_⟩
    · obtain ⟨i, hi⟩ := List.getElem?_of_mem hx
      exact (hp i x hi).1.1
    · have := sumBulk (m := m) l ((List.range len).map D) (by simp [hll]) (fun i x y h1 h2 => by
        have hi := (List.getElem?_eq_some_iff.1 h1).1
        rw [List.getElem?_map, List.getElem?_range (by omega)] at h2
        simp only [Option.map_some, Option.some.injEq] at h2
        subst h2
        exact (hp i x h1).1.2)
      show (l.map m).sum + 1 ≤ uptoBulkAll _ + uptoBulkAll _ + 1
      omega
theorem openmF_one {f : Field} {off tot : Nat} (ho : f.offset = off) (hs : off + P.cellsOf f.type = tot) (h : OpensM P f.type d wf m) : OpensFM P [f] off tot d wf m := by
  intro H enc W fuel cs ys hl hy hf
  obtain ⟨y, rfl⟩ : ∃ y, ys = [y] := by
    cases ys with
    | nil => simp at hy
    | cons y r => cases r with
      | nil => exact ⟨y, rfl⟩
      | cons _ _ => simp at hy
  have h0 := hf 0 f rfl
  obtain ⟨a, hk, hw, hm⟩ := h H enc W fuel _ y h0
  rw [ho, List.take_of_length_le (by simp; omega)] at hk
  refine ⟨a, hk, hw, ?_⟩
  show m a ≤ uptoBulk y.1 + 0
  omega
theorem openmF_cons {f : Field} {fs : List Field} {off tot s : Nat} {d' : Kd β} {wf' : β → Prop} {m' : β → Nat} (ho : f.offset = off) (hs : P.cellsOf f.type = s) (h : OpensM P f.type d wf m) (h' : OpensFM P fs (off + s) tot d' wf' m') :
    OpensFM P (f :: fs) off tot (Kd.pair d d') (fun x => wf x.1 ∧ wf' x.2) (fun x => m x.1 + m' x.2) := by
  intro H enc W fuel cs ys hl hy hf
  cases ys with
  | nil => simp at hy
  | cons y ys =>
    have h0 := hf 0 f rfl
    obtain ⟨a, hk, hw, hm⟩ := h H enc W fuel _ y h0
    obtain ⟨b, hk', hw', hm'⟩ := h' H enc W fuel cs ys hl (by simpa using hy) (fun i g hg => hf (i + 1) g (by simpa using hg))
    rw [ho, hs] at hk
    refine ⟨(a, b), ⟨_, _, by rw [← List.drop_drop, List.take_append_drop], hk, hk'⟩, ⟨hw, hw'⟩, ?_⟩
    show m a + m' b ≤ uptoBulk y.1 + uptoBulkAll (ys.map (·.1))
    omega
theorem openm_struct {fs : Array Field} {fl : List Field} {tot : Nat} (ht : P.underlying t = some (.struct fs)) (hfl : fs.toList = fl) (hs : P.cellsOf t = tot) (h : OpensFM P fl 0 tot d wf m) : OpensM P t d wf (fun x => m x + 1) := by
  intro H enc W fuel cs x hx
  obtain ⟨xs, n, _, rfl, hl, hxl, hf⟩ := DataW.trod_struct ht hx
  obtain ⟨a, hk, hw, hm⟩ := h H enc W n cs xs (by omega) (by rw [← hfl]; simpa using hxl) (fun i f hi => hf i f (by rw [← hfl] at hi; simpa using hi))
  refine ⟨a, by simpa using hk, hw, ?_⟩
  show m a + 1 ≤ uptoBulkAll _ + 1
  omega
theorem openm_iso {f : β → α} (g : α → β) (hg : ∀ x, f (g x) = x) (h : OpensM P t d wf m) : OpensM P t (Kd.iso d f) (fun b => wf (f b)) (fun b => m (f b)) := by
  intro H enc W fuel cs x hx
  obtain ⟨a, hk, hw, hm⟩ := h H enc W fuel cs x hx
  exact ⟨g a, by show d.K W (f (g a)) cs; rw [hg]; exact hk, by show wf (f (g a)); rw [hg]; exact hw, by show m (f (g a)) ≤ _; rw [hg]; exact hm⟩
end
end Go.Proofs.Ytdbomblcijejcaa.OpenU
