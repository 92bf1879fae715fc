/- The law BorderTells as a statement over numbers and lists alone: it holds under the bounds that the statement names. -/
import Derived.Test.YtkhmjehjhjhpkaaPBorderTellsx2
set_option linter.unusedVariables false
set_option linter.unusedSimpArgs false
namespace Go.Proofs.Ytkhmjehjhjhpkaa.Pure
open Go.RowKit Go.Proofs.Ytkhmjehjhjhpkaa.PBorderTells Go.Proofs.YtkhmjehjhjhpkaaW.PrintWords Go.Proofs.YtkhmjehjhjhpkaaW.PrintLast Go.Proofs.YtkhmjehjhjhpkaaW.PrintMore

/-! ### base: words for every pure text -/
theorem w64 {x : Int} (h0 : -9223372036854775808 ≤ x) (h1 : x ≤ 9223372036854775807) : wrap64 x = x := by unfold wrap64; omega
theorem Ev.pos {α : Type} {c : Prop} [Decidable c] {g f : Nat → Option α} {r : α} (h : c) (e : Ev g r) : Ev (fun k => if c then g k else f k) r := Ev.congr (fun k => by rw [if_pos h]) e
theorem Ev.neg {α : Type} {c : Prop} [Decidable c] {g f : Nat → Option α} {r : α} (h : ¬ c) (e : Ev f r) : Ev (fun k => if c then g k else f k) r := Ev.congr (fun k => by rw [if_neg h]) e
theorem Ev.val {α : Type} {r q : α} (h : r = q) : Ev (fun _ => some r) q := by subst h; exact Ev.now r
theorem rd_getElem {l : List Int} {i : Int} (h1 : i.toNat < l.length) : rd l i = l[i.toNat] := by simp [rd, List.getD_eq_getElem?_getD, List.getElem?_eq_getElem h1]
theorem drop_rd {l : List Int} {i : Int} (h0 : 0 ≤ i) (h1 : i < l.length) : l.drop i.toNat = rd l i :: l.drop (i + 1).toNat := by
  have h : i.toNat < l.length := by omega
  rw [rd_getElem h, List.drop_eq_getElem_cons h]; congr 2; omega
theorem take_rd {l : List Int} {i : Int} (h0 : 0 ≤ i) (h1 : i < l.length) : l.take (i + 1).toNat = l.take i.toNat ++ [rd l i] := by
  have h : i.toNat < l.length := by omega
  have e : (i + 1).toNat = i.toNat + 1 := by omega
  rw [rd_getElem h, e, List.take_succ_eq_append_getElem h]
theorem rd_drop (l : List Int) (n : Nat) (i : Int) (h0 : 0 ≤ i) : rd (l.drop n) i = rd l (i + n) := by
  have e : (i + n).toNat = n + i.toNat := by omega
  simp only [rd, List.getD_eq_getElem?_getD, List.getElem?_drop, e]
theorem rd_take (l : List Int) (n : Nat) (i : Int) (h0 : 0 ≤ i) (h1 : i < n) : rd (l.take n) i = rd l i := by
  simp only [rd, List.getD_eq_getElem?_getD]; rw [List.getElem?_take_of_lt (by omega)]
theorem drop_all {α : Type} (l : List α) (n : Nat) (h : l.length ≤ n) : l.drop n = [] := List.drop_eq_nil_of_le h
theorem dec_ne {a b : Int} {l m : List Int} (h : a ≠ b) : decide (a :: l = b :: m) = false := decide_eq_false (fun q => h (List.cons.inj q).1)
theorem Ev.no {p : Prop} [Decidable p] (h : ¬ p) : Ev (fun _ => some false) (decide p) := Ev.val (decide_eq_false h).symm
theorem Ev.yes {p : Prop} [Decidable p] (h : p) : Ev (fun _ => some true) (decide p) := Ev.val (decide_eq_true h).symm
theorem ext_rd {a b : List Int} (hl : a.length = b.length) (h : ∀ i : Int, 0 ≤ i → i < a.length → rd a i = rd b i) : a = b := by
  apply List.ext_getElem hl
  intro i h1 h2
  have := h i (by omega) (by omega)
  rwa [rd_getElem (by simpa using h1), rd_getElem (by simpa using h2)] at this
theorem wf_u8 {x : Int} (h : (Lit.int .u8 x).wf = true) : 0 ≤ x ∧ x ≤ 255 := by simpa [Lit.wf, IntKind.min, IntKind.max, IntKind.signed, IntKind.bits] using h
theorem wf_u32 {x : Int} (h : (Lit.int .u32 x).wf = true) : 0 ≤ x ∧ x ≤ 4294967295 := by simpa [Lit.wf, IntKind.min, IntKind.max, IntKind.signed, IntKind.bits] using h
theorem wf_i64 {x : Int} (h : (Lit.int .i64 x).wf = true) : -9223372036854775808 ≤ x ∧ x ≤ 9223372036854775807 := by simpa [Lit.wf, IntKind.min, IntKind.max, IntKind.signed, IntKind.bits] using h
theorem rd_mem {l : List Int} {i : Int} (h0 : 0 ≤ i) (h1 : i < l.length) : rd l i ∈ l := by
  rw [rd_getElem (by omega)]; exact List.getElem_mem _
theorem rd_u8 {l : List Int} (hw : ∀ x ∈ l, (Lit.int .u8 x).wf = true) {i : Int} (h0 : 0 ≤ i) (h1 : i < l.length) : 0 ≤ rd l i ∧ rd l i ≤ 255 := wf_u8 (hw _ (rd_mem h0 h1))
theorem tm {a b : Int} (h : 0 ≤ a) : Int.tmod a b = a % b := Int.tmod_eq_emod_of_nonneg h
theorem td {a b : Int} (h : 0 ≤ a) : Int.tdiv a b = a / b := Int.tdiv_eq_ediv_of_nonneg h

theorem rd_set_eq (l : List Int) (i : Int) (v : Int) (h0 : 0 ≤ i) (h1 : i < l.length) : rd (l.set i.toNat v) i = v := by
  simp [rd, List.getD_eq_getElem?_getD, List.getElem?_set, show i.toNat < l.length by omega]
theorem rd_set_ne (l : List Int) (i j : Int) (v : Int) (h0 : 0 ≤ i) (hj : 0 ≤ j) (h : j ≠ i) : rd (l.set i.toNat v) j = rd l j := by
  simp only [rd, List.getD_eq_getElem?_getD]
  rw [List.getElem?_set_ne (by omega)]
theorem rd_replicate (n : Nat) (v : Int) (j : Int) (h0 : 0 ≤ j) (h1 : j < n) : rd (List.replicate n v) j = v := by
  simp [rd, List.getD_eq_getElem?_getD, List.getElem?_replicate, show j.toNat < n by omega]
theorem rd_append_left (l m : List Int) (j : Int) (h0 : 0 ≤ j) (h1 : j < l.length) : rd (l ++ m) j = rd l j := by
  simp only [rd, List.getD_eq_getElem?_getD]
  rw [List.getElem?_append_left (by omega)]
theorem rd_append_last (l : List Int) (v : Int) (j : Int) (h : j = l.length) : rd (l ++ [v]) j = v := by
  subst h
  simp [rd, List.getD_eq_getElem?_getD]

/-! ### coppicerref_Bytes -/
theorem Bytes_l0 (a b : List Int) (hl : a.length = b.length) (hb : (a.length : Int) ≤ 4611686018427387904) (d : Nat) : ∀ i : Int, 0 ≤ i → i + d = a.length → Ev (fun k => coppicerref_Bytes.l0 k a b i) (decide (a.drop i.toNat = b.drop i.toNat)) := by
  induction d with
  | zero =>
    intro i h0 hd
    refine Ev.step (fun k => coppicerref_Bytes.l0.eq_2 _ _ _ k) ?_
    simp (disch := omega) only [if_pos, if_neg]
    exact Ev.val (by rw [List.drop_eq_nil_of_le (by omega), List.drop_eq_nil_of_le (by omega)]; simp)
  | succ d ih =>
    intro i h0 hd
    refine Ev.step (fun k => coppicerref_Bytes.l0.eq_2 _ _ _ k) ?_
    simp (disch := omega) only [if_pos, w64]
    rw [drop_rd h0 (by omega), drop_rd (l := b) h0 (by omega)]
    by_cases h : rd a i = rd b i
    · simp only [if_pos h]
      exact Ev.congr (fun _ => rfl) (by simpa [h] using ih (i + 1) (by omega) (by omega))
    · simp only [if_neg h]
      exact Ev.val (by simp [h])
theorem Bytes_ev (a b : List Int) (hb : (a.length : Int) ≤ 4611686018427387904) : Ev (fun k => coppicerref_Bytes.f k a b) (decide (a = b)) := by
  unfold coppicerref_Bytes.f
  by_cases hl : a.length = b.length
  · simp (disch := omega) only [if_pos]
    simpa using Bytes_l0 a b hl hb a.length 0 (by omega) (by omega)
  · simp (disch := omega) only [if_neg]
    exact Ev.val (by simp; intro h; exact hl (by rw [h]))

/-! ### coppicerref_Ints -/
theorem Ints_l0 (a b : List Int) (hl : a.length = b.length) (hb : (a.length : Int) ≤ 4611686018427387904) (d : Nat) : ∀ i : Int, 0 ≤ i → i + d = a.length → Ev (fun k => coppicerref_Ints.l0 k a b i) (decide (a.drop i.toNat = b.drop i.toNat)) := by
  induction d with
  | zero =>
    intro i h0 hd
    refine Ev.step (fun k => coppicerref_Ints.l0.eq_2 _ _ _ k) ?_
    simp (disch := omega) only [if_pos, if_neg]
    exact Ev.val (by rw [List.drop_eq_nil_of_le (by omega), List.drop_eq_nil_of_le (by omega)]; simp)
  | succ d ih =>
    intro i h0 hd
    refine Ev.step (fun k => coppicerref_Ints.l0.eq_2 _ _ _ k) ?_
    simp (disch := omega) only [if_pos, w64]
    rw [drop_rd h0 (by omega), drop_rd (l := b) h0 (by omega)]
    by_cases h : rd a i = rd b i
    · simp only [if_pos h]
      exact Ev.congr (fun _ => rfl) (by simpa [h] using ih (i + 1) (by omega) (by omega))
    · simp only [if_neg h]
      exact Ev.val (by simp [h])
theorem Ints_ev (a b : List Int) (hb : (a.length : Int) ≤ 4611686018427387904) : Ev (fun k => coppicerref_Ints.f k a b) (decide (a = b)) := by
  unfold coppicerref_Ints.f
  by_cases hl : a.length = b.length
  · simp (disch := omega) only [if_pos]
    simpa using Ints_l0 a b hl hb a.length 0 (by omega) (by omega)
  · simp (disch := omega) only [if_neg]
    exact Ev.val (by simp; intro h; exact hl (by rw [h]))

/-! ### border.next, border.borders -/
def Suf (w : List Int) (τ : Int → Int) (T k : Int) : Prop := 0 ≤ k ∧ k ≤ T ∧ k ≤ w.length ∧ ∀ q : Int, 0 ≤ q → q < k → rd w q = τ (T - k + q)
theorem Suf.fb {w : List Int} {τ : Int → Int} {T k j : Int} (h : Suf w τ T k) (hj : j ≤ k) : Suf w τ T j ↔ Suf w (rd w) k j := by
  obtain ⟨h0, h1, h2, h3⟩ := h
  constructor
  · rintro ⟨a, b, c, e⟩
    refine ⟨a, hj, c, fun q q0 q1 => ?_⟩
    rw [e q q0 q1, h3 (k - j + q) (by omega) (by omega)]; congr 1; omega
  · rintro ⟨a, b, c, e⟩
    refine ⟨a, by omega, c, fun q q0 q1 => ?_⟩
    rw [e q q0 q1, h3 (k - j + q) (by omega) (by omega)]; congr 1; omega
theorem Suf.ext {w : List Int} {τ : Int → Int} {T j : Int} (hj : 0 ≤ j) : Suf w τ (T + 1) (j + 1) ↔ Suf w τ T j ∧ j < w.length ∧ rd w j = τ T := by
  constructor
  · rintro ⟨a, b, c, e⟩
    refine ⟨⟨hj, by omega, by omega, fun q q0 q1 => ?_⟩, by omega, ?_⟩
    · rw [e q q0 (by omega)]; congr 1; omega
    · rw [e j hj (by omega)]; congr 1; omega
  · rintro ⟨⟨a, b, c, e⟩, f, g⟩
    refine ⟨by omega, by omega, by omega, fun q q0 q1 => ?_⟩
    by_cases p : q < j
    · rw [e q q0 p]; congr 1; omega
    · have : q = j := by omega
      subst this
      rw [g]; congr 1; omega
/-- the longest proper border of the first m -/
def IsB (w : List Int) (m b : Int) : Prop := Suf w (rd w) m b ∧ b < m ∧ ∀ j, j < m → Suf w (rd w) m j → j ≤ b
theorem IsB.uniq {w : List Int} {m b b' : Int} (h : IsB w m b) (h' : IsB w m b') : b = b' := Int.le_antisymm (h'.2.2 b h.2.1 h.1) (h.2.2 b' h'.2.1 h'.1)
theorem next_ev (w known : List Int) (hn : w.length ≤ 60) (hw : 0 < w.length) (τ : Int → Int) (T : Int) (hT : 0 ≤ T) (hk : ∀ m : Int, 1 ≤ m → m ≤ known.length → IsB w m (rd known (m - 1))) (hkl : known.length ≤ w.length) (d : Nat) :
    ∀ k : Int, k ≤ d → Suf w τ T k → k ≤ known.length → (∀ j, Suf w τ (T + 1) j → j ≤ k + 1) → ∃ r, Ev (fun q => border_next.f q w known k (τ T)) r ∧ Suf w τ (T + 1) r ∧ ∀ j, Suf w τ (T + 1) j → j ≤ r := by
  unfold border_next.f
  have hit : ∀ k, Suf w τ T k → k < w.length → rd w k = τ T → (∀ j, Suf w τ (T + 1) j → j ≤ k + 1) → Suf w τ (T + 1) (k + 1) ∧ ∀ j, Suf w τ (T + 1) j → j ≤ k + 1 := fun k h1 h2 h3 h4 => ⟨(Suf.ext h1.1).2 ⟨h1, h2, h3⟩, h4⟩
  induction d with
  | zero =>
    intro k hd hs hkk hmax
    have k0 : k = 0 := by have := hs.1; omega
    subst k0
    by_cases e : rd w 0 = τ T
    · refine ⟨1, Ev.step (fun k => border_next.l0.eq_2 _ _ _ _ k) ?_, hit 0 hs (by omega) e hmax⟩
      simp (disch := omega) only [if_pos e, if_pos, if_neg, w64]; exact Ev.now _
    · refine ⟨0, Ev.step (fun k => border_next.l0.eq_2 _ _ _ _ k) ?_, ⟨by omega, by omega, by omega, fun q q0 q1 => by omega⟩, ?_⟩
      · simp (disch := omega) only [if_neg e, if_pos, if_neg, w64]; exact Ev.now _
      · intro j hj
        have h1 := hmax j hj
        by_cases p : j ≤ 0
        · exact p
        · have : j = 0 + 1 := by omega
          subst this
          exact absurd ((Suf.ext (by omega)).1 hj).2.2 e
  | succ d ih =>
    intro k hd hs hkk hmax
    have back : 1 ≤ k → (k = w.length ∨ rd w k ≠ τ T) → ∃ r, Ev (fun q => border_next.l0 q w known (rd known (k - 1)) (τ T)) r ∧ Suf w τ (T + 1) r ∧ ∀ j, Suf w τ (T + 1) j → j ≤ r := by
      intro k1 hne
      obtain ⟨b1, b2, b3⟩ := hk k k1 hkk
      refine ih (rd known (k - 1)) (by omega) ((hs.fb (by omega)).2 b1) (by omega) ?_
      intro j hj
      by_cases p : j ≤ 0
      · have := b1.1; omega
      · have e : j = (j - 1) + 1 := by omega
        rw [e] at hj
        obtain ⟨c1, c2, c3⟩ := (Suf.ext (by omega)).1 hj
        rw [← e] at hj
        have := hmax j hj
        have hlt : j - 1 < k := by
          by_cases q : j - 1 = k
          · rcases hne with h | h
            · omega
            · rw [q] at c3; exact absurd c3 h
          · omega
        have := b3 (j - 1) hlt ((hs.fb (by omega)).1 c1)
        omega
    by_cases kn : k = w.length
    · obtain ⟨r, hr, h⟩ := back (by omega) (.inl kn)
      refine ⟨r, Ev.step (fun k => border_next.l0.eq_2 _ _ _ _ k) ?_, h⟩
      simp (disch := omega) only [if_pos, w64]; exact hr
    · have k0 := hs.1
      have k2 := hs.2.2.1
      by_cases e : rd w k = τ T
      · refine ⟨k + 1, Ev.step (fun k => border_next.l0.eq_2 _ _ _ _ k) ?_, hit k hs (by omega) e hmax⟩
        by_cases kp : k > 0
        · simp (disch := omega) only [if_pos e, if_neg kn, if_pos kp, if_pos, w64]; exact Ev.now _
        · simp (disch := omega) only [if_pos e, if_neg kn, if_neg kp, if_pos, w64]; exact Ev.now _
      · by_cases kp : k > 0
        · obtain ⟨r, hr, h⟩ := back (by omega) (.inr e)
          refine ⟨r, Ev.step (fun k => border_next.l0.eq_2 _ _ _ _ k) ?_, h⟩
          simp (disch := omega) only [if_neg e, if_neg kn, if_pos kp, if_pos, w64]; exact hr
        · refine ⟨k, Ev.step (fun k => border_next.l0.eq_2 _ _ _ _ k) ?_, ⟨by omega, by omega, by omega, fun q q0 q1 => by omega⟩, ?_⟩
          · simp (disch := omega) only [if_neg e, if_neg kn, if_neg kp, if_pos, w64]; exact Ev.now _
          · intro j hj
            have h1 := hmax j hj
            by_cases p : j ≤ k
            · exact p
            · have : j = k + 1 := by omega
              subst this
              exact absurd ((Suf.ext k0).1 hj).2.2 e
def AllB (w known : List Int) : Prop := ∀ m : Int, 1 ≤ m → m ≤ known.length → IsB w m (rd known (m - 1))
theorem borders_l0 (w : List Int) (hn : w.length ≤ 60) (d : Nat) : ∀ (i : Int) (known : List Int), 0 ≤ i → i + d = w.length → (known.length : Int) = i → AllB w known →
    ∃ l, l.length = w.length ∧ AllB w l ∧ Ev (fun k => border_borders.l0 k w known w (w.length : Int) i) l := by
  induction d with
  | zero =>
    intro i known h0 hd hl hk
    refine ⟨known, by omega, hk, Ev.step (fun k => border_borders.l0.eq_2 _ _ _ _ _ k) ?_⟩
    simp (disch := omega) only [if_neg]; exact Ev.now _
  | succ d ih =>
    intro i known h0 hd hl hk
    have more : ∀ b, IsB w (i + 1) b → AllB w (known ++ [b]) := by
      intro b hb m m0 m1
      by_cases p : m ≤ known.length
      · rw [rd_append_left _ _ _ (by omega) (by omega)]; exact hk m m0 p
      · simp at m1
        have : m = i + 1 := by omega
        subst this
        rw [rd_append_last _ _ _ (by omega)]; exact hb
    by_cases hi : i = 0
    · subst hi
      obtain ⟨l, h1, h2, h3⟩ := ih 1 (known ++ [0]) (by omega) (by omega) (by simp; omega) (more 0 ⟨⟨by omega, by omega, by omega, fun q q0 q1 => by omega⟩, by omega, fun j hj _ => by omega⟩)
      refine ⟨l, h1, h2, Ev.step (fun k => border_borders.l0.eq_2 _ _ _ _ _ k) ?_⟩
      simp (disch := omega) only [if_pos, w64]
      exact h3
    · obtain ⟨b1, b2, b3⟩ := hk i (by omega) (by omega)
      have tr : ∀ j m : Int, 0 ≤ m → j ≤ m → (Suf w (fun q => rd w (q + 1)) m j ↔ Suf w (rd w) (m + 1) j) := by
        intro j m hm hj
        constructor
        · rintro ⟨a, b, c, e⟩
          exact ⟨a, by omega, c, fun q q0 q1 => (e q q0 q1).trans (by show rd w (m - j + q + 1) = _; congr 1; omega)⟩
        · rintro ⟨a, b, c, e⟩
          exact ⟨a, hj, c, fun q q0 q1 => (e q q0 q1).trans (by show _ = rd w (m - j + q + 1); congr 1; omega)⟩
      obtain ⟨r, hr, hs, hmax⟩ := next_ev w known hn (by omega) (fun q => rd w (q + 1)) (i - 1) (by omega) hk (by omega) (rd known (i - 1)).toNat (rd known (i - 1)) (by omega) ((tr _ (i - 1) (by omega) (by omega)).2 (by rw [show i - 1 + 1 = i by omega]; exact b1)) (by omega) (by
        intro j hj
        by_cases p : j ≤ 0
        · have := b1.1; omega
        · have e : j = (j - 1) + 1 := by omega
          rw [e] at hj
          obtain ⟨c1, c2, c3⟩ := (Suf.ext (by omega)).1 hj
          have q := c1.2.1
          have := b3 (j - 1) (by omega) (by have := (tr (j - 1) (i - 1) (by omega) q).1 c1; rwa [show i - 1 + 1 = i by omega] at this)
          omega)
      rw [show i - 1 + 1 = i by omega] at hs hmax
      have e : rd w (i - 1 + 1) = rd w i := by congr 1; omega
      rw [e] at hr
      have hb : IsB w (i + 1) r := ⟨(tr r i h0 hs.2.1).1 hs, by have := hs.2.1; omega, fun j hj hjs => hmax j ((tr j i h0 (by omega)).2 hjs)⟩
      obtain ⟨l, h1, h2, h3⟩ := ih (i + 1) (known ++ [r]) (by omega) (by omega) (by simp; omega) (more r hb)
      refine ⟨l, h1, h2, Ev.step (fun k => border_borders.l0.eq_2 _ _ _ _ _ k) ?_⟩
      simp (disch := omega) only [if_pos, if_neg hi, w64]
      refine Ev.bind hr ?_
      exact h3
theorem borders_ev (w : List Int) (hn : w.length ≤ 60) : ∃ l, l.length = w.length ∧ AllB w l ∧ Ev (fun k => border_borders.f k w) l := by
  unfold border_borders.f
  exact borders_l0 w hn w.length 0 [] (by omega) (by omega) (by simp) (by intro m m0 m1; simp at m1; omega)

theorem border_l0 (w : List Int) (hn : w.length ≤ 60) (d : Nat) : ∀ k : Int, k ≤ d → 0 ≤ k → k < w.length → (∀ j : Int, j < w.length → Suf w (rd w) w.length j → j ≤ k) →
    ∃ b, IsB w w.length b ∧ Ev (fun q => coppicerref_Border.l0 q w k) b := by
  induction d with
  | zero =>
    intro k hd h0 h1 hmax
    refine ⟨0, ⟨⟨by omega, by omega, by omega, fun q q0 q1 => by omega⟩, by omega, fun j a b => by have := hmax j a b; omega⟩, Ev.step (fun k => coppicerref_Border.l0.eq_2 _ _ k) ?_⟩
    simp (disch := omega) only [if_neg]; exact Ev.now _
  | succ d ih =>
    intro k hd h0 h1 hmax
    by_cases hk : k = 0
    · refine ⟨0, ⟨⟨by omega, by omega, by omega, fun q q0 q1 => by omega⟩, by omega, fun j a b => by have := hmax j a b; omega⟩, Ev.step (fun k => coppicerref_Border.l0.eq_2 _ _ k) ?_⟩
      simp (disch := omega) only [if_neg]; exact Ev.now _
    have key : w.take k.toNat = w.drop ((w.length : Int) - k).toNat ↔ Suf w (rd w) w.length k := by
      constructor
      · intro e
        refine ⟨h0, by omega, by omega, fun q q0 q1 => ?_⟩
        have := congrArg (fun l => rd l q) e
        simp only [rd_take w k.toNat q q0 (by omega), rd_drop w _ q q0] at this
        rw [this]; congr 1; omega
      · rintro ⟨a, b, c, e⟩
        refine ext_rd (by simp; omega) (fun q q0 q1 => ?_)
        simp at q1
        rw [rd_take w k.toNat q q0 (by omega), rd_drop w _ q q0, e q q0 (by omega)]; congr 1; omega
    by_cases hs : Suf w (rd w) w.length k
    · refine ⟨k, ⟨hs, h1, hmax⟩, Ev.step (fun k => coppicerref_Border.l0.eq_2 _ _ k) ?_⟩
      simp (disch := omega) only [if_pos, w64]
      refine Ev.bind (Bytes_ev _ _ (by simp; omega)) ?_
      simp only [key.2 hs, decide_true, if_true]; exact Ev.now _
    · obtain ⟨b, hb, hE⟩ := ih (k - 1) (by omega) (by omega) (by omega) (by
        intro j a b
        have := hmax j a b
        by_cases p : j = k
        · subst p; exact absurd b hs
        · omega)
      refine ⟨b, hb, Ev.step (fun k => coppicerref_Border.l0.eq_2 _ _ k) ?_⟩
      simp (disch := omega) only [if_pos, w64]
      refine Ev.bind (Bytes_ev _ _ (by simp; omega)) ?_
      simp only [show ¬ (w.take k.toNat = w.drop ((w.length : Int) - k).toNat) from fun e => hs (key.1 e), decide_false, Bool.false_eq_true, if_false]
      exact hE
theorem IsB_take (w : List Int) (m b : Int) (h0 : 0 ≤ m) (h1 : m ≤ w.length) : IsB (w.take m.toNat) m b ↔ IsB w m b := by
  have hl : ((w.take m.toNat).length : Int) = m := by simp; omega
  have e : ∀ j : Int, j < m → (Suf (w.take m.toNat) (rd (w.take m.toNat)) m j ↔ Suf w (rd w) m j) := by
    intro j hj
    constructor
    · rintro ⟨a, b, c, e⟩
      refine ⟨a, b, by omega, fun q q0 q1 => ?_⟩
      have := e q q0 q1
      rwa [rd_take w _ q q0 (by omega), rd_take w _ _ (by omega) (by omega)] at this
    · rintro ⟨a, b, c, e⟩
      refine ⟨a, b, by omega, fun q q0 q1 => ?_⟩
      rw [rd_take w _ q q0 (by omega), rd_take w _ _ (by omega) (by omega)]
      exact e q q0 q1
  constructor
  · rintro ⟨a, b, c⟩; exact ⟨(e _ b).1 a, b, fun j x y => c j x ((e j x).2 y)⟩
  · rintro ⟨a, b, c⟩; exact ⟨(e _ b).2 a, b, fun j x y => c j x ((e j x).1 y)⟩
theorem Border_ev (w : List Int) (hn : w.length ≤ 60) (hw : 0 < w.length) : ∃ b, IsB w w.length b ∧ Ev (fun q => coppicerref_Border.f q w) b := by
  unfold coppicerref_Border.f
  simp (disch := omega) only [w64]
  exact border_l0 w hn w.length (w.length - 1) (by omega) (by omega) (by omega) (fun j a _ => by omega)
theorem tells_l0 (w : List Int) (hn : w.length ≤ 60) (l : List Int) (hl : l.length = w.length) (hA : AllB w l) (d : Nat) : ∀ (i : Int) (m : List Int), 1 ≤ i → i + d = w.length + 1 → (m.length : Int) = i - 1 → AllB w m →
    Ev (fun k => coppicerlaw_BorderTells.l0 k w l 0 m i) true := by
  induction d with
  | zero =>
    intro i m h0 hd hm hB
    refine Ev.step (fun k => coppicerlaw_BorderTells.l0.eq_2 _ _ _ _ _ k) ?_
    simp (disch := omega) only [if_neg, if_true]
    refine Ev.bind (Ints_ev _ _ (by omega)) (Ev.val ?_)
    have : l = m := ext_rd (by omega) (fun j j0 j1 => by
      have a := hA (j + 1) (by omega) (by omega)
      have b := hB (j + 1) (by omega) (by omega)
      rw [show j + 1 - 1 = j by omega] at a b
      exact a.uniq b)
    simp [this]
  | succ d ih =>
    intro i m h0 hd hm hB
    have hl' : ((w.take i.toNat).length : Int) = i := by simp; omega
    obtain ⟨b, hb, hE⟩ := Border_ev (w.take i.toNat) (by omega) (by omega)
    rw [hl'] at hb
    have hb' := (IsB_take w i b (by omega) (by omega)).1 hb
    refine Ev.step (fun k => coppicerlaw_BorderTells.l0.eq_2 _ _ _ _ _ k) ?_
    simp (disch := omega) only [if_pos, w64]
    refine Ev.bind hE ?_
    refine ih (i + 1) (m ++ [b]) (by omega) (by omega) (by simp; omega) ?_
    intro q q0 q1
    by_cases p : q ≤ m.length
    · rw [rd_append_left _ _ _ (by omega) (by omega)]; exact hB q q0 p
    · simp at q1
      have : q = i := by omega
      subst this
      rw [rd_append_last _ _ _ (by omega)]; exact hb'
theorem BorderTells : coppicerlaw_BorderTells.Pure := by
  intro w hm hs hw
  refine Ev.rounds (g := fun k => coppicerlaw_BorderTells.f k w) ?_
  unfold coppicerlaw_BorderTells.f border_Borders.f
  by_cases h : (w.length : Int) > 60
  · refine Ev.bind (a := ([], 1)) ?_ ?_
    · simp only [h, if_true]; exact Ev.now _
    · simp only [h, if_true]; exact Ev.val rfl
  · obtain ⟨l, hl, hA, hE⟩ := borders_ev w (by omega)
    refine Ev.bind (a := (l, 0)) ?_ ?_
    · simp only [h, if_false]; exact Ev.bind hE (Ev.now _)
    · simp only [h, if_false]
      exact tells_l0 w (by omega) l hl hA w.length 1 [] (by omega) (by omega) (by simp) (by intro m m0 m1; simp at m1; omega)

end Go.Proofs.Ytkhmjehjhjhpkaa.Pure
