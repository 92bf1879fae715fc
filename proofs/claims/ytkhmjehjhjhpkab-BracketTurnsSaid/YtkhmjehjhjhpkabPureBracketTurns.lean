/- The law BracketTurns as a statement over numbers and lists alone: it holds under the bounds that the statement names. -/
import Derived.Test.YtkhmjehjhjhpkabStatBracketTurns
set_option linter.unusedVariables false
set_option linter.unusedSimpArgs false
namespace Go.Proofs.Ytkhmjehjhjhpkab.Pure
open Go.RowKit Go.Proofs.Ytkhmjehjhjhpkab.PBracketTurns Go.Proofs.YtkhmjehjhjhpkabW.PrintWords Go.Proofs.YtkhmjehjhjhpkabW.PrintLast Go.Proofs.YtkhmjehjhjhpkabW.PrintMore

/-! ### base: words for every pure text -/
theorem w64 {x : Int} (h0 : -9223372036854775808 ≤ x) (h1 : x ≤ 9223372036854775807) : wrap64 x = x := by unfold wrap64; omega
theorem Ev.pos {α : Type} {c : Prop} [Decidable c] {g f : Nat → Option α} {r : α} (h : c) (e : Ev g r) : Ev (fun k => if c then g k else f k) r := Ev.congr (fun k => by rw [if_pos h]) e
theorem Ev.neg {α : Type} {c : Prop} [Decidable c] {g f : Nat → Option α} {r : α} (h : ¬ c) (e : Ev f r) : Ev (fun k => if c then g k else f k) r := Ev.congr (fun k => by rw [if_neg h]) e
theorem Ev.val {α : Type} {r q : α} (h : r = q) : Ev (fun _ => some r) q := by subst h; exact Ev.now r
theorem rd_getElem {l : List Int} {i : Int} (h1 : i.toNat < l.length) : rd l i = l[i.toNat] := by simp [rd, List.getD_eq_getElem?_getD, List.getElem?_eq_getElem h1]
theorem drop_rd {l : List Int} {i : Int} (h0 : 0 ≤ i) (h1 : i < l.length) : l.drop i.toNat = rd l i :: l.drop (i + 1).toNat := by
  have h : i.toNat < l.length := by omega
  rw [rd_getElem h, List.drop_eq_getElem_cons h]; congr 2; omega
theorem take_rd {l : List Int} {i : Int} (h0 : 0 ≤ i) (h1 : i < l.length) : l.take (i + 1).toNat = l.take i.toNat ++ [rd l i] := by
  have h : i.toNat < l.length := by omega
  have e : (i + 1).toNat = i.toNat + 1 := by omega
  rw [rd_getElem h, e, List.take_succ_eq_append_getElem h]
theorem rd_drop (l : List Int) (n : Nat) (i : Int) (h0 : 0 ≤ i) : rd (l.drop n) i = rd l (i + n) := by
  have e : (i + n).toNat = n + i.toNat := by omega
  simp only [rd, List.getD_eq_getElem?_getD, List.getElem?_drop, e]
theorem rd_take (l : List Int) (n : Nat) (i : Int) (h0 : 0 ≤ i) (h1 : i < n) : rd (l.take n) i = rd l i := by
  simp only [rd, List.getD_eq_getElem?_getD]; rw [List.getElem?_take_of_lt (by omega)]
theorem drop_all {α : Type} (l : List α) (n : Nat) (h : l.length ≤ n) : l.drop n = [] := List.drop_eq_nil_of_le h
theorem dec_ne {a b : Int} {l m : List Int} (h : a ≠ b) : decide (a :: l = b :: m) = false := decide_eq_false (fun q => h (List.cons.inj q).1)
theorem Ev.no {p : Prop} [Decidable p] (h : ¬ p) : Ev (fun _ => some false) (decide p) := Ev.val (decide_eq_false h).symm
theorem Ev.yes {p : Prop} [Decidable p] (h : p) : Ev (fun _ => some true) (decide p) := Ev.val (decide_eq_true h).symm
theorem ext_rd {a b : List Int} (hl : a.length = b.length) (h : ∀ i : Int, 0 ≤ i → i < a.length → rd a i = rd b i) : a = b := by
  apply List.ext_getElem hl
  intro i h1 h2
  have := h i (by omega) (by omega)
  rwa [rd_getElem (by simpa using h1), rd_getElem (by simpa using h2)] at this
theorem wf_u8 {x : Int} (h : (Lit.int .u8 x).wf = true) : 0 ≤ x ∧ x ≤ 255 := by simpa [Lit.wf, IntKind.min, IntKind.max, IntKind.signed, IntKind.bits] using h
theorem wf_u32 {x : Int} (h : (Lit.int .u32 x).wf = true) : 0 ≤ x ∧ x ≤ 4294967295 := by simpa [Lit.wf, IntKind.min, IntKind.max, IntKind.signed, IntKind.bits] using h
theorem wf_i64 {x : Int} (h : (Lit.int .i64 x).wf = true) : -9223372036854775808 ≤ x ∧ x ≤ 9223372036854775807 := by simpa [Lit.wf, IntKind.min, IntKind.max, IntKind.signed, IntKind.bits] using h
theorem rd_mem {l : List Int} {i : Int} (h0 : 0 ≤ i) (h1 : i < l.length) : rd l i ∈ l := by
  rw [rd_getElem (by omega)]; exact List.getElem_mem _
theorem rd_u8 {l : List Int} (hw : ∀ x ∈ l, (Lit.int .u8 x).wf = true) {i : Int} (h0 : 0 ≤ i) (h1 : i < l.length) : 0 ≤ rd l i ∧ rd l i ≤ 255 := wf_u8 (hw _ (rd_mem h0 h1))
theorem tm {a b : Int} (h : 0 ≤ a) : Int.tmod a b = a % b := Int.tmod_eq_emod_of_nonneg h
theorem td {a b : Int} (h : 0 ≤ a) : Int.tdiv a b = a / b := Int.tdiv_eq_ediv_of_nonneg h

/-! ### brackets: bracket_is, coppicerref_Closed -/
theorem rb_getElem {l : List Bool} {i : Int} (h1 : i.toNat < l.length) : rdOf false l i = l[i.toNat] := by simp [rdOf, List.getD_eq_getElem?_getD, List.getElem?_eq_getElem h1]
theorem drop_rb {l : List Bool} {i : Int} (h0 : 0 ≤ i) (h1 : i < l.length) : l.drop i.toNat = rdOf false l i :: l.drop (i + 1).toNat := by
  have h : i.toNat < l.length := by omega
  rw [rb_getElem h, List.drop_eq_getElem_cons h]; congr 2; omega
theorem take_rb {l : List Bool} {i : Int} (h0 : 0 ≤ i) (h1 : i < l.length) : l.take (i + 1).toNat = l.take i.toNat ++ [rdOf false l i] := by
  have h : i.toNat < l.length := by omega
  have e : (i + 1).toNat = i.toNat + 1 := by omega
  rw [rb_getElem h, e, List.take_succ_eq_append_getElem h]

def psum : List Bool → Int
  | [] => 0
  | true :: l => psum l + 1
  | false :: l => psum l - 1
theorem psum_append (a b : List Bool) : psum (a ++ b) = psum a + psum b := by
  induction a with
  | nil => simp [psum]
  | cons x a ih => cases x <;> simp only [List.cons_append, psum, ih] <;> omega
theorem psum_bd (l : List Bool) : -(l.length : Int) ≤ psum l ∧ psum l ≤ l.length := by
  induction l with
  | nil => simp [psum]
  | cons x a ih => cases x <;> simp only [psum, List.length_cons] <;> omega
/-- the sum ahead of place i -/
def pre (l : List Bool) (i : Int) : Int := psum (l.take i.toNat)
theorem pre_bd (l : List Bool) (i : Int) : -(l.length : Int) ≤ pre l i ∧ pre l i ≤ l.length := by
  have := psum_bd (l.take i.toNat)
  have h : (l.take i.toNat).length ≤ l.length := by simp; omega
  unfold pre; omega
theorem pre_step (l : List Bool) (i : Int) (h0 : 0 ≤ i) (h1 : i < l.length) : pre l (i + 1) = if rdOf false l i = true then pre l i + 1 else pre l i - 1 := by
  unfold pre
  rw [take_rb h0 h1, psum_append]
  cases rdOf false l i <;> simp [psum] <;> omega
theorem pre_zero (l : List Bool) : pre l 0 = 0 := rfl
theorem pre_all (l : List Bool) : pre l l.length = psum l := by unfold pre; simp
theorem deep_l0 (l : List Bool) (hn : l.length ≤ 100) (c : Nat) : ∀ i : Int, 0 ≤ i → i + c = l.length → Ev (fun k => coppicerref_Deep.l0 k (pre l i) l (l.length : Int) i) (psum l) := by
  induction c with
  | zero =>
    intro i h0 hc
    refine Ev.step (fun k => coppicerref_Deep.l0.eq_2 _ _ _ _ k) ?_
    simp (disch := omega) only [if_neg]
    exact Ev.val (by rw [show i = (l.length : Int) by omega, pre_all])
  | succ c ih =>
    intro i h0 hc
    have hb := pre_bd l i
    have hs := pre_step l i h0 (by omega)
    have r := ih (i + 1) (by omega) (by omega)
    refine Ev.step (fun k => coppicerref_Deep.l0.eq_2 _ _ _ _ k) ?_
    cases hv : rdOf false l i with
    | true =>
      rw [hv, if_pos rfl] at hs
      rw [hs] at r
      simp (disch := omega) only [if_pos, w64]; exact r
    | false =>
      rw [hv, if_neg (by simp)] at hs
      rw [hs] at r
      simp only [Bool.false_eq_true, if_false]
      simp (disch := omega) only [if_pos (show i < (l.length : Int) by omega), if_pos (show 0 ≤ i by omega), w64]; exact r
theorem above_l0 (l : List Bool) (hn : l.length ≤ 100) (h : ∀ j : Int, 1 ≤ j → j ≤ l.length → 1 ≤ pre l j) (c : Nat) : ∀ i : Int, 0 ≤ i → i + c = l.length → Ev (fun k => coppicerref_Above.l0 k (pre l i) l (l.length : Int) i) true := by
  induction c with
  | zero =>
    intro i h0 hc
    refine Ev.step (fun k => coppicerref_Above.l0.eq_2 _ _ _ _ k) ?_
    simp (disch := omega) only [if_neg]
    exact Ev.now _
  | succ c ih =>
    intro i h0 hc
    have hb := pre_bd l i
    have hs := pre_step l i h0 (by omega)
    have hp := h (i + 1) (by omega) (by omega)
    have r := ih (i + 1) (by omega) (by omega)
    refine Ev.step (fun k => coppicerref_Above.l0.eq_2 _ _ _ _ k) ?_
    cases hv : rdOf false l i with
    | true =>
      rw [hv, if_pos rfl] at hs
      rw [hs] at r hp
      simp (disch := omega) only [if_pos (show i < (l.length : Int) by omega), if_pos (show 0 ≤ i by omega), if_true, w64, if_neg (show ¬ pre l i + 1 < 1 by omega)]; exact r
    | false =>
      rw [hv, if_neg (by simp)] at hs
      rw [hs] at r hp
      simp only [Bool.false_eq_true, if_false]
      simp (disch := omega) only [if_pos (show i < (l.length : Int) by omega), if_pos (show 0 ≤ i by omega), w64, if_neg (show ¬ pre l i - 1 < 1 by omega)]; exact r
theorem turn_l0 (l : List Bool) (hn : l.length ≤ 60) (c : Nat) : ∀ i low at_ : Int, 0 ≤ i → i + c = l.length → low ≤ 0 → -60 ≤ low → 0 ≤ at_ → (i = 0 → at_ = 0 ∧ low = 0) → (0 < i → at_ < i ∧ low = pre l at_ ∧ ∀ j : Int, 0 ≤ j → j < i → pre l at_ ≤ pre l j ∧ (at_ < j → pre l at_ < pre l j)) →
    (psum l = 1 → ∃ a : Int, 0 ≤ a ∧ a < l.length ∧ (∀ j : Int, 0 ≤ j → j < l.length → pre l a ≤ pre l j ∧ (a < j → pre l a < pre l j)) ∧ Ev (fun k => bracket_Turn.l0 k (pre l i) low at_ l (l.length : Int) i) (a, 0)) ∧
    (psum l ≠ 1 → Ev (fun k => bracket_Turn.l0 k (pre l i) low at_ l (l.length : Int) i) (0, 3)) := by
  induction c with
  | zero =>
    intro i low at_ h0 hc hl0 hl1 ha0 hz hp
    have e : i = (l.length : Int) := by omega
    have ep : pre l i = psum l := by rw [e, pre_all]
    constructor
    · intro h1
      have : 0 < i := by
        by_cases q : 0 < i
        · exact q
        · have : l = [] := List.eq_nil_of_length_eq_zero (by omega)
          subst this; simp [psum] at h1
      obtain ⟨p1, p2, p3⟩ := hp this
      refine ⟨at_, ha0, by omega, fun j j0 j1 => p3 j j0 (by omega), Ev.step (fun k => bracket_Turn.l0.eq_2 _ _ _ _ _ _ k) ?_⟩
      simp (disch := omega) only [if_neg, ep, if_pos h1]
      exact Ev.now _
    · intro h1
      refine Ev.step (fun k => bracket_Turn.l0.eq_2 _ _ _ _ _ _ k) ?_
      simp (disch := omega) only [if_neg (show ¬ i < (l.length : Int) by omega), ep, if_neg h1]
      exact Ev.now _
  | succ c ih =>
    intro i low at_ h0 hc hl0 hl1 ha0 hz hp
    have hb := pre_bd l i
    have hs := pre_step l i h0 (by omega)
    by_cases hle : pre l i ≤ low
    · have r := ih (i + 1) (pre l i) i (by omega) (by omega) (by omega) (by omega) h0 (by omega) (by
        intro _
        refine ⟨by omega, rfl, fun j j0 j1 => ?_⟩
        by_cases q : j = i
        · subst q; omega
        · obtain ⟨p1, p2, p3⟩ := hp (by omega)
          have := p3 j j0 (by omega)
          omega)
      have st : ∀ R, Ev (fun k => bracket_Turn.l0 k (pre l (i + 1)) (pre l i) i l (l.length : Int) (i + 1)) R → Ev (fun k => bracket_Turn.l0 k (pre l i) low at_ l (l.length : Int) i) R := by
        intro R hR
        refine Ev.step (fun k => bracket_Turn.l0.eq_2 _ _ _ _ _ _ k) ?_
        cases hv : rdOf false l i with
        | true =>
          rw [hv, if_pos rfl] at hs
          rw [hs] at hR
          simp (disch := omega) only [if_pos, w64]; exact hR
        | false =>
          rw [hv, if_neg (by simp)] at hs
          rw [hs] at hR
          simp only [Bool.false_eq_true, if_false]
          simp (disch := omega) only [if_pos (show i < (l.length : Int) by omega), if_pos (show 0 ≤ i by omega), if_pos hle, w64]; exact hR
      refine ⟨fun h1 => ?_, fun h1 => st _ (r.2 h1)⟩
      obtain ⟨a, a0, a1, a2, a3⟩ := r.1 h1
      exact ⟨a, a0, a1, a2, st _ a3⟩
    · have hi : 0 < i := by
        by_cases q : 0 < i
        · exact q
        · have : i = 0 := by omega
          obtain ⟨q1, q2⟩ := hz this
          subst this
          rw [pre_zero] at hle; omega
      obtain ⟨p1, p2, p3⟩ := hp hi
      have r := ih (i + 1) low at_ (by omega) (by omega) hl0 hl1 ha0 (by omega) (by
        intro _
        refine ⟨by omega, p2, fun j j0 j1 => ?_⟩
        by_cases q : j = i
        · subst q; omega
        · exact p3 j j0 (by omega))
      have st : ∀ R, Ev (fun k => bracket_Turn.l0 k (pre l (i + 1)) low at_ l (l.length : Int) (i + 1)) R → Ev (fun k => bracket_Turn.l0 k (pre l i) low at_ l (l.length : Int) i) R := by
        intro R hR
        refine Ev.step (fun k => bracket_Turn.l0.eq_2 _ _ _ _ _ _ k) ?_
        cases hv : rdOf false l i with
        | true =>
          rw [hv, if_pos rfl] at hs
          rw [hs] at hR
          simp (disch := omega) only [if_pos (show i < (l.length : Int) by omega), if_pos (show 0 ≤ i by omega), if_neg hle, if_true, w64]; exact hR
        | false =>
          rw [hv, if_neg (by simp)] at hs
          rw [hs] at hR
          simp only [Bool.false_eq_true, if_false]
          simp (disch := omega) only [if_pos (show i < (l.length : Int) by omega), if_pos (show 0 ≤ i by omega), if_neg hle, w64]; exact hR
      refine ⟨fun h1 => ?_, fun h1 => st _ (r.2 h1)⟩
      obtain ⟨a, a0, a1, a2, a3⟩ := r.1 h1
      exact ⟨a, a0, a1, a2, st _ a3⟩
theorem pre_turned (l : List Bool) (a j : Int) (ha0 : 0 ≤ a) (ha1 : a ≤ l.length) (hj0 : 0 ≤ j) (hj1 : j ≤ l.length) :
    pre (l.drop a.toNat ++ l.take a.toNat) j = if a + j ≤ l.length then pre l (a + j) - pre l a else psum l - pre l a + pre l (a + j - l.length) := by
  have hd : psum (l.drop a.toNat) = psum l - pre l a := by
    have := psum_append (l.take a.toNat) (l.drop a.toNat)
    rw [List.take_append_drop] at this
    unfold pre; omega
  by_cases h : a + j ≤ l.length
  · rw [if_pos h]
    unfold pre
    rw [List.take_append_of_le_length (by simp; omega)]
    have e : l.take (a + j).toNat = l.take a.toNat ++ (l.drop a.toNat).take j.toNat := by
      rw [show (a + j).toNat = a.toNat + j.toNat by omega, List.take_add]
    rw [e, psum_append]; omega
  · rw [if_neg h]
    have e : (l.drop a.toNat ++ l.take a.toNat).take j.toNat = l.drop a.toNat ++ l.take (a + j - l.length).toNat := by
      rw [List.take_append, List.take_of_length_le (by simp; omega)]
      congr 1
      rw [List.take_take]; congr 1; simp; omega
    show psum _ = _
    rw [e, psum_append, hd]; rfl
theorem BracketTurns : coppicerlaw_BracketTurns.Pure := by
  intro l hm hs
  refine Ev.rounds (g := fun k => coppicerlaw_BracketTurns.f k l) ?_
  unfold coppicerlaw_BracketTurns.f bracket_Turn.f coppicerref_Deep.f
  by_cases h : (l.length : Int) > 60
  · refine Ev.bind (a := (0, 1)) ?_ ?_
    · simp only [h, if_true]; exact Ev.now _
    · simp only [h, if_true]; exact Ev.val rfl
  have hd := deep_l0 l (by omega) l.length 0 (by omega) (by omega)
  have ht := turn_l0 l (by omega) l.length 0 0 0 (by omega) (by omega) (by omega) (by omega) (by omega) (fun _ => ⟨rfl, rfl⟩) (by omega)
  rw [pre_zero] at hd ht
  by_cases h1 : psum l = 1
  · obtain ⟨a, a0, a1, a2, a3⟩ := ht.1 h1
    refine Ev.bind (a := (a, 0)) ?_ ?_
    · simp only [h, if_false]; exact a3
    · simp only [h, if_false]
      refine Ev.bind hd ?_
      simp only [h1, if_true, Option.bind_some, List.nil_append, List.length_nil]
      have l1 : (l.drop a.toNat).length = l.length - a.toNat := by simp
      have l2 : (l.take a.toNat).length = a.toNat := by simp; omega
      simp (disch := omega) only [if_pos]
      unfold coppicerref_Above.f
      have hl : (l.drop a.toNat ++ l.take a.toNat).length = l.length := by rw [List.length_append, l1, l2]; omega
      have := above_l0 (l.drop a.toNat ++ l.take a.toNat) (by omega) (by
        intro j j0 j1
        rw [pre_turned l a j a0 (by omega) (by omega) (by omega)]
        by_cases q : a + j ≤ l.length
        · rw [if_pos q]
          by_cases q2 : a + j = l.length
          · rw [q2, pre_all, h1]
            have := (a2 0 (by omega) (by omega)).1
            rw [pre_zero] at this; omega
          · have := (a2 (a + j) (by omega) (by omega)).2 (by omega); omega
        · rw [if_neg q, h1]
          have := (a2 (a + j - l.length) (by omega) (by omega)).1; omega) l.length 0 (by omega) (by omega)
      rw [pre_zero] at this
      exact Ev.bind this (Ev.now _)
  · refine Ev.bind (a := (0, 3)) ?_ ?_
    · simp only [h, if_false]; exact ht.2 h1
    · simp only [h, if_false]
      refine Ev.bind hd ?_
      simp only [h1, if_false]
      exact Ev.val rfl

end Go.Proofs.Ytkhmjehjhjhpkab.Pure
