/- The law BracketIs as a statement over numbers and lists alone: it holds under the bounds that the statement names. -/
import Derived.Test.YtkhmjehjhjhpkabStatBracketIs
set_option linter.unusedVariables false
set_option linter.unusedSimpArgs false
namespace Go.Proofs.Ytkhmjehjhjhpkab.Pure
open Go.RowKit Go.Proofs.Ytkhmjehjhjhpkab.PBracketIs Go.Proofs.YtkhmjehjhjhpkabW.PrintWords Go.Proofs.YtkhmjehjhjhpkabW.PrintLast Go.Proofs.YtkhmjehjhjhpkabW.PrintMore

/-! ### base: words for every pure text -/
theorem w64 {x : Int} (h0 : -9223372036854775808 ≤ x) (h1 : x ≤ 9223372036854775807) : wrap64 x = x := by unfold wrap64; omega
theorem Ev.pos {α : Type} {c : Prop} [Decidable c] {g f : Nat → Option α} {r : α} (h : c) (e : Ev g r) : Ev (fun k => if c then g k else f k) r := Ev.congr (fun k => by rw [if_pos h]) e
theorem Ev.neg {α : Type} {c : Prop} [Decidable c] {g f : Nat → Option α} {r : α} (h : ¬ c) (e : Ev f r) : Ev (fun k => if c then g k else f k) r := Ev.congr (fun k => by rw [if_neg h]) e
theorem Ev.val {α : Type} {r q : α} (h : r = q) : Ev (fun _ => some r) q := by subst h; exact Ev.now r
theorem rd_getElem {l : List Int} {i : Int} (h1 : i.toNat < l.length) : rd l i = l[i.toNat] := by simp [rd, List.getD_eq_getElem?_getD, List.getElem?_eq_getElem h1]
theorem drop_rd {l : List Int} {i : Int} (h0 : 0 ≤ i) (h1 : i < l.length) : l.drop i.toNat = rd l i :: l.drop (i + 1).toNat := by
  have h : i.toNat < l.length := by omega
  rw [rd_getElem h, List.drop_eq_getElem_cons h]; congr 2; omega
theorem take_rd {l : List Int} {i : Int} (h0 : 0 ≤ i) (h1 : i < l.length) : l.take (i + 1).toNat = l.take i.toNat ++ [rd l i] := by
  have h : i.toNat < l.length := by omega
  have e : (i + 1).toNat = i.toNat + 1 := by omega
  rw [rd_getElem h, e, List.take_succ_eq_append_getElem h]
theorem rd_drop (l : List Int) (n : Nat) (i : Int) (h0 : 0 ≤ i) : rd (l.drop n) i = rd l (i + n) := by
  have e : (i + n).toNat = n + i.toNat := by omega
  simp only [rd, List.getD_eq_getElem?_getD, List.getElem?_drop, e]
theorem rd_take (l : List Int) (n : Nat) (i : Int) (h0 : 0 ≤ i) (h1 : i < n) : rd (l.take n) i = rd l i := by
  simp only [rd, List.getD_eq_getElem?_getD]; rw [List.getElem?_take_of_lt (by omega)]
theorem drop_all {α : Type} (l : List α) (n : Nat) (h : l.length ≤ n) : l.drop n = [] := List.drop_eq_nil_of_le h
theorem dec_ne {a b : Int} {l m : List Int} (h : a ≠ b) : decide (a :: l = b :: m) = false := decide_eq_false (fun q => h (List.cons.inj q).1)
theorem Ev.no {p : Prop} [Decidable p] (h : ¬ p) : Ev (fun _ => some false) (decide p) := Ev.val (decide_eq_false h).symm
theorem Ev.yes {p : Prop} [Decidable p] (h : p) : Ev (fun _ => some true) (decide p) := Ev.val (decide_eq_true h).symm
theorem ext_rd {a b : List Int} (hl : a.length = b.length) (h : ∀ i : Int, 0 ≤ i → i < a.length → rd a i = rd b i) : a = b := by
  apply List.ext_getElem hl
  intro i h1 h2
  have := h i (by omega) (by omega)
  rwa [rd_getElem (by simpa using h1), rd_getElem (by simpa using h2)] at this
theorem wf_u8 {x : Int} (h : (Lit.int .u8 x).wf = true) : 0 ≤ x ∧ x ≤ 255 := by simpa [Lit.wf, IntKind.min, IntKind.max, IntKind.signed, IntKind.bits] using h
theorem wf_u32 {x : Int} (h : (Lit.int .u32 x).wf = true) : 0 ≤ x ∧ x ≤ 4294967295 := by simpa [Lit.wf, IntKind.min, IntKind.max, IntKind.signed, IntKind.bits] using h
theorem wf_i64 {x : Int} (h : (Lit.int .i64 x).wf = true) : -9223372036854775808 ≤ x ∧ x ≤ 9223372036854775807 := by simpa [Lit.wf, IntKind.min, IntKind.max, IntKind.signed, IntKind.bits] using h
theorem rd_mem {l : List Int} {i : Int} (h0 : 0 ≤ i) (h1 : i < l.length) : rd l i ∈ l := by
  rw [rd_getElem (by omega)]; exact List.getElem_mem _
theorem rd_u8 {l : List Int} (hw : ∀ x ∈ l, (Lit.int .u8 x).wf = true) {i : Int} (h0 : 0 ≤ i) (h1 : i < l.length) : 0 ≤ rd l i ∧ rd l i ≤ 255 := wf_u8 (hw _ (rd_mem h0 h1))
theorem tm {a b : Int} (h : 0 ≤ a) : Int.tmod a b = a % b := Int.tmod_eq_emod_of_nonneg h
theorem td {a b : Int} (h : 0 ≤ a) : Int.tdiv a b = a / b := Int.tdiv_eq_ediv_of_nonneg h

/-! ### brackets: bracket_is, coppicerref_Closed -/
theorem rb_getElem {l : List Bool} {i : Int} (h1 : i.toNat < l.length) : rdOf false l i = l[i.toNat] := by simp [rdOf, List.getD_eq_getElem?_getD, List.getElem?_eq_getElem h1]
theorem drop_rb {l : List Bool} {i : Int} (h0 : 0 ≤ i) (h1 : i < l.length) : l.drop i.toNat = rdOf false l i :: l.drop (i + 1).toNat := by
  have h : i.toNat < l.length := by omega
  rw [rb_getElem h, List.drop_eq_getElem_cons h]; congr 2; omega
theorem take_rb {l : List Bool} {i : Int} (h0 : 0 ≤ i) (h1 : i < l.length) : l.take (i + 1).toNat = l.take i.toNat ++ [rdOf false l i] := by
  have h : i.toNat < l.length := by omega
  have e : (i + 1).toNat = i.toNat + 1 := by omega
  rw [rb_getElem h, e, List.take_succ_eq_append_getElem h]
def bal : Int → List Bool → Bool
  | d, [] => d == 0
  | d, true :: l => bal (d + 1) l
  | d, false :: l => if d - 1 < 0 then false else bal (d - 1) l
theorem bal_cut (post : List Bool) : ∀ (pre : List Bool) (d : Int), 0 ≤ d → bal d (pre ++ true :: false :: post) = bal d (pre ++ post)
  | [], d, h => by simp only [List.nil_append, bal]; rw [if_neg (by omega)]; congr 1; omega
  | true :: pre, d, h => by simp only [List.cons_append, bal]; exact bal_cut post pre (d + 1) (by omega)
  | false :: pre, d, h => by
    simp only [List.cons_append, bal]
    by_cases q : d - 1 < 0
    · simp [q]
    · rw [if_neg q, if_neg q]; exact bal_cut post pre (d - 1) (by omega)
/-- no opener stands right ahead of a closer -/
def noadj : List Bool → Prop
  | [] => True
  | [_] => True
  | a :: b :: l => ¬ (a = true ∧ b = false) ∧ noadj (b :: l)
theorem noadj_true : ∀ (l : List Bool) (d : Int), 0 ≤ d → noadj (true :: l) → bal d (true :: l) = false
  | [], d, h, _ => by simp [bal]; omega
  | true :: l, d, h, hn => by
    have := noadj_true l (d + 1) (by omega) hn.2
    simp only [bal] at this ⊢; exact this
  | false :: l, d, h, hn => by exact absurd ⟨rfl, rfl⟩ hn.1
theorem noadj_bal (l : List Bool) (h : noadj l) : bal 0 l = decide (l = []) := by
  cases l with
  | nil => rfl
  | cons a l =>
    cases a with
    | true => rw [noadj_true l 0 (by omega) h]; simp
    | false => simp [bal]
theorem noadj_of (l : List Bool) : (∀ j : Int, 0 ≤ j → j + 1 < l.length → ¬ (rdOf false l j = true ∧ rdOf false l (j + 1) = false)) → noadj l := by
  induction l with
  | nil => intro _; trivial
  | cons a l ih =>
    intro h
    cases l with
    | nil => trivial
    | cons b l =>
      refine ⟨?_, ih ?_⟩
      · have := h 0 (by omega) (by simp; omega)
        exact this
      · intro j j0 j1
        have := h (j + 1) (by omega) (by simp at j1 ⊢; omega)
        have e1 : rdOf false (a :: b :: l) (j + 1) = rdOf false (b :: l) j := by
          simp only [rdOf]; rw [show (j + 1).toNat = j.toNat + 1 by omega]; rfl
        have e2 : rdOf false (a :: b :: l) (j + 1 + 1) = rdOf false (b :: l) (j + 1) := by
          simp only [rdOf]; rw [show (j + 1 + 1).toNat = (j + 1).toNat + 1 by omega]; rfl
        rw [e1, e2] at this; exact this
theorem closed_l0 (n : Nat) : ∀ (l : List Bool), l.length ≤ n → l.length ≤ 1000 → ∀ (c : Nat) (i : Int), 0 ≤ i → i + c = l.length + 1 → (∀ j : Int, 0 ≤ j → j < i → j + 1 < l.length → ¬ (rdOf false l j = true ∧ rdOf false l (j + 1) = false)) →
    Ev (fun k => coppicerref_Closed.l0 k l i) (bal 0 l) := by
  induction n with
  | zero =>
    intro l hl hl2 c i h0 hc hj
    have : l = [] := List.eq_nil_of_length_eq_zero (by omega)
    subst this
    refine Ev.step (fun k => coppicerref_Closed.l0.eq_2 _ _ k) ?_
    simp only [List.length_nil]
    simp at hc
    simp (disch := omega) only [w64, if_neg]
    exact Ev.now _
  | succ n ihn =>
    intro l hl hl2 c
    induction c with
    | zero =>
      intro i h0 hc hj
      refine Ev.step (fun k => coppicerref_Closed.l0.eq_2 _ _ k) ?_
      simp (disch := omega) only [w64, if_neg]
      refine Ev.val ?_
      rw [noadj_bal l (noadj_of l (fun j j0 j1 => hj j j0 (by omega) j1))]
      cases l <;> simp; omega
    | succ c ihc =>
      intro i h0 hc hj
      refine Ev.step (fun k => coppicerref_Closed.l0.eq_2 _ _ k) ?_
      by_cases hi : i + 1 < l.length
      · have more : ¬ (rdOf false l i = true ∧ rdOf false l (i + 1) = false) → Ev (fun k => coppicerref_Closed.l0 k l (i + 1)) (bal 0 l) := by
          intro hne
          refine ihc (i + 1) (by omega) (by omega) ?_
          intro j j0 j1 j2
          by_cases p : j < i
          · exact hj j j0 p j2
          · have : j = i := by omega
            subst this; exact hne
        cases hb : rdOf false l i with
        | false =>
          simp (disch := omega) only [w64, if_pos, hb, Bool.false_eq_true, if_false]
          exact more (by simp [hb])
        | true =>
          cases hb2 : rdOf false l (i + 1) with
          | true =>
            simp (disch := omega) only [w64, if_pos, hb, hb2, if_true]
            exact more (by simp [hb2])
          | false =>
            have e : l = l.take i.toNat ++ true :: false :: l.drop (i + 2).toNat := by
              have e1 := drop_rb h0 (show i < l.length by omega)
              have e2 := drop_rb (l := l) (i := i + 1) (by omega) (by omega)
              rw [hb] at e1; rw [hb2, show i + 1 + 1 = i + 2 by omega] at e2
              rw [e2] at e1
              have := List.take_append_drop i.toNat l
              rw [e1] at this; exact this.symm
            simp (disch := omega) only [w64, if_pos, hb, hb2, Bool.false_eq_true, if_false, Option.bind_some, List.nil_append, List.length_nil]
            have l1 : (l.take i.toNat).length = i.toNat := by simp; omega
            have l2 : (l.drop (i + 2).toNat).length = l.length - (i + 2).toNat := by simp
            simp (disch := omega) only [if_pos (show 0 + (l.take i.toNat).length < 140737488355328 by omega), if_pos (show (l.take i.toNat).length + (l.drop (i + 2).toNat).length < 140737488355328 by omega)]
            have r := ihn (l.take i.toNat ++ l.drop (i + 2).toNat) (by rw [List.length_append, l1, l2]; omega) (by rw [List.length_append, l1, l2]; omega) ((l.take i.toNat ++ l.drop (i + 2).toNat).length + 1) 0 (by omega) (by omega) (by intro j a b; omega)
            rw [e, bal_cut _ _ 0 (by omega), ← e]
            exact r
      · simp (disch := omega) only [w64, if_neg]
        refine Ev.val ?_
        rw [noadj_bal l (noadj_of l (fun j j0 j1 => hj j j0 (by omega) j1))]
        cases l <;> simp; omega
theorem Closed_ev (l : List Bool) (hn : l.length ≤ 1000) : Ev (fun k => coppicerref_Closed.f k l) (bal 0 l) := by
  unfold coppicerref_Closed.f
  simp only [Option.bind_some, List.length_nil, List.nil_append]
  simp (disch := omega) only [if_pos (show 0 + l.length < 140737488355328 by omega)]
  exact closed_l0 l.length l (by omega) hn (l.length + 1) 0 (by omega) (by omega) (by intro j a b; omega)

/-! ### bracket_is -/
theorem is_l0 (l : List Bool) (hn : l.length ≤ 1000) (c : Nat) : ∀ i d : Int, 0 ≤ i → i + c = l.length → 0 ≤ d → d ≤ i → Ev (fun k => bracket_is.l0 k d l (l.length : Int) i) (bal d (l.drop i.toNat)) := by
  induction c with
  | zero =>
    intro i d h0 hc hd0 hd1
    refine Ev.step (fun k => bracket_is.l0.eq_2 _ _ _ _ k) ?_
    simp (disch := omega) only [if_neg]
    exact Ev.val (by rw [List.drop_eq_nil_of_le (by omega)]; rfl)
  | succ c ih =>
    intro i d h0 hc hd0 hd1
    refine Ev.step (fun k => bracket_is.l0.eq_2 _ _ _ _ k) ?_
    rw [drop_rb h0 (by omega)]
    cases hb : rdOf false l i with
    | true =>
      simp (disch := omega) only [if_pos, w64]
      exact ih (i + 1) (d + 1) (by omega) (by omega) (by omega) (by omega)
    | false =>
      simp only [Bool.false_eq_true, if_false]
      simp (disch := omega) only [if_pos (show i < (l.length : Int) by omega), if_pos (show 0 ≤ i by omega), w64]
      by_cases h : d - 1 < 0
      · simp only [if_pos h, bal]; exact Ev.now _
      · simp only [if_neg h, bal]
        exact ih (i + 1) (d - 1) (by omega) (by omega) (by omega) (by omega)
theorem is_ev (l : List Bool) (hn : l.length ≤ 1000) : Ev (fun k => bracket_is.f k l) (bal 0 l) := by
  unfold bracket_is.f
  exact is_l0 l hn l.length 0 0 (by omega) (by omega) (by omega) (by omega)

theorem BracketIs : coppicerlaw_BracketIs.Pure := by
  intro l hm hs
  refine Ev.rounds (g := fun k => coppicerlaw_BracketIs.f k l) ?_
  unfold coppicerlaw_BracketIs.f bracket_Is.f
  by_cases h : (l.length : Int) > 60
  · refine Ev.bind (a := (false, 1)) ?_ ?_
    · simp only [h, if_true]; exact Ev.now _
    · simp only [h, if_true]; exact Ev.val rfl
  · refine Ev.bind (a := (bal 0 l, 0)) ?_ ?_
    · simp only [h, if_false]; exact Ev.bind (is_ev l (by omega)) (Ev.now _)
    · simp only [h, if_false, if_true]; exact Ev.bind (Closed_ev l (by omega)) (Ev.val (by simp))

end Go.Proofs.Ytkhmjehjhjhpkab.Pure
