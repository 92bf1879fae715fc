/- The law PlainIs as a statement over numbers and lists alone: it holds under the bounds that the statement names. -/
import Derived.Test.YtndffegibjhdnaaStatPlainIs
set_option linter.unusedVariables false
set_option linter.unusedSimpArgs false
set_option linter.unusedSectionVars false
namespace Go.Proofs.Ytndffegibjhdnaa.Pure
open Go.RowKit Go.Proofs.Ytndffegibjhdnaa.PPlainIs Go.Proofs.YtndffegibjhdnaaW.PrintWords Go.Proofs.YtndffegibjhdnaaW.PrintLast Go.Proofs.YtndffegibjhdnaaW.PrintMore

/-! ### base: words for every pure text -/
theorem w64 {x : Int} (h0 : -9223372036854775808 ≤ x) (h1 : x ≤ 9223372036854775807) : wrap64 x = x := by unfold wrap64; omega
theorem Ev.pos {α : Type} {c : Prop} [Decidable c] {g f : Nat → Option α} {r : α} (h : c) (e : Ev g r) : Ev (fun k => if c then g k else f k) r := Ev.congr (fun k => by rw [if_pos h]) e
theorem Ev.neg {α : Type} {c : Prop} [Decidable c] {g f : Nat → Option α} {r : α} (h : ¬ c) (e : Ev f r) : Ev (fun k => if c then g k else f k) r := Ev.congr (fun k => by rw [if_neg h]) e
theorem Ev.val {α : Type} {r q : α} (h : r = q) : Ev (fun _ => some r) q := by subst h; exact Ev.now r
theorem rd_getElem {l : List Int} {i : Int} (h1 : i.toNat < l.length) : rd l i = l[i.toNat] := by simp [rd, List.getD_eq_getElem?_getD, List.getElem?_eq_getElem h1]
theorem drop_rd {l : List Int} {i : Int} (h0 : 0 ≤ i) (h1 : i < l.length) : l.drop i.toNat = rd l i :: l.drop (i + 1).toNat := by
  have h : i.toNat < l.length := by omega
  rw [rd_getElem h, List.drop_eq_getElem_cons h]; congr 2; omega
theorem take_rd {l : List Int} {i : Int} (h0 : 0 ≤ i) (h1 : i < l.length) : l.take (i + 1).toNat = l.take i.toNat ++ [rd l i] := by
  have h : i.toNat < l.length := by omega
  have e : (i + 1).toNat = i.toNat + 1 := by omega
  rw [rd_getElem h, e, List.take_succ_eq_append_getElem h]
theorem rd_drop (l : List Int) (n : Nat) (i : Int) (h0 : 0 ≤ i) : rd (l.drop n) i = rd l (i + n) := by
  have e : (i + n).toNat = n + i.toNat := by omega
  simp only [rd, List.getD_eq_getElem?_getD, List.getElem?_drop, e]
theorem rd_take (l : List Int) (n : Nat) (i : Int) (h0 : 0 ≤ i) (h1 : i < n) : rd (l.take n) i = rd l i := by
  simp only [rd, List.getD_eq_getElem?_getD]; rw [List.getElem?_take_of_lt (by omega)]
theorem drop_all {α : Type} (l : List α) (n : Nat) (h : l.length ≤ n) : l.drop n = [] := List.drop_eq_nil_of_le h
theorem dec_ne {a b : Int} {l m : List Int} (h : a ≠ b) : decide (a :: l = b :: m) = false := decide_eq_false (fun q => h (List.cons.inj q).1)
theorem Ev.no {p : Prop} [Decidable p] (h : ¬ p) : Ev (fun _ => some false) (decide p) := Ev.val (decide_eq_false h).symm
theorem Ev.yes {p : Prop} [Decidable p] (h : p) : Ev (fun _ => some true) (decide p) := Ev.val (decide_eq_true h).symm
theorem ext_rd {a b : List Int} (hl : a.length = b.length) (h : ∀ i : Int, 0 ≤ i → i < a.length → rd a i = rd b i) : a = b := by
  apply List.ext_getElem hl
  intro i h1 h2
  have := h i (by omega) (by omega)
  rwa [rd_getElem (by simpa using h1), rd_getElem (by simpa using h2)] at this
theorem wf_u8 {x : Int} (h : (Lit.int .u8 x).wf = true) : 0 ≤ x ∧ x ≤ 255 := by simpa [Lit.wf, IntKind.min, IntKind.max, IntKind.signed, IntKind.bits] using h
theorem wf_u32 {x : Int} (h : (Lit.int .u32 x).wf = true) : 0 ≤ x ∧ x ≤ 4294967295 := by simpa [Lit.wf, IntKind.min, IntKind.max, IntKind.signed, IntKind.bits] using h
theorem wf_i64 {x : Int} (h : (Lit.int .i64 x).wf = true) : -9223372036854775808 ≤ x ∧ x ≤ 9223372036854775807 := by simpa [Lit.wf, IntKind.min, IntKind.max, IntKind.signed, IntKind.bits] using h
theorem rd_mem {l : List Int} {i : Int} (h0 : 0 ≤ i) (h1 : i < l.length) : rd l i ∈ l := by
  rw [rd_getElem (by omega)]; exact List.getElem_mem _
theorem rd_u8 {l : List Int} (hw : ∀ x ∈ l, (Lit.int .u8 x).wf = true) {i : Int} (h0 : 0 ≤ i) (h1 : i < l.length) : 0 ≤ rd l i ∧ rd l i ≤ 255 := wf_u8 (hw _ (rd_mem h0 h1))
theorem tm {a b : Int} (h : 0 ≤ a) : Int.tmod a b = a % b := Int.tmod_eq_emod_of_nonneg h
theorem td {a b : Int} (h : 0 ≤ a) : Int.tdiv a b = a / b := Int.tdiv_eq_ediv_of_nonneg h

/-! ### loops, round by round -/
theorem anyO_some {α : Type} (p : α → Bool) : ∀ l : List α, anyO (fun x => some (p x)) l = some (l.any p)
  | [] => rfl
  | x :: l => by
    unfold anyO
    rw [Option.bind_some, anyO_some p l, List.any_cons]
    cases p x <;> simp
theorem anyO_of {α : Type} {f : α → Option Bool} {p : α → Bool} {l : List α} (h : ∀ x ∈ l, f x = some (p x)) : anyO f l = some (l.any p) := by
  induction l with
  | nil => rfl
  | cons x l ih =>
    unfold anyO
    rw [h x (by simp), Option.bind_some, ih (fun y hy => h y (by simp [hy])), List.any_cons]
    cases p x <;> simp
theorem Ev.loop {σ ρ : Type} {L : Nat → Int → σ → Option ρ} {n : Int} {r : ρ} (I : Int → σ → Prop)
    (hend : ∀ s, I n s → Ev (fun k => L k n s) r)
    (hstep : ∀ i s, 0 ≤ i → i < n → I i s → Ev (fun k => L k i s) r ∨ ∃ s', I (i + 1) s' ∧ (Ev (fun k => L k (i + 1) s') r → Ev (fun k => L k i s) r)) :
    ∀ (i : Int) (s : σ), 0 ≤ i → i ≤ n → I i s → Ev (fun k => L k i s) r := by
  have key : ∀ (d : Nat) (i : Int) (s : σ), 0 ≤ i → i + d = n → I i s → Ev (fun k => L k i s) r := by
    intro d
    induction d with
    | zero => intro i s h0 h1 hI; obtain rfl : i = n := by omega
              exact hend s hI
    | succ d ih =>
      intro i s h0 h1 hI
      rcases hstep i s h0 (by omega) hI with h | ⟨s', h', h⟩
      · exact h
      · exact h (ih (i + 1) s' (by omega) (by omega) h')
  intro i s h0 h1 hI
  exact key (n - i).toNat i s h0 (by omega) hI
/-- The first element that is bad ends a loop. -/
theorem Ev.firstBad {α ρ : Type} {L : Nat → Int → Option ρ} {l : List α} {rdf : Int → α} {bad : α → Bool} {c fin : ρ}
    (hrd : ∀ i : Int, 0 ≤ i → i < l.length → l.drop i.toNat = rdf i :: l.drop (i + 1).toNat)
    (hend : l.any bad = false → Ev (fun k => L k l.length) fin)
    (hbad : ∀ i : Int, 0 ≤ i → i < l.length → bad (rdf i) = true → Ev (fun k => L k i) c)
    (hgood : ∀ (i : Int) (r : ρ), 0 ≤ i → i < l.length → bad (rdf i) = false → Ev (fun k => L k (i + 1)) r → Ev (fun k => L k i) r) :
    Ev (fun k => L k 0) (if l.any bad = true then c else fin) := by
  refine Ev.loop (σ := Unit) (L := fun k i _ => L k i) (n := l.length) (fun i _ => l.any bad = (l.drop i.toNat).any bad) ?_ ?_ 0 () (Int.le_refl _) (by omega) rfl
  · intro _ h
    rw [Int.toNat_natCast, List.drop_length] at h
    have h : l.any bad = false := h
    rw [h]; exact hend h
  · intro i _ h0 h1 h
    rw [hrd i h0 h1, List.any_cons] at h
    cases hb : bad (rdf i) with
    | true => left; rw [h, hb]; exact hbad i h0 h1 hb
    | false => right; refine ⟨(), by rw [h, hb]; rfl, hgood i _ h0 h1 hb⟩
theorem rd_cons {l : List Int} {i : Int} (h0 : 0 ≤ i) (h1 : i < l.length) : l.drop i.toNat = rd l i :: l.drop (i + 1).toNat := drop_rd h0 h1

/-! ### grammars: what is wrong -/
theorem rd_rule {l : List S35} {i : Int} (h0 : 0 ≤ i) (h1 : i < l.length) : l.drop i.toNat = rd_T35 l i :: l.drop (i + 1).toNat := by
  have h : i.toNat < l.length := by omega
  have e : rd_T35 l i = l[i.toNat] := by simp [rd_T35, List.getD_eq_getElem?_getD, List.getElem?_eq_getElem h]
  rw [e, List.drop_eq_getElem_cons h]; congr 2; omega
theorem rule_mem {l : List S35} {i : Int} (h0 : 0 ≤ i) (h1 : i < l.length) : rd_T35 l i ∈ l := by
  have h : i.toNat < l.length := by omega
  have e : rd_T35 l i = l[i.toNat] := by simp [rd_T35, List.getD_eq_getElem?_getD, List.getElem?_eq_getElem h]
  rw [e]; exact List.getElem_mem _
def sgnBad (M x : Int) : Bool := decide (x < 0) || decide (x ≥ M)
def ruleBad (K N : Int) (r : S35) : Bool := decide (r.f0 < 0) || (decide (r.f0 ≥ N) || r.f1.any (sgnBad (K + N)))
def gcode (K N st : Int) (rs : List S35) : Int :=
  if K < 1 ∨ K > 3 ∨ N < 1 ∨ N > 5 ∨ (rs.length : Int) > 10 ∨ (rs.any fun r => decide ((r.f1.length : Int) > 4)) = true then 1
  else if st < 0 ∨ st ≥ N then 2 else if rs.any (ruleBad K N) = true then 2 else 0
theorem gcode_bad {K N st : Int} {rs : List S35} (h : K < 1 ∨ K > 3 ∨ N < 1 ∨ N > 5 ∨ (rs.length : Int) > 10 ∨ (rs.any fun r => decide ((r.f1.length : Int) > 4)) = true) : gcode K N st rs = 1 := by unfold gcode; rw [if_pos h]
section
variable (K N st : Int) (rs : List S35) (hK0 : 1 ≤ K) (hK1 : K ≤ 3) (hN0 : 1 ≤ N) (hN1 : N ≤ 5)
include hK0 hK1 hN0 hN1
theorem signs_eq (l : List Int) : grammar_signs.f K N st rs l = some (!(l.any (sgnBad (K + N)))) := by
  unfold grammar_signs.f grammar_signs_1_any.f
  have e : (fun x : Int => grammar_signs_1.f x K N st rs) = fun x => some (sgnBad (K + N) x) := by
    funext x
    unfold grammar_signs_1.f sgnBad
    rw [w64 (by omega) (by omega)]
    by_cases h : x < 0
    · rw [if_pos h]; simp [h]
    · rw [if_neg h]; simp [h]
  rw [e, anyO_some]; rfl
theorem refSigns_ev (l : List Int) (hl : l.length ≤ 140737488351232) : Ev (fun k => coppicerref_Signs.f k K N st rs l) (!(l.any (sgnBad (K + N)))) := by
  unfold coppicerref_Signs.f
  have := Ev.firstBad (L := fun k i => coppicerref_Signs.l0 k l (l.length : Int) i K N st rs) (l := l) (rdf := rd l) (bad := sgnBad (K + N)) (c := false) (fin := true) (fun i h0 h1 => rd_cons h0 h1) ?_ ?_ ?_
  · cases h : l.any (sgnBad (K + N)) <;> rw [h] at this <;> exact this
  · intro _
    refine Ev.step (fun k => coppicerref_Signs.l0.eq_2 _ _ _ _ _ _ _ k) ?_
    simp (disch := omega) only [if_neg]; exact Ev.now _
  · intro i h0 h1 hb
    refine Ev.step (fun k => coppicerref_Signs.l0.eq_2 _ _ _ _ _ _ _ k) ?_
    simp (disch := omega) only [if_pos, w64]
    unfold sgnBad at hb
    by_cases h : rd l i < 0
    · simp only [if_pos h]; exact Ev.now _
    · have h2 : rd l i ≥ K + N := by simpa [h] using hb
      simp only [if_neg h, if_pos h2]; exact Ev.now _
  · intro i r h0 h1 hb hr
    refine Ev.step (fun k => coppicerref_Signs.l0.eq_2 _ _ _ _ _ _ _ k) ?_
    unfold sgnBad at hb
    simp only [Bool.or_eq_false_iff, decide_eq_false_iff_not] at hb
    simp (disch := omega) only [if_pos, if_neg, w64]
    exact hr
theorem gcheck_l0 (hl : rs.length ≤ 10) : Ev (fun k => grammar_Check.l0 k rs (rs.length : Int) 0 K N st rs) (if rs.any (ruleBad K N) = true then 2 else 0) := by
  refine Ev.firstBad (L := fun k i => grammar_Check.l0 k rs (rs.length : Int) i K N st rs) (rdf := rd_T35 rs) (fun i h0 h1 => rd_rule h0 h1) ?_ ?_ ?_
  · intro _
    refine Ev.step (fun k => grammar_Check.l0.eq_2 _ _ _ _ _ _ _ k) ?_
    simp (disch := omega) only [if_neg]; exact Ev.now _
  · intro i h0 h1 hb
    refine Ev.step (fun k => grammar_Check.l0.eq_2 _ _ _ _ _ _ _ k) ?_
    simp (disch := omega) only [if_pos, signs_eq K N st rs hK0 hK1 hN0 hN1, Option.bind_some]
    unfold ruleBad at hb
    by_cases c1 : (rd_T35 rs i).f0 < 0
    · simp only [if_pos c1]; exact Ev.now _
    by_cases c2 : (rd_T35 rs i).f0 ≥ N
    · simp only [if_neg c1, if_pos c2]; exact Ev.now _
    have c3 : (rd_T35 rs i).f1.any (sgnBad (K + N)) = true := by simpa [c1, c2] using hb
    simp only [if_neg c1, if_neg c2, c3, Bool.not_true, Bool.false_eq_true, if_false]; exact Ev.now _
  · intro i r h0 h1 hb hr
    refine Ev.step (fun k => grammar_Check.l0.eq_2 _ _ _ _ _ _ _ k) ?_
    simp (disch := omega) only [if_pos, signs_eq K N st rs hK0 hK1 hN0 hN1, Option.bind_some, w64]
    unfold ruleBad at hb
    simp only [Bool.or_eq_false_iff, decide_eq_false_iff_not] at hb
    simp only [if_neg hb.1, if_neg hb.2.1, hb.2.2, Bool.not_false, if_true]
    exact hr
theorem rcheck_l1 (hl : rs.length ≤ 10) (hr : (rs.any fun r => decide ((r.f1.length : Int) > 4)) = false) : Ev (fun k => coppicerref_GrammarCheck.l1 k rs (rs.length : Int) 0 K N st rs) (if rs.any (ruleBad K N) = true then 2 else 0) := by
  have hs : ∀ i : Int, 0 ≤ i → i < rs.length → (rd_T35 rs i).f1.length ≤ 4 := by
    intro i h0 h1
    have := (List.any_eq_false.1 hr) _ (rule_mem h0 h1)
    simp only [decide_eq_true_eq] at this; omega
  refine Ev.firstBad (L := fun k i => coppicerref_GrammarCheck.l1 k rs (rs.length : Int) i K N st rs) (rdf := rd_T35 rs) (fun i h0 h1 => rd_rule h0 h1) ?_ ?_ ?_
  · intro _
    refine Ev.step (fun k => coppicerref_GrammarCheck.l1.eq_2 _ _ _ _ _ _ _ k) ?_
    simp (disch := omega) only [if_neg]; exact Ev.now _
  · intro i h0 h1 hb
    refine Ev.step (fun k => coppicerref_GrammarCheck.l1.eq_2 _ _ _ _ _ _ _ k) ?_
    simp (disch := omega) only [if_pos]
    unfold ruleBad at hb
    by_cases c1 : (rd_T35 rs i).f0 < 0
    · simp only [if_pos c1]; exact Ev.now _
    by_cases c2 : (rd_T35 rs i).f0 ≥ N
    · simp only [if_neg c1, if_pos c2]; exact Ev.now _
    have c3 : (rd_T35 rs i).f1.any (sgnBad (K + N)) = true := by simpa [c1, c2] using hb
    simp only [if_neg c1, if_neg c2]
    refine Ev.bind (refSigns_ev K N st rs hK0 hK1 hN0 hN1 _ (by have := hs i h0 h1; omega)) ?_
    simp only [c3, Bool.not_true, Bool.false_eq_true, if_false]; exact Ev.now _
  · intro i r h0 h1 hb hr
    refine Ev.step (fun k => coppicerref_GrammarCheck.l1.eq_2 _ _ _ _ _ _ _ k) ?_
    simp (disch := omega) only [if_pos, w64]
    unfold ruleBad at hb
    simp only [Bool.or_eq_false_iff, decide_eq_false_iff_not] at hb
    simp only [if_neg hb.1, if_neg hb.2.1]
    refine Ev.bind (refSigns_ev K N st rs hK0 hK1 hN0 hN1 _ (by have := hs i h0 h1; omega)) ?_
    simp only [hb.2.2, Bool.not_false, if_true]
    exact hr
end
theorem gcheck_ev (K N st : Int) (rs : List S35) : Ev (fun k => grammar_Check.f k K N st rs) (gcode K N st rs) := by
  unfold grammar_Check.f
  have bad : (K < 1 ∨ K > 3 ∨ N < 1 ∨ N > 5 ∨ (rs.length : Int) > 10 ∨ (rs.any fun r => decide ((r.f1.length : Int) > 4)) = true) → Ev (fun k => grammar_Check.j0 k true K N st rs) (gcode K N st rs) := by
    intro h
    rw [gcode_bad h]
    refine Ev.step (fun k => grammar_Check.j0.eq_2 _ _ _ _ _ k) ?_
    simp only [if_true]; exact Ev.now _
  by_cases c1 : K < 1
  · simp only [if_pos c1]; exact bad (by omega)
  by_cases c2 : K > 3
  · simp only [if_neg c1, if_pos c2]; exact bad (by omega)
  by_cases c3 : N < 1
  · simp only [if_neg c1, if_neg c2, if_pos c3]; exact bad (by omega)
  by_cases c4 : N > 5
  · simp only [if_neg c1, if_neg c2, if_neg c3, if_pos c4]; exact bad (by omega)
  by_cases c5 : (rs.length : Int) > 10
  · simp only [if_neg c1, if_neg c2, if_neg c3, if_neg c4, if_pos c5]; exact bad (by omega)
  simp only [if_neg c1, if_neg c2, if_neg c3, if_neg c4, if_neg c5]
  have e : grammar_Check_1_any.f rs = some (rs.any fun r => decide ((r.f1.length : Int) > 4)) := anyO_some _ rs
  simp only [e, Option.bind_some]
  cases c6 : (rs.any fun r => decide ((r.f1.length : Int) > 4)) with
  | true => exact bad (.inr (.inr (.inr (.inr (.inr c6)))))
  | false =>
    refine Ev.step (fun k => grammar_Check.j0.eq_2 _ _ _ _ _ k) ?_
    have hg : gcode K N st rs = if st < 0 ∨ st ≥ N then 2 else if rs.any (ruleBad K N) = true then 2 else 0 := by
      unfold gcode; rw [if_neg (by rw [c6]; simp; omega)]
    have j1t : (st < 0 ∨ st ≥ N) → Ev (fun k => grammar_Check.j1 k true K N st rs) (gcode K N st rs) := by
      intro h
      rw [hg, if_pos h]
      refine Ev.step (fun k => grammar_Check.j1.eq_2 _ _ _ _ _ k) ?_
      simp only [if_true]; exact Ev.now _
    simp only [Bool.false_eq_true, if_false]
    by_cases d1 : st < 0
    · simp only [if_pos d1]; exact j1t (.inl d1)
    by_cases d2 : st ≥ N
    · simp only [if_neg d1, decide_eq_true d2]; exact j1t (.inr d2)
    · simp only [if_neg d1, decide_eq_false d2]
      rw [hg, if_neg (by omega)]
      refine Ev.step (fun k => grammar_Check.j1.eq_2 _ _ _ _ _ k) ?_
      simp only [Bool.false_eq_true, if_false]
      exact gcheck_l0 K N st rs (by omega) (by omega) (by omega) (by omega) (by omega)
theorem rcheck_ev (K N st : Int) (rs : List S35) : Ev (fun k => coppicerref_GrammarCheck.f k K N st rs) (gcode K N st rs) := by
  unfold coppicerref_GrammarCheck.f
  have bad : (K < 1 ∨ K > 3 ∨ N < 1 ∨ N > 5 ∨ (rs.length : Int) > 10 ∨ (rs.any fun r => decide ((r.f1.length : Int) > 4)) = true) → Ev (fun k => coppicerref_GrammarCheck.j0 k true K N st rs) (gcode K N st rs) := by
    intro h
    rw [gcode_bad h]
    refine Ev.step (fun k => coppicerref_GrammarCheck.j0.eq_2 _ _ _ _ _ k) ?_
    simp only [if_true]; exact Ev.now _
  by_cases c1 : K < 1
  · simp only [if_pos c1]; exact bad (by omega)
  by_cases c2 : K > 3
  · simp only [if_neg c1, if_pos c2]; exact bad (by omega)
  by_cases c3 : N < 1
  · simp only [if_neg c1, if_neg c2, if_pos c3]; exact bad (by omega)
  by_cases c4 : N > 5
  · simp only [if_neg c1, if_neg c2, if_neg c3, if_pos c4]; exact bad (by omega)
  simp only [if_neg c1, if_neg c2, if_neg c3, if_neg c4]
  by_cases c5 : (rs.length : Int) > 10
  · simp only [c5, decide_true]; exact bad (by omega)
  simp only [c5, decide_false]
  refine Ev.step (fun k => coppicerref_GrammarCheck.j0.eq_2 _ _ _ _ _ k) ?_
  simp only [Bool.false_eq_true, if_false]
  have hg : gcode K N st rs = if (rs.any fun r => decide ((r.f1.length : Int) > 4)) = true then 1 else if st < 0 ∨ st ≥ N then 2 else if rs.any (ruleBad K N) = true then 2 else 0 := by
    unfold gcode
    cases c6 : (rs.any fun r => decide ((r.f1.length : Int) > 4)) with
    | true => rw [if_pos (by simp), if_pos rfl]
    | false => rw [if_neg (by simp; omega)]; simp only [Bool.false_eq_true, if_false]
  rw [hg]
  refine Ev.firstBad (L := fun k i => coppicerref_GrammarCheck.l0 k rs (rs.length : Int) i K N st rs) (rdf := rd_T35 rs) (fun i h0 h1 => rd_rule h0 h1) ?_ ?_ ?_
  · intro c6
    refine Ev.step (fun k => coppicerref_GrammarCheck.l0.eq_2 _ _ _ _ _ _ _ k) ?_
    simp (disch := omega) only [if_neg]
    have j2t : (st < 0 ∨ st ≥ N) → Ev (fun k => coppicerref_GrammarCheck.j2 k true K N st rs) (if st < 0 ∨ st ≥ N then 2 else if rs.any (ruleBad K N) = true then 2 else 0) := by
      intro h
      rw [if_pos h]
      refine Ev.step (fun k => coppicerref_GrammarCheck.j2.eq_2 _ _ _ _ _ k) ?_
      simp only [if_true]; exact Ev.now _
    by_cases d1 : st < 0
    · simp only [if_pos d1]; exact j2t (.inl d1)
    by_cases d2 : st ≥ N
    · simp only [if_neg d1, decide_eq_true d2]; exact j2t (.inr d2)
    · simp only [if_neg d1, decide_eq_false d2]
      rw [if_neg (by omega)]
      refine Ev.step (fun k => coppicerref_GrammarCheck.j2.eq_2 _ _ _ _ _ k) ?_
      simp only [Bool.false_eq_true, if_false]
      exact rcheck_l1 K N st rs (by omega) (by omega) (by omega) (by omega) (by omega) c6
  · intro i h0 h1 hb
    refine Ev.step (fun k => coppicerref_GrammarCheck.l0.eq_2 _ _ _ _ _ _ _ k) ?_
    simp only [decide_eq_true_eq] at hb
    simp (disch := omega) only [if_pos]; exact Ev.now _
  · intro i r h0 h1 hb hr
    refine Ev.step (fun k => coppicerref_GrammarCheck.l0.eq_2 _ _ _ _ _ _ _ k) ?_
    simp only [decide_eq_false_iff_not] at hb
    simp (disch := omega) only [if_pos, if_neg, w64]; exact hr

/-! ### grammars that may be -/
structure GOK (K N st : Int) (rs : List S35) : Prop where
  K0 : 1 ≤ K
  K1 : K ≤ 3
  N0 : 1 ≤ N
  N1 : N ≤ 5
  len : rs.length ≤ 10
  s0 : 0 ≤ st
  s1 : st < N
  rl : ∀ r ∈ rs, r.f1.length ≤ 4
  r0 : ∀ r ∈ rs, 0 ≤ r.f0
  r1 : ∀ r ∈ rs, r.f0 < N
  x0 : ∀ r ∈ rs, ∀ x ∈ r.f1, 0 ≤ x
  x1 : ∀ r ∈ rs, ∀ x ∈ r.f1, x < K + N
theorem gcode_ok {K N st : Int} {rs : List S35} (h : gcode K N st rs = 0) : GOK K N st rs := by
  unfold gcode at h
  split at h
  · omega
  rename_i h1
  split at h
  · omega
  rename_i h2
  split at h
  · omega
  rename_i h3
  simp only [not_or] at h1 h2
  have h4 : (rs.any fun r => decide ((r.f1.length : Int) > 4)) = false := by simpa using h1.2.2.2.2.2
  have h5 : rs.any (ruleBad K N) = false := by simpa using h3
  rw [List.any_eq_false] at h4 h5
  have h6 : ∀ r ∈ rs, 0 ≤ r.f0 ∧ r.f0 < N ∧ ∀ x ∈ r.f1, 0 ≤ x ∧ x < K + N := by
    intro r hr
    have h7 : ruleBad K N r = false := by simpa using h5 r hr
    unfold ruleBad at h7
    simp only [Bool.or_eq_false_iff, decide_eq_false_iff_not, List.any_eq_false] at h7
    refine ⟨by omega, by omega, fun x hx => ?_⟩
    have h8 := h7.2.2 x hx
    unfold sgnBad at h8
    simp only [Bool.or_eq_true, decide_eq_true_eq, not_or] at h8
    omega
  refine ⟨by omega, by omega, by omega, by omega, by omega, by omega, by omega, ?_, fun r hr => (h6 r hr).1, fun r hr => (h6 r hr).2.1, fun r hr x hx => ((h6 r hr).2.2 x hx).1, fun r hr x hx => ((h6 r hr).2.2 x hx).2⟩
  intro r hr
  have := h4 r hr
  simp only [decide_eq_true_eq] at this; omega

/-! ### plain rules -/
theorem anyO_ev {α : Type} {f : Nat → α → Option Bool} {p : α → Bool} : ∀ l : List α, (∀ x ∈ l, Ev (fun k => f k x) (p x)) → Ev (fun k => anyO (f k) l) (l.any p)
  | [], _ => Ev.now _
  | x :: l, h => by
    have ih := anyO_ev (f := f) (p := p) l (fun y hy => h y (by simp [hy]))
    show Ev (fun k => (f k x).bind fun b => if b = true then some true else anyO (f k) l) _
    refine Ev.bind (h x (by simp)) ?_
    rw [List.any_cons]
    cases p x with
    | true => simp only [if_true, Bool.true_or]; exact Ev.now _
    | false => simp only [Bool.false_eq_true, if_false, Bool.false_or]; exact ih
def cntK (K : Int) : List Int → Nat
  | [] => 0
  | x :: l => (if x ≥ K then 1 else 0) + cntK K l
def plainB (K : Int) (l : List Int) : Bool := (decide (l.length = 1) && decide (cntK K l = 0)) || (decide (l.length = 2) && decide (cntK K l = 2))
theorem cntK_le (K : Int) : ∀ l : List Int, cntK K l ≤ l.length
  | [] => Nat.le_refl _
  | x :: l => by
    have := cntK_le K l
    simp only [cntK, List.length_cons]
    split <;> omega
theorem plain1_ev (K N st : Int) (rs : List S35) (n : Int) (l : List Int) (hl : l.length ≤ 1000) : Ev (fun k => plain_plain_1.f k n l K N st rs) (!(plainB K l)) := by
  have hc := cntK_le K l
  unfold plain_plain_1.f
  refine Ev.loop (L := fun k i (c : Nat) => plain_plain_1.l0 k (c : Int) l (l.length : Int) i K N st rs n l) (n := l.length) (fun i c => c + cntK K (l.drop i.toNat) = cntK K l) ?_ ?_ 0 0 (Int.le_refl _) (by omega) (by simp)
  · intro c g
    rw [Int.toNat_natCast, List.drop_length] at g
    have g : c = cntK K l := g
    refine Ev.step (fun k => plain_plain_1.l0.eq_2 _ _ _ _ _ _ _ _ _ _ k) ?_
    refine Ev.neg (by omega) ?_
    rw [g]
    unfold plainB
    by_cases a : (l.length : Int) = 1
    · refine Ev.pos a ?_
      rw [decide_eq_true (show l.length = 1 by omega), decide_eq_false (show ¬ l.length = 2 by omega)]
      by_cases b : ((cntK K l : Nat) : Int) = 0
      · refine Ev.pos b ?_
        rw [decide_eq_true (show cntK K l = 0 by omega)]; exact Ev.now _
      · refine Ev.neg b (Ev.neg (by omega) ?_)
        rw [decide_eq_false (show ¬ cntK K l = 0 by omega)]; exact Ev.now _
    · refine Ev.neg a ?_
      rw [decide_eq_false (show ¬ l.length = 1 by omega)]
      by_cases b : (l.length : Int) = 2
      · refine Ev.pos b ?_
        rw [decide_eq_true (show l.length = 2 by omega)]
        by_cases d : cntK K l = 2
        · rw [d]; exact Ev.now _
        · rw [decide_eq_false d, show (((cntK K l : Nat) : Int) == 2) = false by rw [beq_eq_false_iff_ne]; omega]; exact Ev.now _
      · refine Ev.neg b ?_
        rw [decide_eq_false (show ¬ l.length = 2 by omega)]; exact Ev.now _
  · intro i c h0 h1 g
    right
    rw [rd_cons h0 h1] at g
    simp only [cntK] at g
    by_cases a : rd l i ≥ K
    · rw [if_pos a] at g
      refine ⟨c + 1, by omega, ?_⟩
      intro h
      refine Ev.step (fun k => plain_plain_1.l0.eq_2 _ _ _ _ _ _ _ _ _ _ k) ?_
      refine Ev.pos h1 (Ev.pos h0 (Ev.pos h1 (Ev.pos a ?_)))
      rw [w64 (by omega) (by omega), w64 (by omega) (by omega)]
      exact h
    · rw [if_neg a] at g
      refine ⟨c, by omega, ?_⟩
      intro h
      refine Ev.step (fun k => plain_plain_1.l0.eq_2 _ _ _ _ _ _ _ _ _ _ k) ?_
      refine Ev.pos h1 (Ev.pos h0 (Ev.pos h1 (Ev.neg a ?_)))
      rw [w64 (by omega) (by omega)]
      exact h
theorem rplain_ev (K N st : Int) (rs : List S35) (G : GOK K N st rs) : Ev (fun k => coppicerref_Plain.f k K N st rs) (!(rs.any fun r => !(plainB K r.f1))) := by
  have hlen := G.len
  unfold coppicerref_Plain.f
  have := Ev.firstBad (L := fun k i => coppicerref_Plain.l0 k rs (rs.length : Int) i K N st rs) (l := rs) (rdf := rd_T35 rs) (bad := fun r => !(plainB K r.f1)) (c := false) (fin := true) (fun i h0 h1 => rd_rule h0 h1) ?_ ?_ ?_
  · cases h : rs.any fun r => !(plainB K r.f1) <;> rw [h] at this <;> exact this
  · intro _
    refine Ev.step (fun k => coppicerref_Plain.l0.eq_2 _ _ _ _ _ _ _ k) ?_
    exact Ev.neg (by omega) (Ev.now _)
  all_goals
    have key : ∀ (i : Int) (R : Bool), 0 ≤ i → i < rs.length → (plainB K (rd_T35 rs i).f1 = true → Ev (fun k => coppicerref_Plain.l0 k rs (rs.length : Int) (i + 1) K N st rs) R) → (plainB K (rd_T35 rs i).f1 = false → R = false) → Ev (fun k => coppicerref_Plain.l0 k rs (rs.length : Int) i K N st rs) R := by
      intro i R h0 h1 hok hno
      have hm := rule_mem h0 h1
      obtain ⟨r, hr⟩ : ∃ r, rd_T35 rs i = r := ⟨_, rfl⟩
      rw [hr] at hok hno hm
      have hx0 := G.x0 r hm
      refine Ev.step (fun k => coppicerref_Plain.l0.eq_2 _ _ _ _ _ _ _ k) ?_
      rw [hr]
      refine Ev.pos h1 (Ev.pos h0 (Ev.pos h1 ?_))
      obtain ⟨f0, l⟩ := r
      have hx0 : ∀ x ∈ l, 0 ≤ x := hx0
      have hok : plainB K l = true → _ := hok
      have hno : plainB K l = false → _ := hno
      show Ev (fun k => if (l.length : Int) = 1 then _ else _) R
      match l, hx0, hok, hno with
      | [], _, hok, hno =>
        refine Ev.neg (by simp) ?_
        refine Ev.step (fun k => coppicerref_Plain.j1.eq_2 _ _ _ _ _ _ _ _ _ _ k) ?_
        refine Ev.neg (by simp) (Ev.neg (by simp) ?_)
        rw [hno (by simp [plainB])]; exact Ev.now _
      | [a], hx0, hok, hno =>
        have ha := hx0 a (by simp)
        refine Ev.pos (by simp) (Ev.pos (by simp) (Ev.pos (show rd [a] 0 ≥ 0 from ha) ?_))
        refine Ev.step (fun k => coppicerref_Plain.j1.eq_2 _ _ _ _ _ _ _ _ _ _ k) ?_
        rw [w64 (show -9223372036854775808 ≤ i + 1 by omega) (by omega)]
        by_cases c : a < K
        · refine Ev.pos (decide_eq_true (show rd [a] 0 < K from c)) (hok ?_)
          have : ¬ a ≥ K := by omega
          simp [plainB, cntK, this]
        · refine Ev.neg (by rw [decide_eq_false (show ¬ rd [a] 0 < K from c)]; simp) (Ev.neg (by simp) ?_)
          have : a ≥ K := by omega
          rw [hno (by simp [plainB, cntK, this])]; exact Ev.now _
      | [a, b], hx0, hok, hno =>
        refine Ev.neg (by simp) ?_
        refine Ev.step (fun k => coppicerref_Plain.j1.eq_2 _ _ _ _ _ _ _ _ _ _ k) ?_
        rw [w64 (show -9223372036854775808 ≤ i + 1 by omega) (by omega)]
        refine Ev.neg (by simp) (Ev.pos (by simp) (Ev.pos (by simp) ?_))
        by_cases c : a < K
        · refine Ev.pos (show rd [a, b] 0 < K from c) ?_
          have : ¬ a ≥ K := by omega
          have e : plainB K [a, b] = false := by
            simp only [plainB, cntK, if_neg this]
            split <;> simp
          rw [hno e]; exact Ev.now _
        · refine Ev.neg (show ¬ rd [a, b] 0 < K from c) (Ev.pos (by simp) ?_)
          have ha : a ≥ K := by omega
          by_cases d : b < K
          · refine Ev.pos (show rd [a, b] 1 < K from d) ?_
            have : ¬ b ≥ K := by omega
            rw [hno (by simp [plainB, cntK, this, ha])]; exact Ev.now _
          · refine Ev.neg (show ¬ rd [a, b] 1 < K from d) (hok ?_)
            have hb : b ≥ K := by omega
            simp [plainB, cntK, ha, hb]
      | a :: b :: c :: m, hx0, hok, hno =>
        refine Ev.neg (by simp only [List.length_cons]; omega) ?_
        refine Ev.step (fun k => coppicerref_Plain.j1.eq_2 _ _ _ _ _ _ _ _ _ _ k) ?_
        refine Ev.neg (by simp) (Ev.neg (by simp only [List.length_cons]; omega) ?_)
        rw [hno (by simp [plainB])]; exact Ev.now _
  · intro i h0 h1 hb
    exact key i false h0 h1 (fun q => by simp [q] at hb) (fun _ => rfl)
  · intro i r h0 h1 hb hr
    exact key i r h0 h1 (fun _ => hr) (fun q => by simp [q] at hb)
theorem PlainIs : coppicerlaw_PlainIs.Pure := by
  unfold coppicerlaw_PlainIs.Pure
  intro K N st rs _ _ _ _
  apply Ev.rounds
  unfold coppicerlaw_PlainIs.f plain_Is.f
  by_cases h : gcode K N st rs = 0
  · have G := gcode_ok h
    have h1 := gcheck_ev K N st rs
    have h2 := rcheck_ev K N st rs
    rw [h] at h1 h2
    refine Ev.bind (Ev.bind h1 (a := 0) (r := (!(rs.any fun r => !(plainB K r.f1)), (0 : Int))) ?_) ?_
    · simp only [if_true]
      unfold plain_plain.f
      refine Ev.bind (Ev.bind (a := rs.any fun r => !(plainB K r.f1)) ?_ (Ev.now _)) (Ev.now _)
      unfold plain_plain_1_any.f
      exact anyO_ev (f := fun k (x : S35) => plain_plain_1.f k x.f0 x.f1 K N st rs) rs (fun r hr => plain1_ev K N st rs r.f0 r.f1 (by have := G.rl r hr; omega))
    refine Ev.bind h2 ?_
    simp only [if_true]
    refine Ev.bind (rplain_ev K N st rs G) ?_
    simp only [beq_self_eq_true]; exact Ev.now _
  · refine Ev.bind (Ev.bind (gcheck_ev K N st rs) (r := (false, gcode K N st rs)) ?_) ?_
    · simp only [if_neg h]; exact Ev.now _
    refine Ev.bind (rcheck_ev K N st rs) ?_
    simp only [if_neg h, if_true]; exact Ev.now _

end Go.Proofs.Ytndffegibjhdnaa.Pure
