/- The law GrammarSteps as a statement over numbers and lists alone: it holds under the bounds that the statement names. -/
import Derived.Test.YtnjfcbhbebokeaaStatGrammarSteps
set_option linter.unusedVariables false
set_option linter.unusedSimpArgs false
set_option linter.unusedSectionVars false
namespace Go.Proofs.Ytnjfcbhbebokeaa.Pure
open Go.RowKit Go.Proofs.Ytnjfcbhbebokeaa.PGrammarSteps Go.Proofs.YtnjfcbhbebokeaaW.PrintWords Go.Proofs.YtnjfcbhbebokeaaW.PrintLast Go.Proofs.YtnjfcbhbebokeaaW.PrintMore

/-! ### base: words for every pure text -/
theorem w64 {x : Int} (h0 : -9223372036854775808 ≤ x) (h1 : x ≤ 9223372036854775807) : wrap64 x = x := by unfold wrap64; omega
theorem Ev.pos {α : Type} {c : Prop} [Decidable c] {g f : Nat → Option α} {r : α} (h : c) (e : Ev g r) : Ev (fun k => if c then g k else f k) r := Ev.congr (fun k => by rw [if_pos h]) e
theorem Ev.neg {α : Type} {c : Prop} [Decidable c] {g f : Nat → Option α} {r : α} (h : ¬ c) (e : Ev f r) : Ev (fun k => if c then g k else f k) r := Ev.congr (fun k => by rw [if_neg h]) e
theorem Ev.val {α : Type} {r q : α} (h : r = q) : Ev (fun _ => some r) q := by subst h; exact Ev.now r
theorem rd_getElem {l : List Int} {i : Int} (h1 : i.toNat < l.length) : rd l i = l[i.toNat] := by simp [rd, List.getD_eq_getElem?_getD, List.getElem?_eq_getElem h1]
theorem drop_rd {l : List Int} {i : Int} (h0 : 0 ≤ i) (h1 : i < l.length) : l.drop i.toNat = rd l i :: l.drop (i + 1).toNat := by
  have h : i.toNat < l.length := by omega
  rw [rd_getElem h, List.drop_eq_getElem_cons h]; congr 2; omega
theorem take_rd {l : List Int} {i : Int} (h0 : 0 ≤ i) (h1 : i < l.length) : l.take (i + 1).toNat = l.take i.toNat ++ [rd l i] := by
  have h : i.toNat < l.length := by omega
  have e : (i + 1).toNat = i.toNat + 1 := by omega
  rw [rd_getElem h, e, List.take_succ_eq_append_getElem h]
theorem rd_drop (l : List Int) (n : Nat) (i : Int) (h0 : 0 ≤ i) : rd (l.drop n) i = rd l (i + n) := by
  have e : (i + n).toNat = n + i.toNat := by omega
  simp only [rd, List.getD_eq_getElem?_getD, List.getElem?_drop, e]
theorem rd_take (l : List Int) (n : Nat) (i : Int) (h0 : 0 ≤ i) (h1 : i < n) : rd (l.take n) i = rd l i := by
  simp only [rd, List.getD_eq_getElem?_getD]; rw [List.getElem?_take_of_lt (by omega)]
theorem drop_all {α : Type} (l : List α) (n : Nat) (h : l.length ≤ n) : l.drop n = [] := List.drop_eq_nil_of_le h
theorem dec_ne {a b : Int} {l m : List Int} (h : a ≠ b) : decide (a :: l = b :: m) = false := decide_eq_false (fun q => h (List.cons.inj q).1)
theorem Ev.no {p : Prop} [Decidable p] (h : ¬ p) : Ev (fun _ => some false) (decide p) := Ev.val (decide_eq_false h).symm
theorem Ev.yes {p : Prop} [Decidable p] (h : p) : Ev (fun _ => some true) (decide p) := Ev.val (decide_eq_true h).symm
theorem ext_rd {a b : List Int} (hl : a.length = b.length) (h : ∀ i : Int, 0 ≤ i → i < a.length → rd a i = rd b i) : a = b := by
  apply List.ext_getElem hl
  intro i h1 h2
  have := h i (by omega) (by omega)
  rwa [rd_getElem (by simpa using h1), rd_getElem (by simpa using h2)] at this
theorem wf_u8 {x : Int} (h : (Lit.int .u8 x).wf = true) : 0 ≤ x ∧ x ≤ 255 := by simpa [Lit.wf, IntKind.min, IntKind.max, IntKind.signed, IntKind.bits] using h
theorem wf_u32 {x : Int} (h : (Lit.int .u32 x).wf = true) : 0 ≤ x ∧ x ≤ 4294967295 := by simpa [Lit.wf, IntKind.min, IntKind.max, IntKind.signed, IntKind.bits] using h
theorem wf_i64 {x : Int} (h : (Lit.int .i64 x).wf = true) : -9223372036854775808 ≤ x ∧ x ≤ 9223372036854775807 := by simpa [Lit.wf, IntKind.min, IntKind.max, IntKind.signed, IntKind.bits] using h
theorem rd_mem {l : List Int} {i : Int} (h0 : 0 ≤ i) (h1 : i < l.length) : rd l i ∈ l := by
  rw [rd_getElem (by omega)]; exact List.getElem_mem _
theorem rd_u8 {l : List Int} (hw : ∀ x ∈ l, (Lit.int .u8 x).wf = true) {i : Int} (h0 : 0 ≤ i) (h1 : i < l.length) : 0 ≤ rd l i ∧ rd l i ≤ 255 := wf_u8 (hw _ (rd_mem h0 h1))
theorem tm {a b : Int} (h : 0 ≤ a) : Int.tmod a b = a % b := Int.tmod_eq_emod_of_nonneg h
theorem td {a b : Int} (h : 0 ≤ a) : Int.tdiv a b = a / b := Int.tdiv_eq_ediv_of_nonneg h

/-! ### loops, round by round -/
theorem anyO_some {α : Type} (p : α → Bool) : ∀ l : List α, anyO (fun x => some (p x)) l = some (l.any p)
  | [] => rfl
  | x :: l => by
    unfold anyO
    rw [Option.bind_some, anyO_some p l, List.any_cons]
    cases p x <;> simp
theorem anyO_of {α : Type} {f : α → Option Bool} {p : α → Bool} {l : List α} (h : ∀ x ∈ l, f x = some (p x)) : anyO f l = some (l.any p) := by
  induction l with
  | nil => rfl
  | cons x l ih =>
    unfold anyO
    rw [h x (by simp), Option.bind_some, ih (fun y hy => h y (by simp [hy])), List.any_cons]
    cases p x <;> simp
theorem Ev.loop {σ ρ : Type} {L : Nat → Int → σ → Option ρ} {n : Int} {r : ρ} (I : Int → σ → Prop)
    (hend : ∀ s, I n s → Ev (fun k => L k n s) r)
    (hstep : ∀ i s, 0 ≤ i → i < n → I i s → Ev (fun k => L k i s) r ∨ ∃ s', I (i + 1) s' ∧ (Ev (fun k => L k (i + 1) s') r → Ev (fun k => L k i s) r)) :
    ∀ (i : Int) (s : σ), 0 ≤ i → i ≤ n → I i s → Ev (fun k => L k i s) r := by
  have key : ∀ (d : Nat) (i : Int) (s : σ), 0 ≤ i → i + d = n → I i s → Ev (fun k => L k i s) r := by
    intro d
    induction d with
    | zero => intro i s h0 h1 hI; obtain rfl : i = n := by omega
              exact hend s hI
    | succ d ih =>
      intro i s h0 h1 hI
      rcases hstep i s h0 (by omega) hI with h | ⟨s', h', h⟩
      · exact h
      · exact h (ih (i + 1) s' (by omega) (by omega) h')
  intro i s h0 h1 hI
  exact key (n - i).toNat i s h0 (by omega) hI
/-- The first element that is bad ends a loop. -/
theorem Ev.firstBad {α ρ : Type} {L : Nat → Int → Option ρ} {l : List α} {rdf : Int → α} {bad : α → Bool} {c fin : ρ}
    (hrd : ∀ i : Int, 0 ≤ i → i < l.length → l.drop i.toNat = rdf i :: l.drop (i + 1).toNat)
    (hend : l.any bad = false → Ev (fun k => L k l.length) fin)
    (hbad : ∀ i : Int, 0 ≤ i → i < l.length → bad (rdf i) = true → Ev (fun k => L k i) c)
    (hgood : ∀ (i : Int) (r : ρ), 0 ≤ i → i < l.length → bad (rdf i) = false → Ev (fun k => L k (i + 1)) r → Ev (fun k => L k i) r) :
    Ev (fun k => L k 0) (if l.any bad = true then c else fin) := by
  refine Ev.loop (σ := Unit) (L := fun k i _ => L k i) (n := l.length) (fun i _ => l.any bad = (l.drop i.toNat).any bad) ?_ ?_ 0 () (Int.le_refl _) (by omega) rfl
  · intro _ h
    rw [Int.toNat_natCast, List.drop_length] at h
    have h : l.any bad = false := h
    rw [h]; exact hend h
  · intro i _ h0 h1 h
    rw [hrd i h0 h1, List.any_cons] at h
    cases hb : bad (rdf i) with
    | true => left; rw [h, hb]; exact hbad i h0 h1 hb
    | false => right; refine ⟨(), by rw [h, hb]; rfl, hgood i _ h0 h1 hb⟩
theorem rd_cons {l : List Int} {i : Int} (h0 : 0 ≤ i) (h1 : i < l.length) : l.drop i.toNat = rd l i :: l.drop (i + 1).toNat := drop_rd h0 h1

/-! ### rows of rows -/
theorem drop_rdL {l : List (List Int)} {i : Int} (h0 : 0 ≤ i) (h1 : i < l.length) : l.drop i.toNat = rd_L1 l i :: l.drop (i + 1).toNat := by
  have h : i.toNat < l.length := by omega
  have e : rd_L1 l i = l[i.toNat] := by simp [rd_L1, List.getD_eq_getElem?_getD, List.getElem?_eq_getElem h]
  rw [e, List.drop_eq_getElem_cons h]; congr 2; omega
theorem rdL_mem {l : List (List Int)} {i : Int} (h0 : 0 ≤ i) (h1 : i < l.length) : rd_L1 l i ∈ l := by
  have h : i.toNat < l.length := by omega
  have e : rd_L1 l i = l[i.toNat] := by simp [rd_L1, List.getD_eq_getElem?_getD, List.getElem?_eq_getElem h]
  rw [e]; exact List.getElem_mem _

/-! ### coppicerref_Ints -/
theorem Ints_l0 (a b : List Int) (hl : a.length = b.length) (hb : (a.length : Int) ≤ 4611686018427387904) (d : Nat) : ∀ i : Int, 0 ≤ i → i + d = a.length → Ev (fun k => coppicerref_Ints.l0 k a b i) (decide (a.drop i.toNat = b.drop i.toNat)) := by
  induction d with
  | zero =>
    intro i h0 hd
    refine Ev.step (fun k => coppicerref_Ints.l0.eq_2 _ _ _ k) ?_
    simp (disch := omega) only [if_pos, if_neg]
    exact Ev.val (by rw [List.drop_eq_nil_of_le (by omega), List.drop_eq_nil_of_le (by omega)]; simp)
  | succ d ih =>
    intro i h0 hd
    refine Ev.step (fun k => coppicerref_Ints.l0.eq_2 _ _ _ k) ?_
    simp (disch := omega) only [if_pos, w64]
    rw [drop_rd h0 (by omega), drop_rd (l := b) h0 (by omega)]
    by_cases h : rd a i = rd b i
    · simp only [if_pos h]
      exact Ev.congr (fun _ => rfl) (by simpa [h] using ih (i + 1) (by omega) (by omega))
    · simp only [if_neg h]
      exact Ev.val (by simp [h])
theorem Ints_ev (a b : List Int) (hb : (a.length : Int) ≤ 4611686018427387904) : Ev (fun k => coppicerref_Ints.f k a b) (decide (a = b)) := by
  unfold coppicerref_Ints.f
  by_cases hl : a.length = b.length
  · simp (disch := omega) only [if_pos]
    simpa using Ints_l0 a b hl hb a.length 0 (by omega) (by omega)
  · simp (disch := omega) only [if_neg]
    exact Ev.val (by simp; intro h; exact hl (by rw [h]))

/-! ### slices.Concat -/
theorem Concat_l1 (l : List (List Int)) (hl : l.length ≤ 4611686018427387904) (R : List Int) (hR : R.length < 17592186044416) (d : Nat) : ∀ (i : Int) (acc : List Int), 0 ≤ i → i + d = l.length → acc ++ (l.drop i.toNat).flatten = R →
    Ev (fun k => slices_Concat_Sint_int.l1 k acc l (l.length : Int) i) R := by
  induction d with
  | zero =>
    intro i acc h0 hd h
    refine Ev.step (fun k => slices_Concat_Sint_int.l1.eq_2 _ _ _ _ k) ?_
    simp (disch := omega) only [if_neg]
    rw [List.drop_eq_nil_of_le (by omega)] at h
    exact Ev.val (by simpa using h)
  | succ d ih =>
    intro i acc h0 hd h
    refine Ev.step (fun k => slices_Concat_Sint_int.l1.eq_2 _ _ _ _ k) ?_
    rw [drop_rdL h0 (by omega), List.flatten_cons, ← List.append_assoc] at h
    have hlen : acc.length + (rd_L1 l i).length ≤ R.length := by
      rw [← h]; simp only [List.length_append]; omega
    simp (disch := omega) only [if_pos, w64]
    exact ih (i + 1) _ (by omega) (by omega) h
theorem Concat_l0 (l : List (List Int)) (hl : l.length ≤ 4611686018427387904) (hR : l.flatten.length < 17592186044416) (d : Nat) : ∀ (i s : Int), 0 ≤ i → i + d = l.length → 0 ≤ s → s + (l.drop i.toNat).flatten.length = l.flatten.length →
    Ev (fun k => slices_Concat_Sint_int.l0 k l s l (l.length : Int) i) l.flatten := by
  induction d with
  | zero =>
    intro i s h0 hd hs h
    refine Ev.step (fun k => slices_Concat_Sint_int.l0.eq_2 _ _ _ _ _ k) ?_
    rw [List.drop_eq_nil_of_le (by omega)] at h
    simp only [List.flatten_nil, List.length_nil] at h
    simp (disch := omega) only [if_neg, slices_Grow_Sint_int.f, if_pos, Option.bind_some]
    exact Concat_l1 l hl _ hR l.length 0 [] (by omega) (by omega) (by simp)
  | succ d ih =>
    intro i s h0 hd hs h
    refine Ev.step (fun k => slices_Concat_Sint_int.l0.eq_2 _ _ _ _ _ k) ?_
    rw [drop_rdL h0 (by omega), List.flatten_cons, List.length_append] at h
    simp (disch := omega) only [if_pos, if_neg, w64]
    exact ih (i + 1) _ (by omega) (by omega) (by omega) (by omega)
theorem Concat_ev (l : List (List Int)) (hl : l.length ≤ 4611686018427387904) (hR : l.flatten.length < 17592186044416) : Ev (fun k => slices_Concat_Sint_int.f k l) l.flatten := by
  unfold slices_Concat_Sint_int.f
  exact Concat_l0 l hl hR l.length 0 0 (by omega) (by omega) (by omega) (by simp)

/-! ### grammars: what is wrong -/
theorem rd_rule {l : List S38} {i : Int} (h0 : 0 ≤ i) (h1 : i < l.length) : l.drop i.toNat = rd_T38 l i :: l.drop (i + 1).toNat := by
  have h : i.toNat < l.length := by omega
  have e : rd_T38 l i = l[i.toNat] := by simp [rd_T38, List.getD_eq_getElem?_getD, List.getElem?_eq_getElem h]
  rw [e, List.drop_eq_getElem_cons h]; congr 2; omega
theorem rule_mem {l : List S38} {i : Int} (h0 : 0 ≤ i) (h1 : i < l.length) : rd_T38 l i ∈ l := by
  have h : i.toNat < l.length := by omega
  have e : rd_T38 l i = l[i.toNat] := by simp [rd_T38, List.getD_eq_getElem?_getD, List.getElem?_eq_getElem h]
  rw [e]; exact List.getElem_mem _
def sgnBad (M x : Int) : Bool := decide (x < 0) || decide (x ≥ M)
def ruleBad (K N : Int) (r : S38) : Bool := decide (r.f0 < 0) || (decide (r.f0 ≥ N) || r.f1.any (sgnBad (K + N)))
def gcode (K N st : Int) (rs : List S38) : Int :=
  if K < 1 ∨ K > 3 ∨ N < 1 ∨ N > 5 ∨ (rs.length : Int) > 10 ∨ (rs.any fun r => decide ((r.f1.length : Int) > 4)) = true then 1
  else if st < 0 ∨ st ≥ N then 2 else if rs.any (ruleBad K N) = true then 2 else 0
theorem gcode_bad {K N st : Int} {rs : List S38} (h : K < 1 ∨ K > 3 ∨ N < 1 ∨ N > 5 ∨ (rs.length : Int) > 10 ∨ (rs.any fun r => decide ((r.f1.length : Int) > 4)) = true) : gcode K N st rs = 1 := by unfold gcode; rw [if_pos h]
section
variable (K N st : Int) (rs : List S38) (hK0 : 1 ≤ K) (hK1 : K ≤ 3) (hN0 : 1 ≤ N) (hN1 : N ≤ 5)
include hK0 hK1 hN0 hN1
theorem signs_eq (l : List Int) : grammar_signs.f K N st rs l = some (!(l.any (sgnBad (K + N)))) := by
  unfold grammar_signs.f grammar_signs_1_any.f
  have e : (fun x : Int => grammar_signs_1.f x K N st rs) = fun x => some (sgnBad (K + N) x) := by
    funext x
    unfold grammar_signs_1.f sgnBad
    rw [w64 (by omega) (by omega)]
    by_cases h : x < 0
    · rw [if_pos h]; simp [h]
    · rw [if_neg h]; simp [h]
  rw [e, anyO_some]; rfl
theorem refSigns_ev (l : List Int) (hl : l.length ≤ 140737488351232) : Ev (fun k => coppicerref_Signs.f k K N st rs l) (!(l.any (sgnBad (K + N)))) := by
  unfold coppicerref_Signs.f
  have := Ev.firstBad (L := fun k i => coppicerref_Signs.l0 k l (l.length : Int) i K N st rs) (l := l) (rdf := rd l) (bad := sgnBad (K + N)) (c := false) (fin := true) (fun i h0 h1 => rd_cons h0 h1) ?_ ?_ ?_
  · cases h : l.any (sgnBad (K + N)) <;> rw [h] at this <;> exact this
  · intro _
    refine Ev.step (fun k => coppicerref_Signs.l0.eq_2 _ _ _ _ _ _ _ k) ?_
    simp (disch := omega) only [if_neg]; exact Ev.now _
  · intro i h0 h1 hb
    refine Ev.step (fun k => coppicerref_Signs.l0.eq_2 _ _ _ _ _ _ _ k) ?_
    simp (disch := omega) only [if_pos, w64]
    unfold sgnBad at hb
    by_cases h : rd l i < 0
    · simp only [if_pos h]; exact Ev.now _
    · have h2 : rd l i ≥ K + N := by simpa [h] using hb
      simp only [if_neg h, if_pos h2]; exact Ev.now _
  · intro i r h0 h1 hb hr
    refine Ev.step (fun k => coppicerref_Signs.l0.eq_2 _ _ _ _ _ _ _ k) ?_
    unfold sgnBad at hb
    simp only [Bool.or_eq_false_iff, decide_eq_false_iff_not] at hb
    simp (disch := omega) only [if_pos, if_neg, w64]
    exact hr
theorem gcheck_l0 (hl : rs.length ≤ 10) : Ev (fun k => grammar_Check.l0 k rs (rs.length : Int) 0 K N st rs) (if rs.any (ruleBad K N) = true then 2 else 0) := by
  refine Ev.firstBad (L := fun k i => grammar_Check.l0 k rs (rs.length : Int) i K N st rs) (rdf := rd_T38 rs) (fun i h0 h1 => rd_rule h0 h1) ?_ ?_ ?_
  · intro _
    refine Ev.step (fun k => grammar_Check.l0.eq_2 _ _ _ _ _ _ _ k) ?_
    simp (disch := omega) only [if_neg]; exact Ev.now _
  · intro i h0 h1 hb
    refine Ev.step (fun k => grammar_Check.l0.eq_2 _ _ _ _ _ _ _ k) ?_
    simp (disch := omega) only [if_pos, signs_eq K N st rs hK0 hK1 hN0 hN1, Option.bind_some]
    unfold ruleBad at hb
    by_cases c1 : (rd_T38 rs i).f0 < 0
    · simp only [if_pos c1]; exact Ev.now _
    by_cases c2 : (rd_T38 rs i).f0 ≥ N
    · simp only [if_neg c1, if_pos c2]; exact Ev.now _
    have c3 : (rd_T38 rs i).f1.any (sgnBad (K + N)) = true := by simpa [c1, c2] using hb
    simp only [if_neg c1, if_neg c2, c3, Bool.not_true, Bool.false_eq_true, if_false]; exact Ev.now _
  · intro i r h0 h1 hb hr
    refine Ev.step (fun k => grammar_Check.l0.eq_2 _ _ _ _ _ _ _ k) ?_
    simp (disch := omega) only [if_pos, signs_eq K N st rs hK0 hK1 hN0 hN1, Option.bind_some, w64]
    unfold ruleBad at hb
    simp only [Bool.or_eq_false_iff, decide_eq_false_iff_not] at hb
    simp only [if_neg hb.1, if_neg hb.2.1, hb.2.2, Bool.not_false, if_true]
    exact hr
theorem rcheck_l1 (hl : rs.length ≤ 10) (hr : (rs.any fun r => decide ((r.f1.length : Int) > 4)) = false) : Ev (fun k => coppicerref_GrammarCheck.l1 k rs (rs.length : Int) 0 K N st rs) (if rs.any (ruleBad K N) = true then 2 else 0) := by
  have hs : ∀ i : Int, 0 ≤ i → i < rs.length → (rd_T38 rs i).f1.length ≤ 4 := by
    intro i h0 h1
    have := (List.any_eq_false.1 hr) _ (rule_mem h0 h1)
    simp only [decide_eq_true_eq] at this; omega
  refine Ev.firstBad (L := fun k i => coppicerref_GrammarCheck.l1 k rs (rs.length : Int) i K N st rs) (rdf := rd_T38 rs) (fun i h0 h1 => rd_rule h0 h1) ?_ ?_ ?_
  · intro _
    refine Ev.step (fun k => coppicerref_GrammarCheck.l1.eq_2 _ _ _ _ _ _ _ k) ?_
    simp (disch := omega) only [if_neg]; exact Ev.now _
  · intro i h0 h1 hb
    refine Ev.step (fun k => coppicerref_GrammarCheck.l1.eq_2 _ _ _ _ _ _ _ k) ?_
    simp (disch := omega) only [if_pos]
    unfold ruleBad at hb
    by_cases c1 : (rd_T38 rs i).f0 < 0
    · simp only [if_pos c1]; exact Ev.now _
    by_cases c2 : (rd_T38 rs i).f0 ≥ N
    · simp only [if_neg c1, if_pos c2]; exact Ev.now _
    have c3 : (rd_T38 rs i).f1.any (sgnBad (K + N)) = true := by simpa [c1, c2] using hb
    simp only [if_neg c1, if_neg c2]
    refine Ev.bind (refSigns_ev K N st rs hK0 hK1 hN0 hN1 _ (by have := hs i h0 h1; omega)) ?_
    simp only [c3, Bool.not_true, Bool.false_eq_true, if_false]; exact Ev.now _
  · intro i r h0 h1 hb hr
    refine Ev.step (fun k => coppicerref_GrammarCheck.l1.eq_2 _ _ _ _ _ _ _ k) ?_
    simp (disch := omega) only [if_pos, w64]
    unfold ruleBad at hb
    simp only [Bool.or_eq_false_iff, decide_eq_false_iff_not] at hb
    simp only [if_neg hb.1, if_neg hb.2.1]
    refine Ev.bind (refSigns_ev K N st rs hK0 hK1 hN0 hN1 _ (by have := hs i h0 h1; omega)) ?_
    simp only [hb.2.2, Bool.not_false, if_true]
    exact hr
end
theorem gcheck_ev (K N st : Int) (rs : List S38) : Ev (fun k => grammar_Check.f k K N st rs) (gcode K N st rs) := by
  unfold grammar_Check.f
  have bad : (K < 1 ∨ K > 3 ∨ N < 1 ∨ N > 5 ∨ (rs.length : Int) > 10 ∨ (rs.any fun r => decide ((r.f1.length : Int) > 4)) = true) → Ev (fun k => grammar_Check.j0 k true K N st rs) (gcode K N st rs) := by
    intro h
    rw [gcode_bad h]
    refine Ev.step (fun k => grammar_Check.j0.eq_2 _ _ _ _ _ k) ?_
    simp only [if_true]; exact Ev.now _
  by_cases c1 : K < 1
  · simp only [if_pos c1]; exact bad (by omega)
  by_cases c2 : K > 3
  · simp only [if_neg c1, if_pos c2]; exact bad (by omega)
  by_cases c3 : N < 1
  · simp only [if_neg c1, if_neg c2, if_pos c3]; exact bad (by omega)
  by_cases c4 : N > 5
  · simp only [if_neg c1, if_neg c2, if_neg c3, if_pos c4]; exact bad (by omega)
  by_cases c5 : (rs.length : Int) > 10
  · simp only [if_neg c1, if_neg c2, if_neg c3, if_neg c4, if_pos c5]; exact bad (by omega)
  simp only [if_neg c1, if_neg c2, if_neg c3, if_neg c4, if_neg c5]
  have e : grammar_Check_1_any.f rs = some (rs.any fun r => decide ((r.f1.length : Int) > 4)) := anyO_some _ rs
  simp only [e, Option.bind_some]
  cases c6 : (rs.any fun r => decide ((r.f1.length : Int) > 4)) with
  | true => exact bad (.inr (.inr (.inr (.inr (.inr c6)))))
  | false =>
    refine Ev.step (fun k => grammar_Check.j0.eq_2 _ _ _ _ _ k) ?_
    have hg : gcode K N st rs = if st < 0 ∨ st ≥ N then 2 else if rs.any (ruleBad K N) = true then 2 else 0 := by
      unfold gcode; rw [if_neg (by rw [c6]; simp; omega)]
    have j1t : (st < 0 ∨ st ≥ N) → Ev (fun k => grammar_Check.j1 k true K N st rs) (gcode K N st rs) := by
      intro h
      rw [hg, if_pos h]
      refine Ev.step (fun k => grammar_Check.j1.eq_2 _ _ _ _ _ k) ?_
      simp only [if_true]; exact Ev.now _
    simp only [Bool.false_eq_true, if_false]
    by_cases d1 : st < 0
    · simp only [if_pos d1]; exact j1t (.inl d1)
    by_cases d2 : st ≥ N
    · simp only [if_neg d1, decide_eq_true d2]; exact j1t (.inr d2)
    · simp only [if_neg d1, decide_eq_false d2]
      rw [hg, if_neg (by omega)]
      refine Ev.step (fun k => grammar_Check.j1.eq_2 _ _ _ _ _ k) ?_
      simp only [Bool.false_eq_true, if_false]
      exact gcheck_l0 K N st rs (by omega) (by omega) (by omega) (by omega) (by omega)
theorem rcheck_ev (K N st : Int) (rs : List S38) : Ev (fun k => coppicerref_GrammarCheck.f k K N st rs) (gcode K N st rs) := by
  unfold coppicerref_GrammarCheck.f
  have bad : (K < 1 ∨ K > 3 ∨ N < 1 ∨ N > 5 ∨ (rs.length : Int) > 10 ∨ (rs.any fun r => decide ((r.f1.length : Int) > 4)) = true) → Ev (fun k => coppicerref_GrammarCheck.j0 k true K N st rs) (gcode K N st rs) := by
    intro h
    rw [gcode_bad h]
    refine Ev.step (fun k => coppicerref_GrammarCheck.j0.eq_2 _ _ _ _ _ k) ?_
    simp only [if_true]; exact Ev.now _
  by_cases c1 : K < 1
  · simp only [if_pos c1]; exact bad (by omega)
  by_cases c2 : K > 3
  · simp only [if_neg c1, if_pos c2]; exact bad (by omega)
  by_cases c3 : N < 1
  · simp only [if_neg c1, if_neg c2, if_pos c3]; exact bad (by omega)
  by_cases c4 : N > 5
  · simp only [if_neg c1, if_neg c2, if_neg c3, if_pos c4]; exact bad (by omega)
  simp only [if_neg c1, if_neg c2, if_neg c3, if_neg c4]
  by_cases c5 : (rs.length : Int) > 10
  · simp only [c5, decide_true]; exact bad (by omega)
  simp only [c5, decide_false]
  refine Ev.step (fun k => coppicerref_GrammarCheck.j0.eq_2 _ _ _ _ _ k) ?_
  simp only [Bool.false_eq_true, if_false]
  have hg : gcode K N st rs = if (rs.any fun r => decide ((r.f1.length : Int) > 4)) = true then 1 else if st < 0 ∨ st ≥ N then 2 else if rs.any (ruleBad K N) = true then 2 else 0 := by
    unfold gcode
    cases c6 : (rs.any fun r => decide ((r.f1.length : Int) > 4)) with
    | true => rw [if_pos (by simp), if_pos rfl]
    | false => rw [if_neg (by simp; omega)]; simp only [Bool.false_eq_true, if_false]
  rw [hg]
  refine Ev.firstBad (L := fun k i => coppicerref_GrammarCheck.l0 k rs (rs.length : Int) i K N st rs) (rdf := rd_T38 rs) (fun i h0 h1 => rd_rule h0 h1) ?_ ?_ ?_
  · intro c6
    refine Ev.step (fun k => coppicerref_GrammarCheck.l0.eq_2 _ _ _ _ _ _ _ k) ?_
    simp (disch := omega) only [if_neg]
    have j2t : (st < 0 ∨ st ≥ N) → Ev (fun k => coppicerref_GrammarCheck.j2 k true K N st rs) (if st < 0 ∨ st ≥ N then 2 else if rs.any (ruleBad K N) = true then 2 else 0) := by
      intro h
      rw [if_pos h]
      refine Ev.step (fun k => coppicerref_GrammarCheck.j2.eq_2 _ _ _ _ _ k) ?_
      simp only [if_true]; exact Ev.now _
    by_cases d1 : st < 0
    · simp only [if_pos d1]; exact j2t (.inl d1)
    by_cases d2 : st ≥ N
    · simp only [if_neg d1, decide_eq_true d2]; exact j2t (.inr d2)
    · simp only [if_neg d1, decide_eq_false d2]
      rw [if_neg (by omega)]
      refine Ev.step (fun k => coppicerref_GrammarCheck.j2.eq_2 _ _ _ _ _ k) ?_
      simp only [Bool.false_eq_true, if_false]
      exact rcheck_l1 K N st rs (by omega) (by omega) (by omega) (by omega) (by omega) c6
  · intro i h0 h1 hb
    refine Ev.step (fun k => coppicerref_GrammarCheck.l0.eq_2 _ _ _ _ _ _ _ k) ?_
    simp only [decide_eq_true_eq] at hb
    simp (disch := omega) only [if_pos]; exact Ev.now _
  · intro i r h0 h1 hb hr
    refine Ev.step (fun k => coppicerref_GrammarCheck.l0.eq_2 _ _ _ _ _ _ _ k) ?_
    simp only [decide_eq_false_iff_not] at hb
    simp (disch := omega) only [if_pos, if_neg, w64]; exact hr

/-! ### grammars that may be -/
structure GOK (K N st : Int) (rs : List S38) : Prop where
  K0 : 1 ≤ K
  K1 : K ≤ 3
  N0 : 1 ≤ N
  N1 : N ≤ 5
  len : rs.length ≤ 10
  s0 : 0 ≤ st
  s1 : st < N
  rl : ∀ r ∈ rs, r.f1.length ≤ 4
  r0 : ∀ r ∈ rs, 0 ≤ r.f0
  r1 : ∀ r ∈ rs, r.f0 < N
  x0 : ∀ r ∈ rs, ∀ x ∈ r.f1, 0 ≤ x
  x1 : ∀ r ∈ rs, ∀ x ∈ r.f1, x < K + N
theorem gcode_ok {K N st : Int} {rs : List S38} (h : gcode K N st rs = 0) : GOK K N st rs := by
  unfold gcode at h
  split at h
  · omega
  rename_i h1
  split at h
  · omega
  rename_i h2
  split at h
  · omega
  rename_i h3
  simp only [not_or] at h1 h2
  have h4 : (rs.any fun r => decide ((r.f1.length : Int) > 4)) = false := by simpa using h1.2.2.2.2.2
  have h5 : rs.any (ruleBad K N) = false := by simpa using h3
  rw [List.any_eq_false] at h4 h5
  have h6 : ∀ r ∈ rs, 0 ≤ r.f0 ∧ r.f0 < N ∧ ∀ x ∈ r.f1, 0 ≤ x ∧ x < K + N := by
    intro r hr
    have h7 : ruleBad K N r = false := by simpa using h5 r hr
    unfold ruleBad at h7
    simp only [Bool.or_eq_false_iff, decide_eq_false_iff_not, List.any_eq_false] at h7
    refine ⟨by omega, by omega, fun x hx => ?_⟩
    have h8 := h7.2.2 x hx
    unfold sgnBad at h8
    simp only [Bool.or_eq_true, decide_eq_true_eq, not_or] at h8
    omega
  refine ⟨by omega, by omega, by omega, by omega, by omega, by omega, by omega, ?_, fun r hr => (h6 r hr).1, fun r hr => (h6 r hr).2.1, fun r hr x hx => ((h6 r hr).2.2 x hx).1, fun r hr x hx => ((h6 r hr).2.2 x hx).2⟩
  intro r hr
  have := h4 r hr
  simp only [decide_eq_true_eq] at this; omega

section
variable (K N st : Int) (rs : List S38) (w : List Int) (p r : Int)
def sres : List Int := w.take p.toNat ++ ((rd_T38 rs r).f1 ++ w.drop (p + 1).toNat)
theorem steps_j9 (c : Int) (hc : c ≠ 0) : Ev (fun k => coppicerlaw_GrammarSteps.j9 k w p r [] c c K N st rs) true := by
  refine Ev.step (fun k => coppicerlaw_GrammarSteps.j9.eq_2 _ _ _ _ _ _ _ _ _ _ k) ?_
  simp only [if_neg hc, if_true]; exact Ev.now _
theorem steps_j7 (c : Int) (hc : c ≠ 0) : Ev (fun k => coppicerlaw_GrammarSteps.j7 k w p r [] c c K N st rs) true := by
  refine Ev.step (fun k => coppicerlaw_GrammarSteps.j7.eq_2 _ _ _ _ _ _ _ _ _ _ k) ?_
  simp only [if_neg hc]
  refine Ev.step (fun k => coppicerlaw_GrammarSteps.j8.eq_2 _ _ _ _ _ _ _ _ _ _ _ k) ?_
  simp only [Bool.false_eq_true, if_false]; exact steps_j9 K N st rs w p r c hc
theorem steps_j5 (c : Int) (hc : c ≠ 0) : Ev (fun k => coppicerlaw_GrammarSteps.j5 k w p r [] c c K N st rs) true := by
  refine Ev.step (fun k => coppicerlaw_GrammarSteps.j5.eq_2 _ _ _ _ _ _ _ _ _ _ k) ?_
  simp only [if_neg hc]
  refine Ev.step (fun k => coppicerlaw_GrammarSteps.j6.eq_2 _ _ _ _ _ _ _ _ _ _ _ k) ?_
  simp only [Bool.false_eq_true, if_false]; exact steps_j7 K N st rs w p r c hc
theorem steps_j3 (c : Int) (hc : c ≠ 0) : Ev (fun k => coppicerlaw_GrammarSteps.j3 k w p r [] c c K N st rs) true := by
  refine Ev.step (fun k => coppicerlaw_GrammarSteps.j3.eq_2 _ _ _ _ _ _ _ _ _ _ k) ?_
  simp only [if_neg hc]
  refine Ev.step (fun k => coppicerlaw_GrammarSteps.j4.eq_2 _ _ _ _ _ _ _ _ _ _ _ k) ?_
  simp only [Bool.false_eq_true, if_false]; exact steps_j5 K N st rs w p r c hc
theorem steps_j1 (c : Int) (hc : c ≠ 0) : Ev (fun k => coppicerlaw_GrammarSteps.j1 k w p r [] c c K N st rs) true := by
  refine Ev.step (fun k => coppicerlaw_GrammarSteps.j1.eq_2 _ _ _ _ _ _ _ _ _ _ k) ?_
  simp only [if_neg hc]
  refine Ev.step (fun k => coppicerlaw_GrammarSteps.j2.eq_2 _ _ _ _ _ _ _ _ _ _ _ k) ?_
  simp only [Bool.false_eq_true, if_false]; exact steps_j3 K N st rs w p r c hc
theorem rstep_eq (hw : w.length ≤ 60) (p0 : 0 ≤ p) (p1 : p < w.length) (r0 : 0 ≤ r) (r1 : r < rs.length) (hl : (rd_T38 rs r).f1.length ≤ 4) : coppicerref_Step.f K N st rs w p r = some (sres rs w p r) := by
  have h1 : (w.take p.toNat).length ≤ 60 := by rw [List.length_take]; omega
  have h2 : (w.drop (p + 1).toNat).length ≤ 60 := by rw [List.length_drop]; omega
  unfold coppicerref_Step.f sres
  simp (disch := omega) only [Option.bind_some, if_pos, w64, List.nil_append, List.length_nil, List.length_append, List.append_assoc]
theorem sres_len (hw : w.length ≤ 60) (hl : (rd_T38 rs r).f1.length ≤ 4) : (sres rs w p r).length ≤ 200 := by
  unfold sres
  simp only [List.length_append, List.length_take, List.length_drop]; omega
def stepS : List Int × Int :=
  if w.any (sgnBad (K + N)) = true then ([], 2) else if p < 0 ∨ p ≥ w.length ∨ r < 0 ∨ r ≥ rs.length then ([], 4) else if rd w p ≠ K + (rd_T38 rs r).f0 then ([], 3)
  else if ((sres rs w p r).length : Int) > 60 then ([], 1) else (sres rs w p r, 0)
theorem steps_ok (G : GOK K N st rs) (hw : w.length ≤ 60) : Ev (fun k => (grammar_signs.f K N st rs w).bind fun t127 => (if t127 = true then (if p < 0 then (grammar_Step.j0 k w p r true K N st rs) else (if p ≥ (w.length : Int) then (grammar_Step.j0 k w p r true K N st rs) else (if r < 0 then (grammar_Step.j0 k w p r true K N st rs) else (grammar_Step.j0 k w p r (decide (r ≥ (rs.length : Int))) K N st rs)))) else (some (([] : List Int), 2)))) (stepS K N rs w p r) ∧
    Ev (fun k => coppicerlaw_GrammarSteps.j1 k w p r (stepS K N rs w p r).1 (stepS K N rs w p r).2 0 K N st rs) true := by
  have hK0 := G.K0; have hK1 := G.K1; have hN0 := G.N0; have hN1 := G.N1; have hlen := G.len
  rw [signs_eq K N st rs hK0 hK1 hN0 hN1 w]
  have j1s : ∀ (l : List Int) (c : Int), Ev (fun k => coppicerlaw_GrammarSteps.j2 k w p r l c 0 (w.any (sgnBad (K + N))) K N st rs) true → Ev (fun k => coppicerlaw_GrammarSteps.j1 k w p r l c 0 K N st rs) true := by
    intro l c h
    refine Ev.step (fun k => coppicerlaw_GrammarSteps.j1.eq_2 _ _ _ _ _ _ _ _ _ _ k) ?_
    simp only [if_true]
    refine Ev.bind (refSigns_ev K N st rs hK0 hK1 hN0 hN1 w (by omega)) ?_
    simp only [Bool.not_not]; exact h
  cases c1 : w.any (sgnBad (K + N)) with
  | true =>
    have e : stepS K N rs w p r = ([], 2) := by unfold stepS; rw [if_pos c1]
    rw [e]
    refine ⟨by simp only [Option.bind_some, Bool.not_true, Bool.false_eq_true, if_false]; exact Ev.now _, ?_⟩
    refine j1s _ _ ?_
    rw [c1]
    refine Ev.step (fun k => coppicerlaw_GrammarSteps.j2.eq_2 _ _ _ _ _ _ _ _ _ _ _ k) ?_
    simp only [if_true]; exact steps_j3 K N st rs w p r 2 (by omega)
  | false =>
    simp only [Option.bind_some, Bool.not_false, if_true]
    by_cases c2 : p < 0 ∨ p ≥ w.length ∨ r < 0 ∨ r ≥ rs.length
    · have e : stepS K N rs w p r = ([], 4) := by unfold stepS; rw [if_neg (by simp [c1]), if_pos c2]
      rw [e]
      have a1 : Ev (fun k => grammar_Step.j0 k w p r true K N st rs) ([], 4) := by
        refine Ev.step (fun k => grammar_Step.j0.eq_2 _ _ _ _ _ _ _ _ k) ?_
        simp only [if_true]; exact Ev.now _
      have a2 : Ev (fun k => coppicerlaw_GrammarSteps.j4 k w p r [] 4 0 true K N st rs) true := by
        refine Ev.step (fun k => coppicerlaw_GrammarSteps.j4.eq_2 _ _ _ _ _ _ _ _ _ _ _ k) ?_
        simp only [if_true]; exact steps_j5 K N st rs w p r 4 (by omega)
      have go : Ev (fun k => coppicerlaw_GrammarSteps.j3 k w p r [] 4 0 K N st rs) true → Ev (fun k => coppicerlaw_GrammarSteps.j1 k w p r [] 4 0 K N st rs) true := by
        intro h
        refine j1s _ _ ?_
        rw [c1]
        refine Ev.step (fun k => coppicerlaw_GrammarSteps.j2.eq_2 _ _ _ _ _ _ _ _ _ _ _ k) ?_
        simp only [Bool.false_eq_true, if_false]; exact h
      by_cases d1 : p < 0
      · refine ⟨by simp only [if_pos d1]; exact a1, go ?_⟩
        refine Ev.step (fun k => coppicerlaw_GrammarSteps.j3.eq_2 _ _ _ _ _ _ _ _ _ _ k) ?_
        simp only [if_true, if_pos d1]; exact a2
      by_cases d2 : p ≥ w.length
      · refine ⟨by simp only [if_neg d1, if_pos d2]; exact a1, go ?_⟩
        refine Ev.step (fun k => coppicerlaw_GrammarSteps.j3.eq_2 _ _ _ _ _ _ _ _ _ _ k) ?_
        simp only [if_true, if_neg d1, if_pos d2]; exact a2
      by_cases d3 : r < 0
      · refine ⟨by simp only [if_neg d1, if_neg d2, if_pos d3]; exact a1, go ?_⟩
        refine Ev.step (fun k => coppicerlaw_GrammarSteps.j3.eq_2 _ _ _ _ _ _ _ _ _ _ k) ?_
        simp only [if_true, if_neg d1, if_neg d2, if_pos d3]; exact a2
      have d4 : r ≥ rs.length := by omega
      refine ⟨by simp only [if_neg d1, if_neg d2, if_neg d3, decide_eq_true d4]; exact a1, go ?_⟩
      refine Ev.step (fun k => coppicerlaw_GrammarSteps.j3.eq_2 _ _ _ _ _ _ _ _ _ _ k) ?_
      simp only [if_true, if_neg d1, if_neg d2, if_neg d3, decide_eq_true d4]; exact a2
    · have d1 : ¬ p < 0 := by omega
      have d2 : ¬ p ≥ w.length := by omega
      have d3 : ¬ r < 0 := by omega
      have d4 : ¬ r ≥ rs.length := by omega
      have hm := rule_mem (show 0 ≤ r by omega) (show r < rs.length by omega)
      have hl := G.rl _ hm
      have h0 := G.r0 _ hm
      have h1 := G.r1 _ hm
      simp only [if_neg d1, if_neg d2, if_neg d3, decide_eq_false d4]
      have go : ∀ (l : List Int) (c : Int), Ev (fun k => coppicerlaw_GrammarSteps.j6 k w p r l c 0 (rd w p != K + (rd_T38 rs r).f0) K N st rs) true → Ev (fun k => coppicerlaw_GrammarSteps.j1 k w p r l c 0 K N st rs) true := by
        intro l c h
        refine j1s _ _ ?_
        rw [c1]
        refine Ev.step (fun k => coppicerlaw_GrammarSteps.j2.eq_2 _ _ _ _ _ _ _ _ _ _ _ k) ?_
        simp only [Bool.false_eq_true, if_false]
        refine Ev.step (fun k => coppicerlaw_GrammarSteps.j3.eq_2 _ _ _ _ _ _ _ _ _ _ k) ?_
        simp only [if_true, if_neg d1, if_neg d2, if_neg d3, decide_eq_false d4]
        refine Ev.step (fun k => coppicerlaw_GrammarSteps.j4.eq_2 _ _ _ _ _ _ _ _ _ _ _ k) ?_
        simp only [Bool.false_eq_true, if_false]
        refine Ev.step (fun k => coppicerlaw_GrammarSteps.j5.eq_2 _ _ _ _ _ _ _ _ _ _ k) ?_
        simp (disch := omega) only [if_pos, w64]; exact h
      by_cases c3 : rd w p = K + (rd_T38 rs r).f0
      · have hq := rstep_eq K N st rs w p r hw (by omega) (by omega) (by omega) (by omega) hl
        have hlen2 := sres_len rs w p r hw hl
        have efl : ([w.take p.toNat, (rd_T38 rs r).f1, w.drop (p + 1).toNat] : List (List Int)).flatten = sres rs w p r := by simp [sres]
        have hcat := Concat_ev [w.take p.toNat, (rd_T38 rs r).f1, w.drop (p + 1).toNat] (by simp) (by rw [efl]; omega)
        rw [efl] at hcat
        have a : ∀ R, Ev (fun k => (if ((sres rs w p r).length : Int) > 60 then some (([] : List Int), (1 : Int)) else some (sres rs w p r, 0))) R → Ev (fun k => grammar_Step.j0 k w p r false K N st rs) R := by
          intro R hR
          refine Ev.step (fun k => grammar_Step.j0.eq_2 _ _ _ _ _ _ _ _ k) ?_
          simp (disch := omega) only [Bool.false_eq_true, if_false, if_pos, w64]
          exact Ev.bind hcat hR
        have b : ∀ (l : List Int) (c : Int), Ev (fun k => coppicerlaw_GrammarSteps.j8 k w p r l c 0 (decide (((sres rs w p r).length : Int) > 60)) K N st rs) true → Ev (fun k => coppicerlaw_GrammarSteps.j1 k w p r l c 0 K N st rs) true := by
          intro l c h
          refine go l c ?_
          refine Ev.step (fun k => coppicerlaw_GrammarSteps.j6.eq_2 _ _ _ _ _ _ _ _ _ _ _ k) ?_
          rw [c3]
          simp only [bne_self_eq_false, Bool.false_eq_true, if_false]
          refine Ev.step (fun k => coppicerlaw_GrammarSteps.j7.eq_2 _ _ _ _ _ _ _ _ _ _ k) ?_
          simp only [if_true, hq, Option.bind_some]; exact h
        by_cases c4 : ((sres rs w p r).length : Int) > 60
        · have e : stepS K N rs w p r = ([], 1) := by unfold stepS; rw [if_neg (by simp [c1]), if_neg c2, if_neg (by simp [c3]), if_pos c4]
          rw [e]
          refine ⟨a _ (by simp only [if_pos c4]; exact Ev.now _), b _ _ ?_⟩
          rw [decide_eq_true c4]
          refine Ev.step (fun k => coppicerlaw_GrammarSteps.j8.eq_2 _ _ _ _ _ _ _ _ _ _ _ k) ?_
          simp only [if_true]; exact steps_j9 K N st rs w p r 1 (by omega)
        · have e : stepS K N rs w p r = (sres rs w p r, 0) := by unfold stepS; rw [if_neg (by simp [c1]), if_neg c2, if_neg (by simp [c3]), if_neg c4]
          rw [e]
          refine ⟨a _ (by simp only [if_neg c4]; exact Ev.now _), b _ _ ?_⟩
          rw [decide_eq_false c4]
          refine Ev.step (fun k => coppicerlaw_GrammarSteps.j8.eq_2 _ _ _ _ _ _ _ _ _ _ _ k) ?_
          simp only [Bool.false_eq_true, if_false]
          refine Ev.step (fun k => coppicerlaw_GrammarSteps.j9.eq_2 _ _ _ _ _ _ _ _ _ _ k) ?_
          simp only [if_true, hq, Option.bind_some]
          refine Ev.bind (Ints_ev _ _ (by omega)) ?_
          rw [decide_eq_true rfl]; exact Ev.now _
      · have e : stepS K N rs w p r = ([], 3) := by unfold stepS; rw [if_neg (by simp [c1]), if_neg c2, if_pos c3]
        rw [e]
        refine ⟨?_, go _ _ ?_⟩
        · refine Ev.step (fun k => grammar_Step.j0.eq_2 _ _ _ _ _ _ _ _ k) ?_
          simp (disch := omega) only [Bool.false_eq_true, if_false, if_pos, w64, if_neg c3]; exact Ev.now _
        · refine Ev.step (fun k => coppicerlaw_GrammarSteps.j6.eq_2 _ _ _ _ _ _ _ _ _ _ _ k) ?_
          rw [show (rd w p != K + (rd_T38 rs r).f0) = true by simp [c3]]
          simp only [if_true]; exact steps_j7 K N st rs w p r 3 (by omega)
end
theorem GrammarSteps : coppicerlaw_GrammarSteps.Pure := by
  unfold coppicerlaw_GrammarSteps.Pure
  intro K N st rs w p r _ _ _ _ hw _ _
  intros
  apply Ev.rounds
  unfold coppicerlaw_GrammarSteps.f grammar_Step.f
  by_cases h : gcode K N st rs = 0
  · have G := gcode_ok h
    have h1 := gcheck_ev K N st rs
    have h2 := rcheck_ev K N st rs
    rw [h] at h1 h2
    by_cases c : (w.length : Int) > 60
    · refine Ev.bind (Ev.bind h1 (a := 0) (r := (([] : List Int), (1 : Int))) ?_) ?_
      · simp only [if_true, if_pos c]; exact Ev.now _
      refine Ev.bind h2 ?_
      simp only [if_true, decide_eq_true c]
      refine Ev.step (fun k => coppicerlaw_GrammarSteps.j0.eq_2 _ _ _ _ _ _ _ _ _ _ _ k) ?_
      simp only [if_true]; exact steps_j1 K N st rs w p r 1 (by omega)
    · have s := steps_ok K N st rs w p r G (by omega)
      refine Ev.bind (Ev.bind h1 (a := 0) (r := stepS K N rs w p r) ?_) ?_
      · simp only [if_true, if_neg c]; exact s.1
      refine Ev.bind h2 ?_
      simp only [if_true, decide_eq_false c]
      refine Ev.step (fun k => coppicerlaw_GrammarSteps.j0.eq_2 _ _ _ _ _ _ _ _ _ _ _ k) ?_
      simp only [Bool.false_eq_true, if_false]; exact s.2
  · refine Ev.bind (Ev.bind (gcheck_ev K N st rs) (r := (([] : List Int), gcode K N st rs)) ?_) ?_
    · simp only [if_neg h]; exact Ev.now _
    refine Ev.bind (rcheck_ev K N st rs) ?_
    simp only [if_neg h]
    refine Ev.step (fun k => coppicerlaw_GrammarSteps.j0.eq_2 _ _ _ _ _ _ _ _ _ _ _ k) ?_
    simp only [Bool.false_eq_true, if_false]; exact steps_j1 K N st rs w p r _ h

end Go.Proofs.Ytnjfcbhbebokeaa.Pure
