/- The law TableTrees as a statement over numbers and lists alone: it holds under the bounds that the statement names. -/
import Derived.Test.YtnppgmbhdomelaaStatTableTrees
set_option linter.unusedVariables false
set_option linter.unusedSimpArgs false
set_option linter.unusedSectionVars false
namespace Go.Proofs.Ytnppgmbhdomelaa.Pure
open Go.RowKit Go.Proofs.Ytnppgmbhdomelaa.PTableTrees Go.Proofs.YtnppgmbhdomelaaW.PrintWords Go.Proofs.YtnppgmbhdomelaaW.PrintLast Go.Proofs.YtnppgmbhdomelaaW.PrintMore

/-! ### base: words for every pure text -/
theorem w64 {x : Int} (h0 : -9223372036854775808 ≤ x) (h1 : x ≤ 9223372036854775807) : wrap64 x = x := by unfold wrap64; omega
theorem Ev.pos {α : Type} {c : Prop} [Decidable c] {g f : Nat → Option α} {r : α} (h : c) (e : Ev g r) : Ev (fun k => if c then g k else f k) r := Ev.congr (fun k => by rw [if_pos h]) e
theorem Ev.neg {α : Type} {c : Prop} [Decidable c] {g f : Nat → Option α} {r : α} (h : ¬ c) (e : Ev f r) : Ev (fun k => if c then g k else f k) r := Ev.congr (fun k => by rw [if_neg h]) e
theorem Ev.val {α : Type} {r q : α} (h : r = q) : Ev (fun _ => some r) q := by subst h; exact Ev.now r
theorem rd_getElem {l : List Int} {i : Int} (h1 : i.toNat < l.length) : rd l i = l[i.toNat] := by simp [rd, List.getD_eq_getElem?_getD, List.getElem?_eq_getElem h1]
theorem drop_rd {l : List Int} {i : Int} (h0 : 0 ≤ i) (h1 : i < l.length) : l.drop i.toNat = rd l i :: l.drop (i + 1).toNat := by
  have h : i.toNat < l.length := by omega
  rw [rd_getElem h, List.drop_eq_getElem_cons h]; congr 2; omega
theorem take_rd {l : List Int} {i : Int} (h0 : 0 ≤ i) (h1 : i < l.length) : l.take (i + 1).toNat = l.take i.toNat ++ [rd l i] := by
  have h : i.toNat < l.length := by omega
  have e : (i + 1).toNat = i.toNat + 1 := by omega
  rw [rd_getElem h, e, List.take_succ_eq_append_getElem h]
theorem rd_drop (l : List Int) (n : Nat) (i : Int) (h0 : 0 ≤ i) : rd (l.drop n) i = rd l (i + n) := by
  have e : (i + n).toNat = n + i.toNat := by omega
  simp only [rd, List.getD_eq_getElem?_getD, List.getElem?_drop, e]
theorem rd_take (l : List Int) (n : Nat) (i : Int) (h0 : 0 ≤ i) (h1 : i < n) : rd (l.take n) i = rd l i := by
  simp only [rd, List.getD_eq_getElem?_getD]; rw [List.getElem?_take_of_lt (by omega)]
theorem drop_all {α : Type} (l : List α) (n : Nat) (h : l.length ≤ n) : l.drop n = [] := List.drop_eq_nil_of_le h
theorem dec_ne {a b : Int} {l m : List Int} (h : a ≠ b) : decide (a :: l = b :: m) = false := decide_eq_false (fun q => h (List.cons.inj q).1)
theorem Ev.no {p : Prop} [Decidable p] (h : ¬ p) : Ev (fun _ => some false) (decide p) := Ev.val (decide_eq_false h).symm
theorem Ev.yes {p : Prop} [Decidable p] (h : p) : Ev (fun _ => some true) (decide p) := Ev.val (decide_eq_true h).symm
theorem ext_rd {a b : List Int} (hl : a.length = b.length) (h : ∀ i : Int, 0 ≤ i → i < a.length → rd a i = rd b i) : a = b := by
  apply List.ext_getElem hl
  intro i h1 h2
  have := h i (by omega) (by omega)
  rwa [rd_getElem (by simpa using h1), rd_getElem (by simpa using h2)] at this
theorem wf_u8 {x : Int} (h : (Lit.int .u8 x).wf = true) : 0 ≤ x ∧ x ≤ 255 := by simpa [Lit.wf, IntKind.min, IntKind.max, IntKind.signed, IntKind.bits] using h
theorem wf_u32 {x : Int} (h : (Lit.int .u32 x).wf = true) : 0 ≤ x ∧ x ≤ 4294967295 := by simpa [Lit.wf, IntKind.min, IntKind.max, IntKind.signed, IntKind.bits] using h
theorem wf_i64 {x : Int} (h : (Lit.int .i64 x).wf = true) : -9223372036854775808 ≤ x ∧ x ≤ 9223372036854775807 := by simpa [Lit.wf, IntKind.min, IntKind.max, IntKind.signed, IntKind.bits] using h
theorem rd_mem {l : List Int} {i : Int} (h0 : 0 ≤ i) (h1 : i < l.length) : rd l i ∈ l := by
  rw [rd_getElem (by omega)]; exact List.getElem_mem _
theorem rd_u8 {l : List Int} (hw : ∀ x ∈ l, (Lit.int .u8 x).wf = true) {i : Int} (h0 : 0 ≤ i) (h1 : i < l.length) : 0 ≤ rd l i ∧ rd l i ≤ 255 := wf_u8 (hw _ (rd_mem h0 h1))
theorem tm {a b : Int} (h : 0 ≤ a) : Int.tmod a b = a % b := Int.tmod_eq_emod_of_nonneg h
theorem td {a b : Int} (h : 0 ≤ a) : Int.tdiv a b = a / b := Int.tdiv_eq_ediv_of_nonneg h

/-! ### loops, round by round -/
theorem anyO_some {α : Type} (p : α → Bool) : ∀ l : List α, anyO (fun x => some (p x)) l = some (l.any p)
  | [] => rfl
  | x :: l => by
    unfold anyO
    rw [Option.bind_some, anyO_some p l, List.any_cons]
    cases p x <;> simp
theorem anyO_of {α : Type} {f : α → Option Bool} {p : α → Bool} {l : List α} (h : ∀ x ∈ l, f x = some (p x)) : anyO f l = some (l.any p) := by
  induction l with
  | nil => rfl
  | cons x l ih =>
    unfold anyO
    rw [h x (by simp), Option.bind_some, ih (fun y hy => h y (by simp [hy])), List.any_cons]
    cases p x <;> simp
theorem Ev.loop {σ ρ : Type} {L : Nat → Int → σ → Option ρ} {n : Int} {r : ρ} (I : Int → σ → Prop)
    (hend : ∀ s, I n s → Ev (fun k => L k n s) r)
    (hstep : ∀ i s, 0 ≤ i → i < n → I i s → Ev (fun k => L k i s) r ∨ ∃ s', I (i + 1) s' ∧ (Ev (fun k => L k (i + 1) s') r → Ev (fun k => L k i s) r)) :
    ∀ (i : Int) (s : σ), 0 ≤ i → i ≤ n → I i s → Ev (fun k => L k i s) r := by
  have key : ∀ (d : Nat) (i : Int) (s : σ), 0 ≤ i → i + d = n → I i s → Ev (fun k => L k i s) r := by
    intro d
    induction d with
    | zero => intro i s h0 h1 hI; obtain rfl : i = n := by omega
              exact hend s hI
    | succ d ih =>
      intro i s h0 h1 hI
      rcases hstep i s h0 (by omega) hI with h | ⟨s', h', h⟩
      · exact h
      · exact h (ih (i + 1) s' (by omega) (by omega) h')
  intro i s h0 h1 hI
  exact key (n - i).toNat i s h0 (by omega) hI
/-- The first element that is bad ends a loop. -/
theorem Ev.firstBad {α ρ : Type} {L : Nat → Int → Option ρ} {l : List α} {rdf : Int → α} {bad : α → Bool} {c fin : ρ}
    (hrd : ∀ i : Int, 0 ≤ i → i < l.length → l.drop i.toNat = rdf i :: l.drop (i + 1).toNat)
    (hend : l.any bad = false → Ev (fun k => L k l.length) fin)
    (hbad : ∀ i : Int, 0 ≤ i → i < l.length → bad (rdf i) = true → Ev (fun k => L k i) c)
    (hgood : ∀ (i : Int) (r : ρ), 0 ≤ i → i < l.length → bad (rdf i) = false → Ev (fun k => L k (i + 1)) r → Ev (fun k => L k i) r) :
    Ev (fun k => L k 0) (if l.any bad = true then c else fin) := by
  refine Ev.loop (σ := Unit) (L := fun k i _ => L k i) (n := l.length) (fun i _ => l.any bad = (l.drop i.toNat).any bad) ?_ ?_ 0 () (Int.le_refl _) (by omega) rfl
  · intro _ h
    rw [Int.toNat_natCast, List.drop_length] at h
    have h : l.any bad = false := h
    rw [h]; exact hend h
  · intro i _ h0 h1 h
    rw [hrd i h0 h1, List.any_cons] at h
    cases hb : bad (rdf i) with
    | true => left; rw [h, hb]; exact hbad i h0 h1 hb
    | false => right; refine ⟨(), by rw [h, hb]; rfl, hgood i _ h0 h1 hb⟩
theorem rd_cons {l : List Int} {i : Int} (h0 : 0 ≤ i) (h1 : i < l.length) : l.drop i.toNat = rd l i :: l.drop (i + 1).toNat := drop_rd h0 h1

/-! ### loops, told by what follows -/
theorem Ev.loopc {σ ρ : Type} {L : Nat → Int → σ → Option ρ} {n : Int} {r : ρ} (I : Int → σ → Prop)
    (hend : ∀ s, I n s → Ev (fun k => L k n s) r)
    (hstep : ∀ i s, 0 ≤ i → i < n → I i s → (∀ s', I (i + 1) s' → Ev (fun k => L k (i + 1) s') r) → Ev (fun k => L k i s) r) :
    ∀ (i : Int) (s : σ), 0 ≤ i → i ≤ n → I i s → Ev (fun k => L k i s) r := by
  have key : ∀ (d : Nat) (i : Int) (s : σ), 0 ≤ i → i + d = n → I i s → Ev (fun k => L k i s) r := by
    intro d
    induction d with
    | zero => intro i s h0 h1 hI; obtain rfl : i = n := by omega
              exact hend s hI
    | succ d ih =>
      intro i s h0 h1 hI
      exact hstep i s h0 (by omega) hI (fun s' h' => ih (i + 1) s' (by omega) (by omega) h')
  intro i s h0 h1 hI
  exact key (n - i).toNat i s h0 (by omega) hI

theorem isB (p : Prop) : ∃ R : Bool, R = true ↔ p := by
  by_cases h : p
  · exact ⟨true, by simp [h]⟩
  · exact ⟨false, by simp [h]⟩

/-! ### grammars: what is wrong -/
theorem rd_rule {l : List S45} {i : Int} (h0 : 0 ≤ i) (h1 : i < l.length) : l.drop i.toNat = rd_T45 l i :: l.drop (i + 1).toNat := by
  have h : i.toNat < l.length := by omega
  have e : rd_T45 l i = l[i.toNat] := by simp [rd_T45, List.getD_eq_getElem?_getD, List.getElem?_eq_getElem h]
  rw [e, List.drop_eq_getElem_cons h]; congr 2; omega
theorem rule_mem {l : List S45} {i : Int} (h0 : 0 ≤ i) (h1 : i < l.length) : rd_T45 l i ∈ l := by
  have h : i.toNat < l.length := by omega
  have e : rd_T45 l i = l[i.toNat] := by simp [rd_T45, List.getD_eq_getElem?_getD, List.getElem?_eq_getElem h]
  rw [e]; exact List.getElem_mem _
def sgnBad (M x : Int) : Bool := decide (x < 0) || decide (x ≥ M)
def ruleBad (K N : Int) (r : S45) : Bool := decide (r.f0 < 0) || (decide (r.f0 ≥ N) || r.f1.any (sgnBad (K + N)))
def gcode (K N st : Int) (rs : List S45) : Int :=
  if K < 1 ∨ K > 3 ∨ N < 1 ∨ N > 5 ∨ (rs.length : Int) > 10 ∨ (rs.any fun r => decide ((r.f1.length : Int) > 4)) = true then 1
  else if st < 0 ∨ st ≥ N then 2 else if rs.any (ruleBad K N) = true then 2 else 0
theorem gcode_bad {K N st : Int} {rs : List S45} (h : K < 1 ∨ K > 3 ∨ N < 1 ∨ N > 5 ∨ (rs.length : Int) > 10 ∨ (rs.any fun r => decide ((r.f1.length : Int) > 4)) = true) : gcode K N st rs = 1 := by unfold gcode; rw [if_pos h]
section
variable (K N st : Int) (rs : List S45) (hK0 : 1 ≤ K) (hK1 : K ≤ 3) (hN0 : 1 ≤ N) (hN1 : N ≤ 5)
include hK0 hK1 hN0 hN1
theorem signs_eq (l : List Int) : grammar_signs.f K N st rs l = some (!(l.any (sgnBad (K + N)))) := by
  unfold grammar_signs.f grammar_signs_1_any.f
  have e : (fun x : Int => grammar_signs_1.f x K N st rs) = fun x => some (sgnBad (K + N) x) := by
    funext x
    unfold grammar_signs_1.f sgnBad
    rw [w64 (by omega) (by omega)]
    by_cases h : x < 0
    · rw [if_pos h]; simp [h]
    · rw [if_neg h]; simp [h]
  rw [e, anyO_some]; rfl
theorem refSigns_ev (l : List Int) (hl : l.length ≤ 140737488351232) : Ev (fun k => coppicerref_Signs.f k K N st rs l) (!(l.any (sgnBad (K + N)))) := by
  unfold coppicerref_Signs.f
  have := Ev.firstBad (L := fun k i => coppicerref_Signs.l0 k l (l.length : Int) i K N st rs) (l := l) (rdf := rd l) (bad := sgnBad (K + N)) (c := false) (fin := true) (fun i h0 h1 => rd_cons h0 h1) ?_ ?_ ?_
  · cases h : l.any (sgnBad (K + N)) <;> rw [h] at this <;> exact this
  · intro _
    refine Ev.step (fun k => coppicerref_Signs.l0.eq_2 _ _ _ _ _ _ _ k) ?_
    simp (disch := omega) only [if_neg]; exact Ev.now _
  · intro i h0 h1 hb
    refine Ev.step (fun k => coppicerref_Signs.l0.eq_2 _ _ _ _ _ _ _ k) ?_
    simp (disch := omega) only [if_pos, w64]
    unfold sgnBad at hb
    by_cases h : rd l i < 0
    · simp only [if_pos h]; exact Ev.now _
    · have h2 : rd l i ≥ K + N := by simpa [h] using hb
      simp only [if_neg h, if_pos h2]; exact Ev.now _
  · intro i r h0 h1 hb hr
    refine Ev.step (fun k => coppicerref_Signs.l0.eq_2 _ _ _ _ _ _ _ k) ?_
    unfold sgnBad at hb
    simp only [Bool.or_eq_false_iff, decide_eq_false_iff_not] at hb
    simp (disch := omega) only [if_pos, if_neg, w64]
    exact hr
theorem gcheck_l0 (hl : rs.length ≤ 10) : Ev (fun k => grammar_Check.l0 k rs (rs.length : Int) 0 K N st rs) (if rs.any (ruleBad K N) = true then 2 else 0) := by
  refine Ev.firstBad (L := fun k i => grammar_Check.l0 k rs (rs.length : Int) i K N st rs) (rdf := rd_T45 rs) (fun i h0 h1 => rd_rule h0 h1) ?_ ?_ ?_
  · intro _
    refine Ev.step (fun k => grammar_Check.l0.eq_2 _ _ _ _ _ _ _ k) ?_
    simp (disch := omega) only [if_neg]; exact Ev.now _
  · intro i h0 h1 hb
    refine Ev.step (fun k => grammar_Check.l0.eq_2 _ _ _ _ _ _ _ k) ?_
    simp (disch := omega) only [if_pos, signs_eq K N st rs hK0 hK1 hN0 hN1, Option.bind_some]
    unfold ruleBad at hb
    by_cases c1 : (rd_T45 rs i).f0 < 0
    · simp only [if_pos c1]; exact Ev.now _
    by_cases c2 : (rd_T45 rs i).f0 ≥ N
    · simp only [if_neg c1, if_pos c2]; exact Ev.now _
    have c3 : (rd_T45 rs i).f1.any (sgnBad (K + N)) = true := by simpa [c1, c2] using hb
    simp only [if_neg c1, if_neg c2, c3, Bool.not_true, Bool.false_eq_true, if_false]; exact Ev.now _
  · intro i r h0 h1 hb hr
    refine Ev.step (fun k => grammar_Check.l0.eq_2 _ _ _ _ _ _ _ k) ?_
    simp (disch := omega) only [if_pos, signs_eq K N st rs hK0 hK1 hN0 hN1, Option.bind_some, w64]
    unfold ruleBad at hb
    simp only [Bool.or_eq_false_iff, decide_eq_false_iff_not] at hb
    simp only [if_neg hb.1, if_neg hb.2.1, hb.2.2, Bool.not_false, if_true]
    exact hr
theorem rcheck_l1 (hl : rs.length ≤ 10) (hr : (rs.any fun r => decide ((r.f1.length : Int) > 4)) = false) : Ev (fun k => coppicerref_GrammarCheck.l1 k rs (rs.length : Int) 0 K N st rs) (if rs.any (ruleBad K N) = true then 2 else 0) := by
  have hs : ∀ i : Int, 0 ≤ i → i < rs.length → (rd_T45 rs i).f1.length ≤ 4 := by
    intro i h0 h1
    have := (List.any_eq_false.1 hr) _ (rule_mem h0 h1)
    simp only [decide_eq_true_eq] at this; omega
  refine Ev.firstBad (L := fun k i => coppicerref_GrammarCheck.l1 k rs (rs.length : Int) i K N st rs) (rdf := rd_T45 rs) (fun i h0 h1 => rd_rule h0 h1) ?_ ?_ ?_
  · intro _
    refine Ev.step (fun k => coppicerref_GrammarCheck.l1.eq_2 _ _ _ _ _ _ _ k) ?_
    simp (disch := omega) only [if_neg]; exact Ev.now _
  · intro i h0 h1 hb
    refine Ev.step (fun k => coppicerref_GrammarCheck.l1.eq_2 _ _ _ _ _ _ _ k) ?_
    simp (disch := omega) only [if_pos]
    unfold ruleBad at hb
    by_cases c1 : (rd_T45 rs i).f0 < 0
    · simp only [if_pos c1]; exact Ev.now _
    by_cases c2 : (rd_T45 rs i).f0 ≥ N
    · simp only [if_neg c1, if_pos c2]; exact Ev.now _
    have c3 : (rd_T45 rs i).f1.any (sgnBad (K + N)) = true := by simpa [c1, c2] using hb
    simp only [if_neg c1, if_neg c2]
    refine Ev.bind (refSigns_ev K N st rs hK0 hK1 hN0 hN1 _ (by have := hs i h0 h1; omega)) ?_
    simp only [c3, Bool.not_true, Bool.false_eq_true, if_false]; exact Ev.now _
  · intro i r h0 h1 hb hr
    refine Ev.step (fun k => coppicerref_GrammarCheck.l1.eq_2 _ _ _ _ _ _ _ k) ?_
    simp (disch := omega) only [if_pos, w64]
    unfold ruleBad at hb
    simp only [Bool.or_eq_false_iff, decide_eq_false_iff_not] at hb
    simp only [if_neg hb.1, if_neg hb.2.1]
    refine Ev.bind (refSigns_ev K N st rs hK0 hK1 hN0 hN1 _ (by have := hs i h0 h1; omega)) ?_
    simp only [hb.2.2, Bool.not_false, if_true]
    exact hr
end
theorem gcheck_ev (K N st : Int) (rs : List S45) : Ev (fun k => grammar_Check.f k K N st rs) (gcode K N st rs) := by
  unfold grammar_Check.f
  have bad : (K < 1 ∨ K > 3 ∨ N < 1 ∨ N > 5 ∨ (rs.length : Int) > 10 ∨ (rs.any fun r => decide ((r.f1.length : Int) > 4)) = true) → Ev (fun k => grammar_Check.j0 k true K N st rs) (gcode K N st rs) := by
    intro h
    rw [gcode_bad h]
    refine Ev.step (fun k => grammar_Check.j0.eq_2 _ _ _ _ _ k) ?_
    simp only [if_true]; exact Ev.now _
  by_cases c1 : K < 1
  · simp only [if_pos c1]; exact bad (by omega)
  by_cases c2 : K > 3
  · simp only [if_neg c1, if_pos c2]; exact bad (by omega)
  by_cases c3 : N < 1
  · simp only [if_neg c1, if_neg c2, if_pos c3]; exact bad (by omega)
  by_cases c4 : N > 5
  · simp only [if_neg c1, if_neg c2, if_neg c3, if_pos c4]; exact bad (by omega)
  by_cases c5 : (rs.length : Int) > 10
  · simp only [if_neg c1, if_neg c2, if_neg c3, if_neg c4, if_pos c5]; exact bad (by omega)
  simp only [if_neg c1, if_neg c2, if_neg c3, if_neg c4, if_neg c5]
  have e : grammar_Check_1_any.f rs = some (rs.any fun r => decide ((r.f1.length : Int) > 4)) := anyO_some _ rs
  simp only [e, Option.bind_some]
  cases c6 : (rs.any fun r => decide ((r.f1.length : Int) > 4)) with
  | true => exact bad (.inr (.inr (.inr (.inr (.inr c6)))))
  | false =>
    refine Ev.step (fun k => grammar_Check.j0.eq_2 _ _ _ _ _ k) ?_
    have hg : gcode K N st rs = if st < 0 ∨ st ≥ N then 2 else if rs.any (ruleBad K N) = true then 2 else 0 := by
      unfold gcode; rw [if_neg (by rw [c6]; simp; omega)]
    have j1t : (st < 0 ∨ st ≥ N) → Ev (fun k => grammar_Check.j1 k true K N st rs) (gcode K N st rs) := by
      intro h
      rw [hg, if_pos h]
      refine Ev.step (fun k => grammar_Check.j1.eq_2 _ _ _ _ _ k) ?_
      simp only [if_true]; exact Ev.now _
    simp only [Bool.false_eq_true, if_false]
    by_cases d1 : st < 0
    · simp only [if_pos d1]; exact j1t (.inl d1)
    by_cases d2 : st ≥ N
    · simp only [if_neg d1, decide_eq_true d2]; exact j1t (.inr d2)
    · simp only [if_neg d1, decide_eq_false d2]
      rw [hg, if_neg (by omega)]
      refine Ev.step (fun k => grammar_Check.j1.eq_2 _ _ _ _ _ k) ?_
      simp only [Bool.false_eq_true, if_false]
      exact gcheck_l0 K N st rs (by omega) (by omega) (by omega) (by omega) (by omega)
theorem rcheck_ev (K N st : Int) (rs : List S45) : Ev (fun k => coppicerref_GrammarCheck.f k K N st rs) (gcode K N st rs) := by
  unfold coppicerref_GrammarCheck.f
  have bad : (K < 1 ∨ K > 3 ∨ N < 1 ∨ N > 5 ∨ (rs.length : Int) > 10 ∨ (rs.any fun r => decide ((r.f1.length : Int) > 4)) = true) → Ev (fun k => coppicerref_GrammarCheck.j0 k true K N st rs) (gcode K N st rs) := by
    intro h
    rw [gcode_bad h]
    refine Ev.step (fun k => coppicerref_GrammarCheck.j0.eq_2 _ _ _ _ _ k) ?_
    simp only [if_true]; exact Ev.now _
  by_cases c1 : K < 1
  · simp only [if_pos c1]; exact bad (by omega)
  by_cases c2 : K > 3
  · simp only [if_neg c1, if_pos c2]; exact bad (by omega)
  by_cases c3 : N < 1
  · simp only [if_neg c1, if_neg c2, if_pos c3]; exact bad (by omega)
  by_cases c4 : N > 5
  · simp only [if_neg c1, if_neg c2, if_neg c3, if_pos c4]; exact bad (by omega)
  simp only [if_neg c1, if_neg c2, if_neg c3, if_neg c4]
  by_cases c5 : (rs.length : Int) > 10
  · simp only [c5, decide_true]; exact bad (by omega)
  simp only [c5, decide_false]
  refine Ev.step (fun k => coppicerref_GrammarCheck.j0.eq_2 _ _ _ _ _ k) ?_
  simp only [Bool.false_eq_true, if_false]
  have hg : gcode K N st rs = if (rs.any fun r => decide ((r.f1.length : Int) > 4)) = true then 1 else if st < 0 ∨ st ≥ N then 2 else if rs.any (ruleBad K N) = true then 2 else 0 := by
    unfold gcode
    cases c6 : (rs.any fun r => decide ((r.f1.length : Int) > 4)) with
    | true => rw [if_pos (by simp), if_pos rfl]
    | false => rw [if_neg (by simp; omega)]; simp only [Bool.false_eq_true, if_false]
  rw [hg]
  refine Ev.firstBad (L := fun k i => coppicerref_GrammarCheck.l0 k rs (rs.length : Int) i K N st rs) (rdf := rd_T45 rs) (fun i h0 h1 => rd_rule h0 h1) ?_ ?_ ?_
  · intro c6
    refine Ev.step (fun k => coppicerref_GrammarCheck.l0.eq_2 _ _ _ _ _ _ _ k) ?_
    simp (disch := omega) only [if_neg]
    have j2t : (st < 0 ∨ st ≥ N) → Ev (fun k => coppicerref_GrammarCheck.j2 k true K N st rs) (if st < 0 ∨ st ≥ N then 2 else if rs.any (ruleBad K N) = true then 2 else 0) := by
      intro h
      rw [if_pos h]
      refine Ev.step (fun k => coppicerref_GrammarCheck.j2.eq_2 _ _ _ _ _ k) ?_
      simp only [if_true]; exact Ev.now _
    by_cases d1 : st < 0
    · simp only [if_pos d1]; exact j2t (.inl d1)
    by_cases d2 : st ≥ N
    · simp only [if_neg d1, decide_eq_true d2]; exact j2t (.inr d2)
    · simp only [if_neg d1, decide_eq_false d2]
      rw [if_neg (by omega)]
      refine Ev.step (fun k => coppicerref_GrammarCheck.j2.eq_2 _ _ _ _ _ k) ?_
      simp only [Bool.false_eq_true, if_false]
      exact rcheck_l1 K N st rs (by omega) (by omega) (by omega) (by omega) (by omega) c6
  · intro i h0 h1 hb
    refine Ev.step (fun k => coppicerref_GrammarCheck.l0.eq_2 _ _ _ _ _ _ _ k) ?_
    simp only [decide_eq_true_eq] at hb
    simp (disch := omega) only [if_pos]; exact Ev.now _
  · intro i r h0 h1 hb hr
    refine Ev.step (fun k => coppicerref_GrammarCheck.l0.eq_2 _ _ _ _ _ _ _ k) ?_
    simp only [decide_eq_false_iff_not] at hb
    simp (disch := omega) only [if_pos, if_neg, w64]; exact hr

/-! ### grammars that may be -/
structure GOK (K N st : Int) (rs : List S45) : Prop where
  K0 : 1 ≤ K
  K1 : K ≤ 3
  N0 : 1 ≤ N
  N1 : N ≤ 5
  len : rs.length ≤ 10
  s0 : 0 ≤ st
  s1 : st < N
  rl : ∀ r ∈ rs, r.f1.length ≤ 4
  r0 : ∀ r ∈ rs, 0 ≤ r.f0
  r1 : ∀ r ∈ rs, r.f0 < N
  x0 : ∀ r ∈ rs, ∀ x ∈ r.f1, 0 ≤ x
  x1 : ∀ r ∈ rs, ∀ x ∈ r.f1, x < K + N
theorem gcode_ok {K N st : Int} {rs : List S45} (h : gcode K N st rs = 0) : GOK K N st rs := by
  unfold gcode at h
  split at h
  · omega
  rename_i h1
  split at h
  · omega
  rename_i h2
  split at h
  · omega
  rename_i h3
  simp only [not_or] at h1 h2
  have h4 : (rs.any fun r => decide ((r.f1.length : Int) > 4)) = false := by simpa using h1.2.2.2.2.2
  have h5 : rs.any (ruleBad K N) = false := by simpa using h3
  rw [List.any_eq_false] at h4 h5
  have h6 : ∀ r ∈ rs, 0 ≤ r.f0 ∧ r.f0 < N ∧ ∀ x ∈ r.f1, 0 ≤ x ∧ x < K + N := by
    intro r hr
    have h7 : ruleBad K N r = false := by simpa using h5 r hr
    unfold ruleBad at h7
    simp only [Bool.or_eq_false_iff, decide_eq_false_iff_not, List.any_eq_false] at h7
    refine ⟨by omega, by omega, fun x hx => ?_⟩
    have h8 := h7.2.2 x hx
    unfold sgnBad at h8
    simp only [Bool.or_eq_true, decide_eq_true_eq, not_or] at h8
    omega
  refine ⟨by omega, by omega, by omega, by omega, by omega, by omega, by omega, ?_, fun r hr => (h6 r hr).1, fun r hr => (h6 r hr).2.1, fun r hr x hx => ((h6 r hr).2.2 x hx).1, fun r hr x hx => ((h6 r hr).2.2 x hx).2⟩
  intro r hr
  have := h4 r hr
  simp only [decide_eq_true_eq] at this; omega

/-! ### words: machine.Words and coppicerref.WordCheck -/
def wordCode (K : Int) (w : List Int) : Int := if (w.length : Int) > 12 then 1 else if (w.any fun s => decide (s < 0) || decide (s ≥ K)) = true then 2 else 0
theorem Words_eq (K : Int) (w : List Int) : machine_Words.f K w = some (wordCode K w) := by
  unfold machine_Words.f wordCode
  have e : machine_Words_1_any.f w K = some (w.any fun s => decide (s < 0) || decide (s ≥ K)) := by
    unfold machine_Words_1_any.f
    refine anyO_of (fun x _ => ?_)
    unfold machine_Words_1.f
    by_cases h : x < 0
    · rw [if_pos h]; simp [h]
    · rw [if_neg h]; simp [h]
  by_cases c : (w.length : Int) > 12
  · simp only [if_pos c]
  · simp only [if_neg c, e, Option.bind_some]
    cases w.any fun s => decide (s < 0) || decide (s ≥ K) <;> simp
theorem WordCheck_l0 (K : Int) (w : List Int) (hl : w.length ≤ 12) (d : Nat) : ∀ i : Int, 0 ≤ i → i + d = w.length →
    Ev (fun k => coppicerref_WordCheck.l0 k K w (w.length : Int) i) (if ((w.drop i.toNat).any fun s => decide (s < 0) || decide (s ≥ K)) = true then 2 else 0) := by
  induction d with
  | zero =>
    intro i h0 hd
    refine Ev.step (fun k => coppicerref_WordCheck.l0.eq_2 _ _ _ _ k) ?_
    simp (disch := omega) only [if_neg (show ¬ i < (w.length : Int) by omega)]
    rw [List.drop_eq_nil_of_le (by omega)]; exact Ev.now _
  | succ d ih =>
    intro i h0 hd
    refine Ev.step (fun k => coppicerref_WordCheck.l0.eq_2 _ _ _ _ k) ?_
    rw [drop_rd h0 (by omega)]
    simp (disch := omega) only [if_pos (show i < (w.length : Int) by omega), if_pos h0, w64]
    by_cases a : rd w i < 0
    · simp only [if_pos a]; exact Ev.val (by simp [a])
    · by_cases b : rd w i ≥ K
      · simp only [if_neg a, if_pos b]; exact Ev.val (by simp [b])
      · simp only [if_neg a, if_neg b]
        have := ih (i + 1) (by omega) (by omega)
        simpa [a, b] using this
theorem WordCheck_ev (K : Int) (w : List Int) : Ev (fun k => coppicerref_WordCheck.f k K w) (wordCode K w) := by
  unfold coppicerref_WordCheck.f wordCode
  by_cases c : (w.length : Int) > 12
  · simp only [if_pos c]; exact Ev.now _
  · simp only [if_neg c]
    simpa using WordCheck_l0 K w (by omega) w.length 0 (by omega) (by omega)
theorem wordCode_0 {K : Int} {w : List Int} (h : wordCode K w = 0) : w.length ≤ 12 ∧ ∀ s ∈ w, 0 ≤ s ∧ s < K := by
  unfold wordCode at h
  by_cases c : (w.length : Int) > 12
  · rw [if_pos c] at h; omega
  · rw [if_neg c] at h
    refine ⟨by omega, ?_⟩
    by_cases e : (w.any fun s => decide (s < 0) || decide (s ≥ K)) = true
    · rw [if_pos e] at h; omega
    · intro s hs
      simp only [List.any_eq_true, not_exists, not_and, Bool.or_eq_true, decide_eq_true_eq, not_or] at e
      have := e s hs
      omega

/-! ### how many trees there are -/
def tsum (f : Int → Nat) : Nat → Int → Nat
  | 0, _ => 0
  | n + 1, a => f a + tsum f n (a + 1)
theorem tsum_congr {f g : Int → Nat} : ∀ (n : Nat) (a : Int), (∀ x, a ≤ x → x < a + n → f x = g x) → tsum f n a = tsum g n a
  | 0, _, _ => rfl
  | n + 1, a, h => by
    unfold tsum
    rw [h a (Int.le_refl _) (by omega), tsum_congr n (a + 1) (fun x h0 h1 => h x (by omega) (by omega))]
theorem tsum_zero {f : Int → Nat} : ∀ (n : Nat) (a : Int), (∀ x, a ≤ x → x < a + n → f x = 0) → tsum f n a = 0
  | 0, _, _ => rfl
  | n + 1, a, h => by
    unfold tsum
    rw [h a (Int.le_refl _) (by omega), tsum_zero n (a + 1) (fun x h0 h1 => h x (by omega) (by omega))]
theorem tsum_last {f : Int → Nat} : ∀ (n : Nat) (a : Int), (∀ x, a ≤ x → x < a + n → f x = 0) → tsum f (n + 1) a = f (a + n)
  | 0, a, _ => by unfold tsum tsum; simp
  | n + 1, a, h => by
    rw [tsum, h a (Int.le_refl _) (by omega), tsum_last n (a + 1) (fun x h0 h1 => h x (by omega) (by omega)), show a + 1 + (n : Int) = a + ((n + 1 : Nat) : Int) by omega, Nat.zero_add]
def rsum {α : Type} (f : α → Nat) : List α → Nat
  | [] => 0
  | r :: t => f r + rsum f t
theorem rsum_congr {α : Type} {f g : α → Nat} : ∀ (l : List α), (∀ r ∈ l, f r = g r) → rsum f l = rsum g l
  | [], _ => rfl
  | r :: t, h => by
    unfold rsum
    rw [h r (List.mem_cons_self ..), rsum_congr t (fun x hx => h x (List.mem_cons_of_mem _ hx))]
theorem rsum_zero {α : Type} {f : α → Nat} : ∀ (l : List α), (∀ r ∈ l, f r = 0) → rsum f l = 0
  | [], _ => rfl
  | r :: t, h => by
    unfold rsum
    rw [h r (List.mem_cons_self ..), rsum_zero t (fun x hx => h x (List.mem_cons_of_mem _ hx))]
def rowT (T : Int → Int → Int → Nat) : List Int → Int → Int → Nat
  | [], i, j => if i = j then 1 else 0
  | x :: rest, i, j => tsum (fun mid => T x i mid * rowT T rest mid j) (j - i).toNat (i + 1)
theorem rowT_zero (T : Int → Int → Int → Nat) : ∀ (l : List Int) (i j : Int), j - i < (l.length : Int) → rowT T l i j = 0
  | [], i, j, h => by
    unfold rowT
    simp only [List.length_nil] at h
    rw [if_neg (by omega)]
  | x :: rest, i, j, h => by
    unfold rowT
    simp only [List.length_cons] at h
    refine tsum_zero _ _ (fun mid h0 h1 => ?_)
    rw [rowT_zero T rest mid j (by omega), Nat.mul_zero]
theorem rowT_congr {T U : Int → Int → Int → Nat} : ∀ (l : List Int) (i j : Int), (∀ x a b, i ≤ a → a ≤ b → b ≤ j → T x a b = U x a b) → rowT T l i j = rowT U l i j
  | [], _, _, _ => rfl
  | x :: rest, i, j, h => by
    unfold rowT
    refine tsum_congr _ _ (fun mid h0 h1 => ?_)
    rw [h x i mid (Int.le_refl _) (by omega) (by omega), rowT_congr rest mid j (fun y a b h2 h3 h4 => h y a b (by omega) h3 h4)]
theorem rowT_congr2 {T U : Int → Int → Int → Nat} (x y : Int) (l : List Int) (i j : Int) (h : ∀ x a b, i ≤ a → a ≤ b → b ≤ j → b - a < j - i → T x a b = U x a b) : rowT T (x :: y :: l) i j = rowT U (x :: y :: l) i j := by
  rw [rowT, rowT]
  refine tsum_congr _ _ (fun mid h0 h1 => ?_)
  by_cases c : mid < j
  · rw [h x i mid (Int.le_refl _) (by omega) (by omega) (by omega), rowT_congr (y :: l) mid j (fun z a b h2 h3 h4 => h z a b (by omega) h3 h4 (by omega))]
  · rw [rowT_zero T (y :: l) mid j (by simp only [List.length_cons]; omega), rowT_zero U (y :: l) mid j (by simp only [List.length_cons]; omega), Nat.mul_zero, Nat.mul_zero]
theorem rowT_one (T : Int → Int → Int → Nat) (x i j : Int) (h : i < j) : rowT T [x] i j = T x i j := by
  rw [rowT]
  obtain ⟨n, hn⟩ : ∃ n : Nat, j - i = (n : Int) + 1 := ⟨(j - i - 1).toNat, by omega⟩
  rw [show (j - i).toNat = n + 1 by omega, tsum_last n (i + 1) (fun y h0 h1 => by rw [rowT, if_neg (by omega), Nat.mul_zero])]
  rw [show i + 1 + (n : Int) = j by omega, rowT, if_pos rfl, Nat.mul_one]
section
variable (K : Int) (rs : List S45) (w : List Int)
def signT : Nat → Int → Int → Int → Nat
  | 0, _, _, _ => 0
  | f + 1, x, i, j => if x < K then (if j = i + 1 ∧ rd w i = x then 1 else 0) else rsum (fun r : S45 => if r.f0 = x - K then rowT (signT f) r.f1 i j else 0) rs
/-- No rule makes nothing, and none one name. -/
def ProperP : Prop := ∀ r ∈ rs, r.f1 ≠ [] ∧ ∀ x, r.f1 = [x] → x < K
theorem signT_stable (hP : ProperP K rs) : ∀ (L f : Nat) (x i j : Int), j - i ≤ (L : Int) → L + 2 ≤ f → signT K rs w (f + 1) x i j = signT K rs w f x i j := by
  intro L
  induction L with
  | zero =>
    intro f x i j h0 h1
    obtain ⟨g, rfl⟩ : ∃ g, f = g + 2 := ⟨f - 2, by omega⟩
    rw [signT, signT]
    by_cases c : x < K
    · rw [if_pos c, if_pos c]
    rw [if_neg c, if_neg c]
    refine rsum_congr _ (fun r hr => ?_)
    by_cases d : r.f0 = x - K
    · rw [if_pos d, if_pos d]
      have hn := (hP r hr).1
      have : 0 < r.f1.length := List.length_pos_iff.mpr hn
      rw [rowT_zero _ r.f1 i j (by omega), rowT_zero _ r.f1 i j (by omega)]
    · rw [if_neg d, if_neg d]
  | succ L ih =>
    intro f x i j h0 h1
    obtain ⟨g, rfl⟩ : ∃ g, f = g + 2 := ⟨f - 2, by omega⟩
    rw [signT, signT]
    by_cases c : x < K
    · rw [if_pos c, if_pos c]
    rw [if_neg c, if_neg c]
    refine rsum_congr _ (fun r hr => ?_)
    by_cases d : r.f0 = x - K
    · rw [if_pos d, if_pos d]
      obtain ⟨hn, h1⟩ := hP r hr
      match hl : r.f1 with
      | [] => exact absurd hl hn
      | [y] =>
        have hy := h1 y hl
        rw [rowT, rowT]
        refine tsum_congr _ _ (fun mid _ _ => ?_)
        rw [signT, signT, if_pos hy, if_pos hy]
        rfl
      | y :: z :: t =>
        refine rowT_congr2 y z t i j (fun u a b h2 h3 h4 h5 => ?_)
        exact ih (g + 1) u a b (by omega) (by omega)
    · rw [if_neg d, if_neg d]
/-- The trees of a sign over a stretch, told by the rules. -/
structure TT (T : Int → Int → Int → Nat) : Prop where
  tm : ∀ x i j, x < K → T x i j = if j = i + 1 ∧ rd w i = x then 1 else 0
  nm : ∀ x i j, ¬ x < K → 0 ≤ i → j ≤ 12 → T x i j = rsum (fun r : S45 => if r.f0 = x - K then rowT T r.f1 i j else 0) rs
theorem TT_ok (hP : ProperP K rs) : TT K rs w (signT K rs w 20) := by
  refine ⟨fun x i j h => ?_, fun x i j h h0 h1 => ?_⟩
  · rw [signT, if_pos h]
  · rw [← signT_stable K rs w hP 12 20 x i j (by omega) (by omega), signT, if_neg h]
end
/-! ### what is told of a count: no more than one more than the most -/
def cp (n : Nat) : Int := ((min n 1099511627777 : Nat) : Int)
theorem cp_0 : cp 0 = 0 := rfl
theorem cp_1 : cp 1 = 1 := rfl
theorem cp_nn (n : Nat) : 0 ≤ cp n ∧ cp n ≤ 1099511627777 := by unfold cp; omega
theorem cp_pos (n : Nat) : cp n > 0 ↔ n ≠ 0 := by unfold cp; omega
theorem cp_min (a b : Nat) : min (a * b) 1099511627777 = min (min a 1099511627777 * min b 1099511627777) 1099511627777 := by
  have key : ∀ M : Nat, 0 < M → min (a * b) M = min (min a M * min b M) M := by
    intro M hM
    by_cases h1 : a ≤ M
    · by_cases h2 : b ≤ M
      · rw [Nat.min_eq_left h1, Nat.min_eq_left h2]
      · rw [Nat.min_eq_left h1, Nat.min_eq_right (by omega : M ≤ b)]
        cases a with
        | zero => simp
        | succ a =>
          have e1 : M ≤ (a + 1) * b := Nat.le_trans (by omega : M ≤ b) (Nat.le_mul_of_pos_left b (Nat.succ_pos a))
          have e2 : M ≤ (a + 1) * M := Nat.le_mul_of_pos_left M (Nat.succ_pos a)
          rw [Nat.min_eq_right e1, Nat.min_eq_right e2]
    · rw [Nat.min_eq_right (by omega : M ≤ a)]
      cases b with
      | zero => simp
      | succ b =>
        have e1 : M ≤ a * (b + 1) := Nat.le_trans (by omega : M ≤ a) (Nat.le_mul_of_pos_right a (Nat.succ_pos b))
        have e2 : M ≤ M * min (b + 1) M := Nat.le_mul_of_pos_right M (by omega)
        rw [Nat.min_eq_right e1, Nat.min_eq_right e2]
  exact key _ (by omega)
/-- A product told by a quotient. -/
theorem cp_prod (a b : Nat) (h : 0 < cp a) : (cp b > 1099511627777 / cp a → cp (a * b) = 1099511627777) ∧ (¬ cp b > 1099511627777 / cp a → cp a * cp b = cp (a * b) ∧ cp a * cp b ≤ 1099511627777) := by
  unfold cp at *
  rw [cp_min a b]
  generalize min a 1099511627777 = x at *
  generalize min b 1099511627777 = y at *
  have hx : 0 < x := by omega
  constructor
  · intro c
    have c2 : 1099511627777 / x < y := by
      have : (1099511627777 : Int) / (x : Int) = ((1099511627777 / x : Nat) : Int) := by rw [Int.natCast_ediv]; rfl
      omega
    have : 1099511627777 < y * x := (Nat.div_lt_iff_lt_mul hx).1 c2
    rw [Nat.mul_comm] at this
    omega
  · intro c
    have c2 : y ≤ 1099511627777 / x := by
      have : (1099511627777 : Int) / (x : Int) = ((1099511627777 / x : Nat) : Int) := by rw [Int.natCast_ediv]; rfl
      omega
    have h2 : y * x ≤ 1099511627777 := (Nat.le_div_iff_mul_le hx).1 c2
    rw [Nat.mul_comm] at h2
    rw [Nat.min_eq_left h2, ← Int.natCast_mul]
    refine ⟨rfl, ?_⟩
    generalize x * y = z at h2 ⊢
    omega
theorem times_cp (a b : Nat) : table_times.f (cp a) (cp b) = some (cp (a * b)) := by
  unfold table_times.f
  have hb := cp_nn b
  have ha := cp_nn a
  by_cases h : cp a > 0
  · obtain ⟨h1, h2⟩ := cp_prod a b h
    rw [if_pos h, if_neg (by omega)]
    have hd : Int.tdiv (1099511627777 : Int) (cp a) = 1099511627777 / cp a := Int.tdiv_eq_ediv_of_nonneg (by omega)
    have hd0 : 0 ≤ (1099511627777 : Int) / cp a := Int.ediv_nonneg (by omega) (by omega)
    have hd1 : (1099511627777 : Int) / cp a ≤ 1099511627777 := Int.ediv_le_self _ (by omega)
    rw [hd, w64 (by omega) (by omega)]
    by_cases c : cp b > 1099511627777 / cp a
    · rw [if_pos c, h1 c]
    · obtain ⟨h3, h4⟩ := h2 c
      have h5 : 0 ≤ cp a * cp b := Int.mul_nonneg ha.1 hb.1
      rw [if_neg c, w64 (by omega) (by omega), h3]
  · rw [if_neg h]
    have h0 : a = 0 := by
      have := cp_pos a
      omega
    subst h0
    rw [cp_0, Int.zero_mul, Nat.zero_mul, cp_0, w64 (by omega) (by omega)]
theorem capped_cp (k a b : Nat) : coppicerref_capped.f (k + 1) (cp a) (cp b) = some (cp (a * b)) := by
  unfold coppicerref_capped.f
  have hb := cp_nn b
  have ha := cp_nn a
  by_cases h : cp a = 0
  · have h0 : a = 0 := by
      have := cp_pos a
      omega
    subst h0
    rw [if_pos h, coppicerref_capped.j0, if_pos rfl, Nat.zero_mul, cp_0]
  rw [if_neg h, coppicerref_capped.j0]
  by_cases g : cp b = 0
  · have h0 : b = 0 := by
      have := cp_pos b
      omega
    subst h0
    rw [if_pos (by rw [g]; rfl), Nat.mul_zero, cp_0]
  · obtain ⟨h1, h2⟩ := cp_prod b a (by omega)
    rw [if_neg (by rw [beq_iff_eq]; exact g), if_neg g]
    have hd : Int.tdiv (1099511627777 : Int) (cp b) = 1099511627777 / cp b := Int.tdiv_eq_ediv_of_nonneg (by omega)
    have hd0 : 0 ≤ (1099511627777 : Int) / cp b := Int.ediv_nonneg (by omega) (by omega)
    have hd1 : (1099511627777 : Int) / cp b ≤ 1099511627777 := Int.ediv_le_self _ (by omega)
    rw [hd, w64 (by omega) (by omega)]
    rw [Nat.mul_comm b a] at h1 h2
    rw [Int.mul_comm (cp b)] at h2
    by_cases c : cp a > 1099511627777 / cp b
    · rw [if_pos c, h1 c]
    · obtain ⟨h3, h4⟩ := h2 c
      have h5 : 0 ≤ cp a * cp b := Int.mul_nonneg ha.1 hb.1
      rw [if_neg c, w64 (by omega) (by omega), h3]
theorem wf64 {x : Int} (h0 : -9223372036854775808 ≤ x) (h1 : x ≤ 9223372036854775807) : (Lit.int .i64 x).wf = true := by
  simp only [Lit.wf, IntKind.min, IntKind.max, IntKind.signed, IntKind.bits]
  simp
  omega
theorem filt_len {α : Type} (p : α → Bool) : ∀ l : List α, l.length = (l.filter p).length + (l.filter fun a => !p a).length
  | [] => rfl
  | a :: t => by
    have := filt_len p t
    cases h : p a <;> simp [h] <;> omega
theorem pigeon {α : Type} : ∀ (N : Nat) (c : α → Nat) (l : List α), l.Pairwise (fun a b => c a ≠ c b) → (∀ a ∈ l, c a < N) → l.length ≤ N
  | 0, c, [], _, _ => Nat.le_refl _
  | 0, c, a :: t, _, h => by have := h a (List.mem_cons_self ..); omega
  | N + 1, c, l, hp, h => by
    have e := filt_len (fun a => decide (c a < N)) l
    have e1 := pigeon N c (l.filter fun a => decide (c a < N)) (hp.filter _) (fun a ha => by simpa using (List.mem_filter.1 ha).2)
    have e2 : (l.filter fun a => !decide (c a < N)).length ≤ 1 := by
      have hp2 := hp.filter (fun a => !decide (c a < N))
      match hl : l.filter (fun a => !decide (c a < N)) with
      | [] => simp
      | [_] => simp
      | a :: b :: t =>
        rw [hl] at hp2
        have hab := (List.pairwise_cons.1 hp2).1 b (List.mem_cons_self ..)
        have ha : a ∈ l.filter (fun a => !decide (c a < N)) := by rw [hl]; exact List.mem_cons_self ..
        have hb : b ∈ l.filter (fun a => !decide (c a < N)) := by rw [hl]; exact List.mem_cons_of_mem _ (List.mem_cons_self ..)
        obtain ⟨a1, a2⟩ := List.mem_filter.1 ha
        obtain ⟨b1, b2⟩ := List.mem_filter.1 hb
        have := h a a1
        have := h b b1
        simp at a2 b2
        omega
    omega

/-! ### what table.Count tells is right -/
theorem lkM4_mem : ∀ (m : PM4) (q : Int × Int × Int × Int) (v : Int), lkM4 m q = some v → (q, v) ∈ m
  | [], _, _, h => by simp [lkM4] at h
  | (a, b) :: t, q, v, h => by
    rw [lkM4] at h
    by_cases c : a = q
    · rw [if_pos c] at h
      cases h
      subst c
      exact List.mem_cons_self ..
    · rw [if_neg c] at h
      exact List.mem_cons_of_mem _ (lkM4_mem t q v h)
theorem lkM4_none : ∀ (m : PM4) (q : Int × Int × Int × Int), lkM4 m q = none → ∀ e ∈ m, e.1 ≠ q
  | [], _, _, e, he => by cases he
  | (a, b) :: t, q, h, e, he => by
    rw [lkM4] at h
    by_cases c : a = q
    · rw [if_pos c] at h
      cases h
    · rw [if_neg c] at h
      cases he with
      | head => exact c
      | tail _ h2 => exact lkM4_none t q h e h2
section
variable {K N st : Int} {rs : List S45} {w : List Int} {T : Int → Int → Int → Nat}
/-- A list of what is known, all of it right. -/
structure MOK (rs : List S45) (T : Int → Int → Int → Nat) (m : PM4) : Prop where
  rng : ∀ e ∈ m, 0 ≤ e.1.1 ∧ e.1.1 < 10 ∧ 0 ≤ e.1.2.1 ∧ e.1.2.1 ≤ 4 ∧ 0 ≤ e.1.2.2.1 ∧ e.1.2.2.1 ≤ 12 ∧ 0 ≤ e.1.2.2.2 ∧ e.1.2.2.2 ≤ 12
  val : ∀ e ∈ m, e.2 = cp (rowT T ((rd_T45 rs e.1.1).f1.drop e.1.2.1.toNat) e.1.2.2.1 e.1.2.2.2)
  one : m.Pairwise (fun a b => a.1 ≠ b.1)
theorem MOK.nil : MOK rs T [] := ⟨fun e h => absurd h (by simp), fun e h => absurd h (by simp), List.Pairwise.nil⟩
theorem MOK.len {m : PM4} (h : MOK rs T m) : m.length < 1000000 := by
  have := pigeon 8450 (fun e : (Int × Int × Int × Int) × Int => (e.1.1 * 845 + e.1.2.1 * 169 + e.1.2.2.1 * 13 + e.1.2.2.2).toNat) m (h.one.imp_of_mem (fun {a b} ha hb hne => by
    obtain ⟨a1, a2, a3, a4, a5, a6, a7, a8⟩ := h.rng a ha
    obtain ⟨b1, b2, b3, b4, b5, b6, b7, b8⟩ := h.rng b hb
    intro e
    apply hne
    have e4 : a.1.2.2.2 = b.1.2.2.2 := by omega
    have e3 : a.1.2.2.1 = b.1.2.2.1 := by omega
    have e2 : a.1.2.1 = b.1.2.1 := by omega
    have e1 : a.1.1 = b.1.1 := by omega
    exact Prod.ext e1 (Prod.ext e2 (Prod.ext e3 e4)))) (fun a ha => by
    obtain ⟨a1, a2, a3, a4, a5, a6, a7, a8⟩ := h.rng a ha
    show (_ : Int).toNat < _
    omega)
  omega
def ms (q : Int × Int × Int × Int) : Int := 2 * (q.2.2.2 - q.2.2.1) + (if q.2.1 > 0 then 1 else 0)
/-- What came to the list was of a small stretch. -/
def Grew (B : Int) (m m' : PM4) : Prop := ∀ e ∈ m', e ∈ m ∨ ms e.1 ≤ B
theorem Grew.refl (B : Int) (m : PM4) : Grew B m m := fun _ h => Or.inl h
theorem Grew.trans {B C : Int} {m m1 m2 : PM4} (h : Grew B m m1) (k : Grew C m1 m2) (c : C ≤ B) : Grew B m m2 := fun e he => by
  rcases k e he with a | a
  · exact h e a
  · exact Or.inr (by omega)
theorem Grew.mono {B C : Int} {m m1 : PM4} (h : Grew C m m1) (c : C ≤ B) : Grew B m m1 := (Grew.refl B m).trans h c
theorem sgn_ok (B : Int) (G1 : rs.length ≤ 10) (hT : TT K rs w T) (hx1 : K ≤ 3) (hw : w.length ≤ 12) (R : Int → Int → Int → Int → PM4 → Option (Int × PM4)) (x i j : Int) (hK : 0 ≤ K) (hx0 : 0 ≤ x) (hx : x < 100) (hi : 0 ≤ i) (hj : j ≤ (w.length : Int)) (hij : i < (w.length : Int) ∨ ¬ x < K) (hR : ¬ x < K → ∀ (q : Int) (m : PM4), 0 ≤ q → q < (rs.length : Int) → MOK rs T m → ∃ m', R q 0 i j m = some (cp (rowT T (rd_T45 rs q).f1 i j), m') ∧ MOK rs T m' ∧ Grew B m m')
    (m : PM4) (hm : MOK rs T m) : ∃ m', sgnF R K rs w x i j m = some (cp (T x i j), m') ∧ MOK rs T m' ∧ Grew B m m' := by
  unfold sgnF
  by_cases c : x < K
  · rw [if_pos c, hT.tm x i j c, w64 (by omega) (by omega)]
    by_cases d : j = i + 1
    · rw [if_pos d, if_pos hi, if_pos (by omega)]
      refine ⟨m, ?_, hm, Grew.refl _ _⟩
      by_cases e : rd w i = x
      · rw [if_pos e, if_pos ⟨d, e⟩, cp_1]
      · rw [if_neg e, if_neg (fun h => e h.2), cp_0]
    · rw [if_neg d, if_neg (fun h => d h.1), cp_0]
      exact ⟨m, rfl, hm, Grew.refl _ _⟩
  · rw [if_neg c, if_pos (by omega), w64 (by omega) (by omega), hT.nm x i j c hi (by omega)]
    have main : ∀ (l : List S45) (q s : Int) (acc : Nat) (m : PM4), 0 ≤ q → q + (l.length : Int) = (rs.length : Int) → rs.drop q.toNat = l → 0 ≤ s → s ≤ q * 1099511627777 → mn s 1099511627777 = cp acc → MOK rs T m →
        ∃ m', sgnL R (x - K) i j l q s m = some (cp (acc + rsum (fun r : S45 => if r.f0 = x - K then rowT T r.f1 i j else 0) l), m') ∧ MOK rs T m' ∧ Grew B m m' := by
      intro l
      induction l with
      | nil =>
        intro q s acc m _ _ _ _ _ h6 h7
        exact ⟨m, by rw [sgnL, h6, rsum, Nat.add_zero], h7, Grew.refl _ _⟩
      | cons r t ih =>
        intro q s acc m h1 h2 h3 h4 h5 h6 h7
        simp only [List.length_cons] at h2
        have hd := rd_rule h1 (by omega : q < (rs.length : Int))
        rw [h3] at hd
        obtain ⟨e1, e2⟩ := List.cons.inj hd
        rw [sgnL, rsum]
        by_cases f : r.f0 = x - K
        · rw [if_pos f, if_pos f]
          obtain ⟨m1, hr1, hm1, hg1⟩ := hR c q m h1 (by omega) h7
          rw [hr1, ← e1]
          have hc := cp_nn (rowT T r.f1 i j)
          simp only [Option.bind_some]
          rw [w64 (by omega) (by omega)]
          rw [← Nat.add_assoc]
          obtain ⟨m2, a1, a2, a3⟩ := ih (q + 1) (s + cp (rowT T r.f1 i j)) (acc + rowT T r.f1 i j) m1 (by omega) (by omega) e2.symm (by omega) (by omega) (by
            unfold mn cp at *
            omega) hm1
          exact ⟨m2, a1, a2, hg1.trans a3 (Int.le_refl _)⟩
        · rw [if_neg f, if_neg f, Nat.zero_add]
          exact ih (q + 1) s acc m (by omega) (by omega) e2.symm h4 (by omega) h6 h7
    have := main rs 0 0 0 m (Int.le_refl _) (by omega) rfl (Int.le_refl _) (by omega) rfl hm
    rw [Nat.zero_add] at this
    exact this
theorem cnt_ok (G : GOK K N st rs) (hP : ProperP K rs) (hT : TT K rs w T) (hw : w.length ≤ 12) : ∀ (k : Nat) (rule dot i j : Int) (m : PM4), 0 ≤ rule → rule < (rs.length : Int) → 0 ≤ dot → dot ≤ ((rd_T45 rs rule).f1.length : Int) → 0 ≤ i → i ≤ j → j ≤ (w.length : Int) → 2 * (j - i) + (if dot > 0 then 1 else 0) + 1 ≤ (k : Int) → MOK rs T m →
    ∃ m', cntF K rs w k rule dot i j m = some (cp (rowT T ((rd_T45 rs rule).f1.drop dot.toNat) i j), m') ∧ MOK rs T m' ∧ Grew (2 * (j - i) + (if dot > 0 then 1 else 0)) m m' := by
  intro k
  induction k with
  | zero => intro rule dot i j m h1 h2 h3 h4 h5 h6 h7 h8 h9; split at h8 <;> omega
  | succ k ih =>
    intro rule dot i j m h1 h2 h3 h4 h5 h6 h7 h8 h9
    have hr := rule_mem h1 h2
    have hl4 := G.rl _ hr
    have hlen := G.len
    rw [cntF, if_pos h1, if_pos h2]
    generalize hR : (rd_T45 rs rule).f1 = right at *
    have hdl : ((right.drop dot.toNat).length : Int) = (right.length : Int) - dot := by rw [List.length_drop]; omega
    rw [w64 (x := (right.length : Int) - dot) (by omega) (by omega), w64 (x := j - i) (by omega) (by omega)]
    by_cases c1 : (right.length : Int) - dot > j - i
    · rw [if_pos c1]
      have e : ¬ ((right.length : Int) - dot = 0 ∧ i = j) := by omega
      rw [if_neg e, rowT_zero T _ i j (by omega), cp_0]
      exact ⟨m, rfl, h9, Grew.refl _ _⟩
    rw [if_neg c1]
    by_cases c2 : (right.length : Int) - dot = 0
    · rw [if_pos c2]
      have e : right.drop dot.toNat = [] := List.eq_nil_of_length_eq_zero (by omega)
      rw [e, rowT]
      refine ⟨m, ?_, h9, Grew.refl _ _⟩
      by_cases c3 : i = j
      · rw [if_pos c3, if_pos c3, cp_1]
      · rw [if_neg c3, if_neg c3, cp_0]
    rw [if_neg c2, if_pos ⟨wf64 (by omega) (by omega), wf64 (by omega) (by omega), wf64 (by omega) (by omega), wf64 (by omega) (by omega)⟩]
    cases hlk : lkM4 m (rule, dot, i, j) with
    | some v =>
      have := h9.val _ (lkM4_mem m _ v hlk)
      simp only [] at this
      rw [hR] at this
      exact ⟨m, by rw [this], h9, Grew.refl _ _⟩
    | none =>
      simp only []
      have hdr : right.drop dot.toNat = rd right dot :: right.drop (dot + 1).toNat := drop_rd h3 (by omega)
      have hdl2 : ((right.drop (dot + 1).toNat).length : Int) = (right.length : Int) - dot - 1 := by rw [List.length_drop]; omega
      have hx : rd right dot ∈ right := rd_mem h3 (by omega)
      have hx0 := G.x0 _ hr (rd right dot) (by rw [hR]; exact hx)
      have hx1 := G.x1 _ hr (rd right dot) (by rw [hR]; exact hx)
      have hK0 := G.K0
      have hK1 := G.K1
      have hN1 := G.N1
      have loop : ∀ (n : Nat) (mid sum : Int) (acc : Nat) (m : PM4), i + 1 ≤ mid → mid ≤ j + 1 → (j + 1 - mid) + 1 ≤ (n : Int) → sum = cp acc → MOK rs T m →
          ∃ m', cntL (cntF K rs w k) (sgnF (cntF K rs w k) K rs w) right rule dot i j ((right.length : Int) - dot) n mid sum m = some (cp (acc + tsum (fun mid => T (rd right dot) i mid * rowT T (right.drop (dot + 1).toNat) mid j) (j + 1 - mid).toNat mid), m') ∧ MOK rs T m' ∧ Grew (2 * (j - i) + (if dot > 0 then 1 else 0) - 1) m m' := by
        intro n
        induction n with
        | zero => intro mid sum acc m _ _ _ _ _; omega
        | succ n ihn =>
          intro mid sum acc m g1 g2 g3 g4 g5
          have hs := cp_nn acc
          rw [cntL, w64 (x := j - _) (by omega) (by omega), w64 (x := j - _ + 1) (by omega) (by omega)]
          by_cases d1 : mid ≤ j - ((right.length : Int) - dot) + 1
          · rw [if_pos d1, show (j + 1 - mid).toNat = (j + 1 - (mid + 1)).toNat + 1 by omega, tsum]
            by_cases d2 : (right.length : Int) - dot = 1 ∧ mid < j
            · rw [if_pos d2, w64 (x := mid + 1) (by omega) (by omega), show rowT T (right.drop (dot + 1).toNat) mid j = 0 by
                rw [show right.drop (dot + 1).toNat = [] from List.eq_nil_of_length_eq_zero (by omega), rowT, if_neg (by omega)], Nat.mul_zero, Nat.zero_add]
              exact ihn (mid + 1) sum acc m (by omega) (by omega) (by omega) g4 g5
            rw [if_neg d2, w64 (x := dot + 1) (by omega) (by omega), w64 (x := mid + 1) (by omega) (by omega)]
            obtain ⟨m1, hr1, hm1, hg1⟩ := ih rule (dot + 1) mid j m h1 h2 (by omega) (by rw [hR]; omega) (by omega) (by omega) h7 (by rw [if_pos (by omega)]; split at h8 <;> omega) g5
            rw [hR] at hr1
            rw [hr1]
            simp only [Option.bind_some]
            by_cases d3 : cp (rowT T (right.drop (dot + 1).toNat) mid j) > 0
            · rw [if_pos d3, if_pos h3, if_pos (by omega)]
              obtain ⟨m2, hr2, hm2, hg2⟩ := sgn_ok (2 * (j - i) + (if dot > 0 then 1 else 0) - 1) (K := K) hlen hT hK1 hw (cntF K rs w k) (rd right dot) i mid (by omega) hx0 (by omega) h5 (by omega) (by omega) (fun hn q m0 q0 q1 hm0 => by
                have hms : mid < j ∨ dot > 0 := by
                  by_cases d4 : mid < j
                  · exact Or.inl d4
                  · by_cases d5 : dot > 0
                    · exact Or.inr d5
                    · exfalso
                      have e1 : right.length = 1 := by omega
                      have e2 : dot = 0 := by omega
                      subst e2
                      match hq : right with
                      | [] => simp at e1
                      | [y] =>
                        have := (hP _ hr).2 y hR
                        exact hn this
                      | y :: z :: t => simp at e1
                obtain ⟨m', a1, a2, a3⟩ := ih q 0 i mid m0 q0 q1 (Int.le_refl _) (by omega) h5 (by omega) (by omega) (by
                  rw [if_neg (by omega)]
                  rcases hms with d4 | d4
                  · split at h8 <;> omega
                  · rw [if_pos d4] at h8; omega) hm0
                refine ⟨m', by simpa using a1, a2, a3.mono ?_⟩
                rw [if_neg (by omega)]
                rcases hms with d4 | d4
                · split <;> omega
                · rw [if_pos d4]; omega) m1 hm1
              rw [hr2]
              simp only [Option.bind_some]
              rw [times_cp]
              simp only [Option.bind_some]
              have hc := cp_nn (T (rd right dot) i mid * rowT T (right.drop (dot + 1).toNat) mid j)
              rw [← Nat.add_assoc, w64 (x := sum + _) (by omega) (by omega)]
              obtain ⟨m3, a1, a2, a3⟩ := ihn (mid + 1) _ (acc + T (rd right dot) i mid * rowT T (right.drop (dot + 1).toNat) mid j) m2 (by omega) (by omega) (by omega) (show mn (sum + cp (T (rd right dot) i mid * rowT T (right.drop (dot + 1).toNat) mid j)) 1099511627777 = _ by
                rw [g4]
                generalize T (rd right dot) i mid * rowT T (right.drop (dot + 1).toNat) mid j = z
                unfold mn cp
                omega) hm2
              refine ⟨m3, a1, a2, ((hg1.mono ?_).trans hg2 (Int.le_refl _)).trans a3 (Int.le_refl _)⟩
              rw [if_pos (by omega : dot + 1 > 0)]
              split <;> omega
            · rw [if_neg d3]
              have e0 : rowT T (right.drop (dot + 1).toNat) mid j = 0 := by
                have := cp_pos (rowT T (right.drop (dot + 1).toNat) mid j)
                omega
              rw [e0, Nat.mul_zero, Nat.zero_add]
              obtain ⟨m3, a1, a2, a3⟩ := ihn (mid + 1) sum acc m1 (by omega) (by omega) (by omega) g4 hm1
              refine ⟨m3, a1, a2, (hg1.mono ?_).trans a3 (Int.le_refl _)⟩
              rw [if_pos (by omega : dot + 1 > 0)]
              split <;> omega
          · rw [if_neg d1, tsum_zero _ _ (fun y y0 y1 => by
              rw [rowT_zero T _ y j (by omega), Nat.mul_zero]), Nat.add_zero, g4]
            exact ⟨m, rfl, g5, Grew.refl _ _⟩
      obtain ⟨m1, e1, hm1, hg⟩ := loop ((j - i).toNat + 2) (i + 1) 0 0 m (Int.le_refl _) (by omega) (by omega) rfl h9
      have hw1 : wrap64 (i + 1) = i + 1 := w64 (by omega) (by omega)
      rw [hw1, e1]
      simp only [Option.bind_some]
      rw [Nat.zero_add, show (j + 1 - (i + 1)).toNat = (j - i).toNat by omega]
      have hval : rowT T (right.drop dot.toNat) i j = tsum (fun mid => T (rd right dot) i mid * rowT T (right.drop (dot + 1).toNat) mid j) (j - i).toNat (i + 1) := by rw [hdr, rowT]
      rw [← hval]
      have hc := cp_nn (rowT T (right.drop dot.toNat) i j)
      rw [if_pos ⟨hm1.len, wf64 (by omega) (by omega)⟩]
      have hnew : ∀ e ∈ m1, e.1 ≠ (rule, dot, i, j) := by
        intro e he hk
        rcases hg e he with a | a
        · exact lkM4_none m _ hlk e a hk
        · rw [hk] at a
          simp only [ms] at a
          omega
      refine ⟨_, rfl, ⟨?_, ?_, ?_⟩, ?_⟩
      · intro e he
        rcases List.mem_cons.1 he with rfl | he
        · exact ⟨h1, by simp only []; omega, h3, by simp only []; omega, h5, by simp only []; omega, by simp only []; omega, by simp only []; omega⟩
        · exact hm1.rng e he
      · intro e he
        rcases List.mem_cons.1 he with rfl | he
        · simp only []
          rw [hR]
        · exact hm1.val e he
      · exact List.pairwise_cons.2 ⟨fun e he => (hnew e he).symm, hm1.one⟩
      · intro e he
        rcases List.mem_cons.1 he with rfl | he
        · exact Or.inr (Int.le_refl _)
        · rcases hg e he with a | a
          · exact Or.inl a
          · exact Or.inr (by omega)
end

/-! ### what coppicerref.Bush tells is right -/
theorem lkM3_mem : ∀ (m : PM3) (q : Int × Int × Int) (v : Int), lkM3 m q = some v → (q, v) ∈ m
  | [], _, _, h => by simp [lkM3] at h
  | (a, b) :: t, q, v, h => by
    rw [lkM3] at h
    by_cases c : a = q
    · rw [if_pos c] at h
      cases h
      subst c
      exact List.mem_cons_self ..
    · rw [if_neg c] at h
      exact List.mem_cons_of_mem _ (lkM3_mem t q v h)
theorem lkM3_none : ∀ (m : PM3) (q : Int × Int × Int), lkM3 m q = none → ∀ e ∈ m, e.1 ≠ q
  | [], _, _, e, he => by cases he
  | (a, b) :: t, q, h, e, he => by
    rw [lkM3] at h
    by_cases c : a = q
    · rw [if_pos c] at h
      cases h
    · rw [if_neg c] at h
      cases he with
      | head => exact c
      | tail _ h2 => exact lkM3_none t q h e h2
section
variable {K N st : Int} {rs : List S45} {w : List Int} {T : Int → Int → Int → Nat}
structure NOK (T : Int → Int → Int → Nat) (m : PM3) : Prop where
  rng : ∀ e ∈ m, 0 ≤ e.1.1 ∧ e.1.1 < 10 ∧ 0 ≤ e.1.2.1 ∧ e.1.2.1 ≤ 12 ∧ 0 ≤ e.1.2.2 ∧ e.1.2.2 ≤ 12
  val : ∀ e ∈ m, e.2 = cp (T e.1.1 e.1.2.1 e.1.2.2)
  one : m.Pairwise (fun a b => a.1 ≠ b.1)
theorem NOK.nil : NOK T [] := ⟨fun e h => absurd h (by simp), fun e h => absurd h (by simp), List.Pairwise.nil⟩
theorem NOK.len {m : PM3} (h : NOK T m) : m.length < 1000000 := by
  have := pigeon 1690 (fun e : (Int × Int × Int) × Int => (e.1.1 * 169 + e.1.2.1 * 13 + e.1.2.2).toNat) m (h.one.imp_of_mem (fun {a b} ha hb hne => by
    obtain ⟨a1, a2, a3, a4, a5, a6⟩ := h.rng a ha
    obtain ⟨b1, b2, b3, b4, b5, b6⟩ := h.rng b hb
    intro e
    apply hne
    have e3 : a.1.2.2 = b.1.2.2 := by omega
    have e2 : a.1.2.1 = b.1.2.1 := by omega
    have e1 : a.1.1 = b.1.1 := by omega
    exact Prod.ext e1 (Prod.ext e2 e3))) (fun a ha => by
    obtain ⟨a1, a2, a3, a4, a5, a6⟩ := h.rng a ha
    show (_ : Int).toNat < _
    omega)
  omega
def Grew3 (B : Int) (m m' : PM3) : Prop := ∀ e ∈ m', e ∈ m ∨ e.1.2.2 - e.1.2.1 ≤ B
theorem Grew3.refl (B : Int) (m : PM3) : Grew3 B m m := fun _ h => Or.inl h
theorem Grew3.trans {B C : Int} {m m1 m2 : PM3} (h : Grew3 B m m1) (k : Grew3 C m1 m2) (c : C ≤ B) : Grew3 B m m2 := fun e he => by
  rcases k e he with a | a
  · exact h e a
  · exact Or.inr (by omega)
theorem Grew3.mono {B C : Int} {m m1 : PM3} (h : Grew3 C m m1) (c : C ≤ B) : Grew3 B m m1 := (Grew3.refl B m).trans h c
theorem treesF_ok (G1 : rs.length ≤ 10) (hP : ProperP K rs) (hT : TT K rs w T) (hx1 : K ≤ 3) (hw : w.length ≤ 12) (R : List Int → Int → Int → PM3 → Option (Int × PM3)) (x i j : Int) (hK : 0 ≤ K) (hx0 : 0 ≤ x) (hx : x < 10) (hi : 0 ≤ i) (hij : i ≤ j) (hj : j ≤ (w.length : Int)) (hi2 : i < (w.length : Int) ∨ ¬ x < K) (hR : ¬ x < K → i < j → ∀ (r : S45) (m : PM3), r ∈ rs → NOK T m → ∃ m', R r.f1 i j m = some (cp (rowT T r.f1 i j), m') ∧ NOK T m' ∧ Grew3 (j - i - 1) m m')
    (m : PM3) (hm : NOK T m) : ∃ m', treesF R K rs w x i j m = some (cp (T x i j), m') ∧ NOK T m' ∧ Grew3 (if x < K then j - i - 1 else j - i) m m' := by
  unfold treesF
  by_cases c : x < K
  · rw [if_pos c, hT.tm x i j c, w64 (by omega) (by omega)]
    by_cases d : j = i + 1
    · rw [if_pos d, if_pos hi, if_pos (by omega)]
      refine ⟨m, ?_, hm, Grew3.refl _ _⟩
      by_cases e : rd w i = x
      · rw [if_pos e, if_pos ⟨d, e⟩, cp_1]
      · rw [if_neg e, if_neg (fun h => e h.2), cp_0]
    · rw [if_neg d, if_neg (fun h => d h.1), cp_0]
      exact ⟨m, rfl, hm, Grew3.refl _ _⟩
  rw [if_neg c, if_neg c]
  have hnm := hT.nm x i j c hi (by omega)
  by_cases d : i = j
  · rw [if_pos d, hnm, rsum_zero rs (fun r hr => by
      have h0 := (hP r hr).1
      have : 0 < r.f1.length := List.length_pos_iff.mpr h0
      rw [rowT_zero T r.f1 i j (by omega)]
      split <;> rfl), cp_0]
    exact ⟨m, rfl, hm, Grew3.refl _ _⟩
  rw [if_neg d, if_pos ⟨wf64 (by omega) (by omega), wf64 (by omega) (by omega), wf64 (by omega) (by omega)⟩]
  cases hlk : lkM3 m (x, i, j) with
  | some v =>
    have := hm.val _ (lkM3_mem m _ v hlk)
    simp only [] at this
    exact ⟨m, by rw [this], hm, Grew3.refl _ _⟩
  | none =>
    simp only []
    rw [if_pos (by omega), w64 (by omega) (by omega)]
    have main : ∀ (l : List S45) (q s : Int) (acc : Nat) (m : PM3), 0 ≤ q → q + (l.length : Int) ≤ 10 → (∀ r ∈ l, r ∈ rs) → 0 ≤ s → s ≤ q * 1099511627777 → mn s 1099511627777 = cp acc → NOK T m →
        ∃ s' m', treesL R (x - K) i j l s m = some (s', m') ∧ mn s' 1099511627777 = cp (acc + rsum (fun r : S45 => if r.f0 = x - K then rowT T r.f1 i j else 0) l) ∧ NOK T m' ∧ Grew3 (j - i - 1) m m' := by
      intro l
      induction l with
      | nil =>
        intro q s acc m _ _ _ _ _ h6 h7
        exact ⟨s, m, by rw [treesL], by rw [h6, rsum, Nat.add_zero], h7, Grew3.refl _ _⟩
      | cons r t ih =>
        intro q s acc m h1 h2 h3 h4 h5 h6 h7
        simp only [List.length_cons] at h2
        rw [treesL, rsum]
        by_cases f : r.f0 = x - K
        · rw [if_pos f, if_pos f]
          obtain ⟨m1, hr1, hm1, hg1⟩ := hR c (by omega) r m (h3 r (List.mem_cons_self ..)) h7
          rw [hr1]
          have hc := cp_nn (rowT T r.f1 i j)
          simp only [Option.bind_some]
          rw [w64 (by omega) (by omega), ← Nat.add_assoc]
          obtain ⟨s2, m2, a1, a2, a3, a4⟩ := ih (q + 1) (s + cp (rowT T r.f1 i j)) (acc + rowT T r.f1 i j) m1 (by omega) (by omega) (fun z hz => h3 z (List.mem_cons_of_mem _ hz)) (by omega) (by omega) (by
            unfold mn cp at *
            omega) hm1
          exact ⟨s2, m2, a1, a2, a3, hg1.trans a4 (Int.le_refl _)⟩
        · rw [if_neg f, if_neg f, Nat.zero_add]
          exact ih (q + 1) s acc m (by omega) (by omega) (fun z hz => h3 z (List.mem_cons_of_mem _ hz)) h4 (by omega) h6 h7
    obtain ⟨s, m1, e1, e2, hm1, hg⟩ := main rs 0 0 0 m (Int.le_refl _) (by omega) (fun r h => h) (Int.le_refl _) (by omega) rfl hm
    rw [Nat.zero_add, ← hnm] at e2
    rw [e1]
    simp only [Option.bind_some]
    have hc := cp_nn (T x i j)
    have e3 : (if s > 1099511627776 then (1099511627777 : Int) else s) = cp (T x i j) := by
      rw [← e2]
      unfold mn
      split <;> split <;> omega
    rw [e3, if_pos ⟨hm1.len, wf64 (by omega) (by omega)⟩]
    have hnew : ∀ e ∈ m1, e.1 ≠ (x, i, j) := by
      intro e he hk
      rcases hg e he with a | a
      · exact lkM3_none m _ hlk e a hk
      · rw [hk] at a
        simp only [] at a
        omega
    refine ⟨_, rfl, ⟨?_, ?_, ?_⟩, ?_⟩
    · intro e he
      rcases List.mem_cons.1 he with rfl | he
      · exact ⟨hx0, hx, hi, by simp only []; omega, by simp only []; omega, by simp only []; omega⟩
      · exact hm1.rng e he
    · intro e he
      rcases List.mem_cons.1 he with rfl | he
      · rfl
      · exact hm1.val e he
    · exact List.pairwise_cons.2 ⟨fun e he => (hnew e he).symm, hm1.one⟩
    · intro e he
      rcases List.mem_cons.1 he with rfl | he
      · exact Or.inr (Int.le_refl _)
      · rcases hg e he with a | a
        · exact Or.inl a
        · exact Or.inr (by omega)
theorem row_ok (G : GOK K N st rs) (hP : ProperP K rs) (hT : TT K rs w T) (hw : w.length ≤ 12) : ∀ (k : Nat) (signs : List Int) (i j : Int) (m : PM3), signs.length ≤ 4 → (∀ x ∈ signs, 0 ≤ x ∧ x < K + N) → 0 ≤ i → i ≤ j → j ≤ (w.length : Int) → 2 * (j - i) + (if (signs.length : Int) = 1 ∧ K ≤ rd signs 0 then 1 else 0) + 1 ≤ (k : Int) → NOK T m →
    ∃ m', rowF K rs w k signs i j m = some (cp (rowT T signs i j), m') ∧ NOK T m' ∧ Grew3 (if (signs.length : Int) = 1 ∧ K ≤ rd signs 0 then j - i else j - i - 1) m m' := by
  intro k
  induction k with
  | zero => intro signs i j m h1 h2 h5 h6 h7 h8 h9; split at h8 <;> omega
  | succ k ih =>
    intro signs i j m h1 h2 h5 h6 h7 h8 h9
    have hlen := G.len
    have hK0 := G.K0
    have hK1 := G.K1
    have hN1 := G.N1
    rw [rowF, if_pos (by omega), w64 (x := j - i) (by omega) (by omega)]
    by_cases c1 : (signs.length : Int) > j - i
    · rw [if_pos c1, rowT_zero T _ i j (by omega), cp_0]
      exact ⟨m, rfl, h9, Grew3.refl _ _⟩
    rw [if_neg c1]
    by_cases c2 : (signs.length : Int) = 0
    · rw [if_pos c2]
      have e : signs = [] := List.eq_nil_of_length_eq_zero (by omega)
      subst e
      rw [rowT]
      refine ⟨m, ?_, h9, Grew3.refl _ _⟩
      by_cases c3 : i = j
      · rw [if_pos c3, if_pos c3, cp_1]
      · rw [if_neg c3, if_neg c3, cp_0]
    rw [if_neg c2]
    have hx := h2 (rd signs 0) (rd_mem (Int.le_refl _) (by omega))
    have sub : ∀ (i2 j2 : Int), 0 ≤ i2 → j2 ≤ (w.length : Int) → i2 ≤ j2 → 2 * (j2 - i2) + 1 ≤ (k : Int) → ∀ (r : S45) (m : PM3), r ∈ rs → NOK T m → ∃ m', rowF K rs w k r.f1 i2 j2 m = some (cp (rowT T r.f1 i2 j2), m') ∧ NOK T m' ∧ Grew3 (j2 - i2 - 1) m m' := by
      intro i2 j2 g1 g2 g3 g4 r m hr hm
      have hno : ¬ ((r.f1.length : Int) = 1 ∧ K ≤ rd r.f1 0) := by
        rintro ⟨e1, e2⟩
        match hq : r.f1 with
        | [] => rw [hq] at e1; simp at e1
        | [y] =>
          have := (hP r hr).2 y hq
          rw [hq] at e2
          have e3 : rd [y] 0 = y := rfl
          omega
        | y :: z :: t => rw [hq] at e1; simp only [List.length_cons] at e1; omega
      have hh := ih r.f1 i2 j2 m (G.rl r hr) (fun x hx => ⟨G.x0 r hr x hx, G.x1 r hr x hx⟩) g1 g3 g2 (by rw [if_neg hno]; omega) hm
      rw [if_neg hno] at hh
      exact hh
    by_cases c3 : (signs.length : Int) = 1
    · rw [if_pos c3]
      obtain ⟨y, rfl⟩ : ∃ y, signs = [y] := by
        match hq : signs with
        | [] => simp at c3
        | [y] => exact ⟨y, rfl⟩
        | y :: z :: t => simp only [List.length_cons] at c3; omega
      have e3 : rd [y] 0 = y := rfl
      rw [e3] at hx h8 ⊢
      rw [rowT_one T y i j (by simp only [List.length_cons, List.length_nil] at c1; omega)]
      obtain ⟨m', a1, a2, a3⟩ := treesF_ok hlen hP hT hK1 hw (rowF K rs w k) y i j (by omega) hx.1 (by omega) h5 h6 h7 (by simp only [List.length_cons, List.length_nil] at c1; omega) (fun hn hlt r m0 hr hm0 => sub i j h5 h7 h6 (by rw [if_pos ⟨c3, by omega⟩] at h8; omega) r m0 hr hm0) m h9
      refine ⟨m', a1, a2, a3.mono ?_⟩
      by_cases d : y < K
      · rw [if_pos d]; split <;> omega
      · rw [if_neg d, if_pos ⟨c3, by omega⟩]; omega
    rw [if_neg c3]
    have c4 : ¬ ((signs.length : Int) = 1 ∧ K ≤ rd signs 0) := fun h => c3 h.1
    rw [if_neg c4] at h8 ⊢
    obtain ⟨y, rest, rfl⟩ : ∃ y rest, signs = y :: rest := by
      match hq : signs with
      | [] => simp at c2
      | y :: t => exact ⟨y, t, rfl⟩
    have e3 : rd (y :: rest) 0 = y := rfl
    rw [e3] at hx
    simp only [List.length_cons] at c1 c2 c3 h1
    have hr2 : 1 ≤ rest.length := by omega
    obtain ⟨k1, rfl⟩ : ∃ k1, k = k1 + 1 := ⟨k - 1, by omega⟩
    have loop : ∀ (n : Nat) (mid s : Int) (acc : Nat) (m : PM3), i + 1 ≤ mid → mid ≤ j → (j - mid) + 1 ≤ (n : Int) → s = cp acc → NOK T m →
        ∃ m', rowL (k1 + 1) (rowF K rs w (k1 + 1)) (treesF (rowF K rs w (k1 + 1)) K rs w) (y :: rest) i j n mid s m = some (cp (acc + tsum (fun mid => T y i mid * rowT T rest mid j) (j + 1 - mid).toNat mid), m') ∧ NOK T m' ∧ Grew3 (j - i - 1) m m' := by
      intro n
      induction n with
      | zero => intro mid s acc m _ _ _ _ _; omega
      | succ n ihn =>
        intro mid s acc m g1 g2 g3 g4 g5
        have hs := cp_nn acc
        rw [rowL]
        by_cases d1 : mid < j
        · rw [if_pos d1, show (j + 1 - mid).toNat = (j + 1 - (mid + 1)).toNat + 1 by omega, tsum, w64 (x := mid + 1) (by omega) (by omega)]
          obtain ⟨m1, hr1, hm1, hg1⟩ := ih rest mid j m (by omega) (fun x hx => h2 x (List.mem_cons_of_mem _ hx)) (by omega) (by omega) h7 (by split <;> omega) g5
          have hg1b : Grew3 (j - i - 1) m m1 := hg1.mono (by split <;> omega)
          rw [show (y :: rest).drop 1 = rest from rfl, hr1]
          simp only [Option.bind_some]
          by_cases d3 : cp (rowT T rest mid j) > 0
          · rw [if_pos d3, e3]
            obtain ⟨m2, hr2, hm2, hg2⟩ := treesF_ok hlen hP hT hK1 hw (rowF K rs w (k1 + 1)) y i mid (by omega) hx.1 (by omega) h5 (by omega) (by omega) (by omega) (fun hn hlt r m0 hr hm0 => sub i mid h5 (by omega) (by omega) (by omega) r m0 hr hm0) m1 hm1
            rw [hr2]
            simp only [Option.bind_some]
            rw [capped_cp]
            simp only [Option.bind_some]
            have hc := cp_nn (T y i mid * rowT T rest mid j)
            rw [← Nat.add_assoc, w64 (x := s + _) (by omega) (by omega)]
            obtain ⟨m3, a1, a2, a3⟩ := ihn (mid + 1) _ (acc + T y i mid * rowT T rest mid j) m2 (by omega) (by omega) (by omega) (show (if s + cp (T y i mid * rowT T rest mid j) > 1099511627776 then (1099511627777 : Int) else s + cp (T y i mid * rowT T rest mid j)) = _ by
              rw [g4]
              generalize T y i mid * rowT T rest mid j = z
              unfold cp
              split <;> omega) hm2
            refine ⟨m3, a1, a2, (hg1b.trans hg2 ?_).trans a3 (Int.le_refl _)⟩
            split <;> omega
          · rw [if_neg d3]
            have e0 : rowT T rest mid j = 0 := by
              have := cp_pos (rowT T rest mid j)
              omega
            rw [e0, Nat.mul_zero, Nat.zero_add, show (if s > 1099511627776 then (1099511627777 : Int) else s) = s by split <;> omega]
            obtain ⟨m3, a1, a2, a3⟩ := ihn (mid + 1) s acc m1 (by omega) (by omega) (by omega) g4 hm1
            exact ⟨m3, a1, a2, hg1b.trans a3 (Int.le_refl _)⟩
        · rw [if_neg d1, tsum_zero _ _ (fun z y0 y1 => by
            rw [rowT_zero T _ z j (by omega), Nat.mul_zero]), Nat.add_zero, g4]
          exact ⟨m, rfl, g5, Grew3.refl _ _⟩
    obtain ⟨m1, e1, hm1, hg⟩ := loop ((j - i).toNat + 2) (i + 1) 0 0 m (Int.le_refl _) (by omega) (by omega) rfl h9
    rw [w64 (x := i + 1) (by omega) (by omega), e1, Nat.zero_add, show (j + 1 - (i + 1)).toNat = (j - i).toNat by omega]
    exact ⟨m1, by rw [rowT], hm1, hg⟩
end

def propBad (K : Int) (r : S45) : Bool := decide ((r.f1.length : Int) = 0) || (decide ((r.f1.length : Int) = 1) && decide (rd r.f1 0 ≥ K))
theorem propBad_ok {K : Int} {rs : List S45} (h : rs.any (propBad K) = false) : ProperP K rs := by
  intro r hr
  have hb := List.any_eq_false.1 h r hr
  unfold propBad at hb
  constructor
  · intro e
    rw [e] at hb
    simp at hb
  · intro x e
    rw [e] at hb
    have e3 : rd [x] 0 = x := rfl
    rw [e3] at hb
    simp at hb
    omega
theorem tproper_ev (K N st : Int) (rs : List S45) (hl : rs.length ≤ 10) : Ev (fun k => table_Proper.f k K N st rs) (if rs.any (propBad K) = true then false else true) := by
  unfold table_Proper.f
  refine Ev.firstBad (L := fun k i => table_Proper.l0 k rs (rs.length : Int) i K N st rs) (rdf := rd_T45 rs) (fun i h0 h1 => rd_rule h0 h1) ?_ ?_ ?_
  · intro _
    refine Ev.step (fun k => table_Proper.l0.eq_2 _ _ _ _ _ _ _ k) ?_
    simp (disch := omega) only [if_neg]; exact Ev.now _
  · intro i h0 h1 hb
    refine Ev.step (fun k => table_Proper.l0.eq_2 _ _ _ _ _ _ _ k) ?_
    unfold propBad at hb
    refine Ev.pos h1 (Ev.pos h0 (Ev.pos h1 ?_))
    by_cases c1 : ((rd_T45 rs i).f1.length : Int) = 0
    · exact Ev.pos c1 (Ev.now _)
    have c2 : ((rd_T45 rs i).f1.length : Int) = 1 ∧ rd (rd_T45 rs i).f1 0 ≥ K := by
      rw [decide_eq_false c1, Bool.false_or, Bool.and_eq_true, decide_eq_true_eq, decide_eq_true_eq] at hb
      exact hb
    exact Ev.neg c1 (Ev.pos c2.1 (Ev.pos (by omega) (Ev.pos c2.2 (Ev.now _))))
  · intro i r h0 h1 hb hr
    refine Ev.step (fun k => table_Proper.l0.eq_2 _ _ _ _ _ _ _ k) ?_
    unfold propBad at hb
    rw [Bool.or_eq_false_iff, decide_eq_false_iff_not, Bool.and_eq_false_iff, decide_eq_false_iff_not, decide_eq_false_iff_not] at hb
    rw [w64 (by omega) (by omega)]
    refine Ev.pos h1 (Ev.pos h0 (Ev.pos h1 (Ev.neg hb.1 ?_)))
    by_cases c1 : ((rd_T45 rs i).f1.length : Int) = 1
    · refine Ev.pos c1 (Ev.pos (by omega) (Ev.neg ?_ hr))
      rcases hb.2 with a | a
      · exact absurd c1 a
      · exact a
    · exact Ev.neg c1 hr
theorem rproper_ev (K N st : Int) (rs : List S45) (hl : rs.length ≤ 10) : Ev (fun k => coppicerref_Proper.f k K N st rs) (if rs.any (propBad K) = true then false else true) := by
  unfold coppicerref_Proper.f
  refine Ev.firstBad (L := fun k i => coppicerref_Proper.l0 k rs (rs.length : Int) i K N st rs) (rdf := rd_T45 rs) (fun i h0 h1 => rd_rule h0 h1) ?_ ?_ ?_
  · intro _
    refine Ev.step (fun k => coppicerref_Proper.l0.eq_2 _ _ _ _ _ _ _ k) ?_
    simp (disch := omega) only [if_neg]; exact Ev.now _
  · intro i h0 h1 hb
    refine Ev.step (fun k => coppicerref_Proper.l0.eq_2 _ _ _ _ _ _ _ k) ?_
    unfold propBad at hb
    refine Ev.pos h1 (Ev.pos h0 (Ev.pos h1 ?_))
    by_cases c1 : ((rd_T45 rs i).f1.length : Int) = 0
    · exact Ev.pos c1 (Ev.now _)
    have c2 : ((rd_T45 rs i).f1.length : Int) = 1 ∧ rd (rd_T45 rs i).f1 0 ≥ K := by
      rw [decide_eq_false c1, Bool.false_or, Bool.and_eq_true, decide_eq_true_eq, decide_eq_true_eq] at hb
      exact hb
    exact Ev.neg c1 (Ev.pos c2.1 (Ev.pos (by omega) (Ev.pos c2.2 (Ev.now _))))
  · intro i r h0 h1 hb hr
    refine Ev.step (fun k => coppicerref_Proper.l0.eq_2 _ _ _ _ _ _ _ k) ?_
    unfold propBad at hb
    rw [Bool.or_eq_false_iff, decide_eq_false_iff_not, Bool.and_eq_false_iff, decide_eq_false_iff_not, decide_eq_false_iff_not] at hb
    rw [w64 (by omega) (by omega)]
    refine Ev.pos h1 (Ev.pos h0 (Ev.pos h1 (Ev.neg hb.1 ?_)))
    by_cases c1 : ((rd_T45 rs i).f1.length : Int) = 1
    · refine Ev.pos c1 (Ev.pos (by omega) (Ev.neg ?_ hr))
      rcases hb.2 with a | a
      · exact absurd c1 a
      · exact a
    · exact Ev.neg c1 hr
theorem twrong_ev (K N st : Int) (rs : List S45) (w : List Int) : Ev (fun k => table_wrong.f k K N st rs w) (if gcode K N st rs = 0 then wordCode K w else gcode K N st rs) := by
  unfold table_wrong.f
  refine Ev.bind (gcheck_ev K N st rs) ?_
  by_cases h : gcode K N st rs = 0
  · refine Ev.pos h ?_
    rw [if_pos h, Words_eq]
    exact Ev.now _
  · refine Ev.neg h ?_
    rw [if_neg h]; exact Ev.now _
def tcode (K N st : Int) (rs : List S45) (w : List Int) : Int := if gcode K N st rs = 0 then (if wordCode K w = 0 then (if rs.any (propBad K) = true then 3 else 0) else wordCode K w) else gcode K N st rs
theorem tcheck_ev (K N st : Int) (rs : List S45) (w : List Int) : Ev (fun k => coppicerref_TreesCheck.f k K N st rs w) (tcode K N st rs w) := by
  unfold coppicerref_TreesCheck.f tcode
  refine Ev.bind (rcheck_ev K N st rs) ?_
  by_cases h : gcode K N st rs = 0
  · rw [if_pos h]
    have G := gcode_ok h
    refine Ev.pos h (Ev.bind (WordCheck_ev K w) ?_)
    by_cases c : wordCode K w = 0
    · rw [if_pos c]
      refine Ev.pos c (Ev.bind (rproper_ev K N st rs G.len) ?_)
      by_cases d : rs.any (propBad K) = true
      · rw [if_pos d, if_pos d]
        exact Ev.neg (by simp) (Ev.now _)
      · rw [if_neg d, if_neg d]
        exact Ev.pos rfl (Ev.val c)
    · rw [if_neg c]
      exact Ev.neg c (Ev.now _)
  · rw [if_neg h]; exact Ev.neg h (Ev.now _)
theorem TableTrees : coppicerlaw_TableTrees.Pure := by
  unfold coppicerlaw_TableTrees.Pure
  intro K N st rs w _ _ _ _ _ _
  obtain ⟨k1, h1⟩ := twrong_ev K N st rs w
  obtain ⟨k3, h3⟩ := tcheck_ev K N st rs w
  simp only [] at h1 h3
  by_cases g : gcode K N st rs = 0
  · have G := gcode_ok g
    have hK0 := G.K0
    have hK1 := G.K1
    have hN1 := G.N1
    have hs0 := G.s0
    have hs1 := G.s1
    obtain ⟨k2, h2⟩ := tproper_ev K N st rs G.len
    simp only [] at h2
    rw [if_pos g] at h1
    by_cases c : wordCode K w = 0
    · have hw := (wordCode_0 c).1
      refine ⟨k1 + k2 + k3 + 40, ?_⟩
      unfold coppicerlaw_TableTrees.f table_Trees.f
      rw [h1 _ (by omega), h3 _ (by omega), h2 _ (by omega), c]
      simp only [Option.bind_some, if_true]
      unfold tcode
      rw [if_pos g, if_pos c]
      by_cases d : rs.any (propBad K) = true
      · rw [if_pos d, if_pos d]
        rfl
      · rw [if_neg d, if_neg d]
        simp only [↓reduceIte]
        rw [w64 (x := K + st) (by omega) (by omega)]
        have hP := propBad_ok (by simpa using d : rs.any (propBad K) = false)
        have hT := TT_ok K rs w hP
        obtain ⟨m1, a1, _, _⟩ := sgn_ok 100 (K := K) G.len hT hK1 hw (cntF K rs w (k1 + k2 + k3 + 40)) (K + st) 0 (w.length : Int) (by omega) (by omega) (by omega) (Int.le_refl _) (Int.le_refl _) (Or.inr (by omega)) (fun _ q m q0 q1 hm => by
          obtain ⟨m', b1, b2, b3⟩ := cnt_ok G hP hT hw (k1 + k2 + k3 + 40) q 0 0 (w.length : Int) m q0 q1 (Int.le_refl _) (by omega) (Int.le_refl _) (by omega) (Int.le_refl _) (by rw [if_neg (by omega)]; omega) hm
          exact ⟨m', by simpa using b1, b2, b3.mono (by rw [if_neg (by omega)]; omega)⟩) [] MOK.nil
        obtain ⟨m2, a2, _, _⟩ := treesF_ok (K := K) G.len hP hT hK1 hw (rowF K rs w (k1 + k2 + k3 + 40)) (K + st) 0 (w.length : Int) (by omega) (by omega) (by omega) (Int.le_refl _) (by omega) (Int.le_refl _) (Or.inr (by omega)) (fun _ hlt r m hr hm => by
          have hno : ¬ ((r.f1.length : Int) = 1 ∧ K ≤ rd r.f1 0) := by
            rintro ⟨e1, e2⟩
            match hq : r.f1 with
            | [] => rw [hq] at e1; simp at e1
            | [y] =>
              have := (hP r hr).2 y hq
              rw [hq] at e2
              have e3 : rd [y] 0 = y := rfl
              omega
            | y :: z :: t => rw [hq] at e1; simp only [List.length_cons] at e1; omega
          have hh := row_ok G hP hT hw (k1 + k2 + k3 + 40) r.f1 0 (w.length : Int) m (G.rl r hr) (fun x hx => ⟨G.x0 r hr x hx, G.x1 r hr x hx⟩) (Int.le_refl _) (by omega) (Int.le_refl _) (by rw [if_neg hno]; omega) hm
          rw [if_neg hno] at hh
          exact hh) [] NOK.nil
        rw [a1, a2]
        simp only [Option.bind_some]
        generalize cp (signT K rs w 20 (K + st) 0 (w.length : Int)) = z
        by_cases e : z > 1099511627776
        · rw [if_pos e, if_pos e]
          rfl
        · rw [if_neg e, if_neg e]
          simp
    · refine ⟨k1 + k3, ?_⟩
      unfold coppicerlaw_TableTrees.f table_Trees.f
      rw [h1 _ (by omega), h3 _ (by omega)]
      simp only [Option.bind_some]
      have ht : tcode K N st rs w = wordCode K w := by unfold tcode; rw [if_pos g, if_neg c]
      rw [ht, if_neg c]
      simp [c]
  · refine ⟨k1 + k3, ?_⟩
    rw [if_neg g] at h1
    unfold coppicerlaw_TableTrees.f table_Trees.f
    rw [h1 _ (by omega), h3 _ (by omega)]
    simp only [Option.bind_some]
    have ht : tcode K N st rs w = gcode K N st rs := by unfold tcode; rw [if_neg g]
    rw [ht, if_neg g]
    simp [g]

end Go.Proofs.Ytnppgmbhdomelaa.Pure
