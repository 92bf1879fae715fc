/- The law TurnerRuns as a statement over numbers and lists alone: it holds under the bounds that the statement names. -/
import Derived.Test.YtlmagjgjaajeiaaStatTurnerRuns
set_option linter.unusedVariables false
set_option linter.unusedSimpArgs false
set_option linter.unusedSectionVars false
namespace Go.Proofs.Ytlmagjgjaajeiaa.Pure
open Go.RowKit Go.Proofs.Ytlmagjgjaajeiaa.PTurnerRuns Go.Proofs.YtlmagjgjaajeiaaW.PrintWords Go.Proofs.YtlmagjgjaajeiaaW.PrintLast Go.Proofs.YtlmagjgjaajeiaaW.PrintMore

/-! ### base: words for every pure text -/
theorem w64 {x : Int} (h0 : -9223372036854775808 ≤ x) (h1 : x ≤ 9223372036854775807) : wrap64 x = x := by unfold wrap64; omega
theorem Ev.pos {α : Type} {c : Prop} [Decidable c] {g f : Nat → Option α} {r : α} (h : c) (e : Ev g r) : Ev (fun k => if c then g k else f k) r := Ev.congr (fun k => by rw [if_pos h]) e
theorem Ev.neg {α : Type} {c : Prop} [Decidable c] {g f : Nat → Option α} {r : α} (h : ¬ c) (e : Ev f r) : Ev (fun k => if c then g k else f k) r := Ev.congr (fun k => by rw [if_neg h]) e
theorem Ev.val {α : Type} {r q : α} (h : r = q) : Ev (fun _ => some r) q := by subst h; exact Ev.now r
theorem rd_getElem {l : List Int} {i : Int} (h1 : i.toNat < l.length) : rd l i = l[i.toNat] := by simp [rd, List.getD_eq_getElem?_getD, List.getElem?_eq_getElem h1]
theorem drop_rd {l : List Int} {i : Int} (h0 : 0 ≤ i) (h1 : i < l.length) : l.drop i.toNat = rd l i :: l.drop (i + 1).toNat := by
  have h : i.toNat < l.length := by omega
  rw [rd_getElem h, List.drop_eq_getElem_cons h]; congr 2; omega
theorem take_rd {l : List Int} {i : Int} (h0 : 0 ≤ i) (h1 : i < l.length) : l.take (i + 1).toNat = l.take i.toNat ++ [rd l i] := by
  have h : i.toNat < l.length := by omega
  have e : (i + 1).toNat = i.toNat + 1 := by omega
  rw [rd_getElem h, e, List.take_succ_eq_append_getElem h]
theorem rd_drop (l : List Int) (n : Nat) (i : Int) (h0 : 0 ≤ i) : rd (l.drop n) i = rd l (i + n) := by
  have e : (i + n).toNat = n + i.toNat := by omega
  simp only [rd, List.getD_eq_getElem?_getD, List.getElem?_drop, e]
theorem rd_take (l : List Int) (n : Nat) (i : Int) (h0 : 0 ≤ i) (h1 : i < n) : rd (l.take n) i = rd l i := by
  simp only [rd, List.getD_eq_getElem?_getD]; rw [List.getElem?_take_of_lt (by omega)]
theorem drop_all {α : Type} (l : List α) (n : Nat) (h : l.length ≤ n) : l.drop n = [] := List.drop_eq_nil_of_le h
theorem dec_ne {a b : Int} {l m : List Int} (h : a ≠ b) : decide (a :: l = b :: m) = false := decide_eq_false (fun q => h (List.cons.inj q).1)
theorem Ev.no {p : Prop} [Decidable p] (h : ¬ p) : Ev (fun _ => some false) (decide p) := Ev.val (decide_eq_false h).symm
theorem Ev.yes {p : Prop} [Decidable p] (h : p) : Ev (fun _ => some true) (decide p) := Ev.val (decide_eq_true h).symm
theorem ext_rd {a b : List Int} (hl : a.length = b.length) (h : ∀ i : Int, 0 ≤ i → i < a.length → rd a i = rd b i) : a = b := by
  apply List.ext_getElem hl
  intro i h1 h2
  have := h i (by omega) (by omega)
  rwa [rd_getElem (by simpa using h1), rd_getElem (by simpa using h2)] at this
theorem wf_u8 {x : Int} (h : (Lit.int .u8 x).wf = true) : 0 ≤ x ∧ x ≤ 255 := by simpa [Lit.wf, IntKind.min, IntKind.max, IntKind.signed, IntKind.bits] using h
theorem wf_u32 {x : Int} (h : (Lit.int .u32 x).wf = true) : 0 ≤ x ∧ x ≤ 4294967295 := by simpa [Lit.wf, IntKind.min, IntKind.max, IntKind.signed, IntKind.bits] using h
theorem wf_i64 {x : Int} (h : (Lit.int .i64 x).wf = true) : -9223372036854775808 ≤ x ∧ x ≤ 9223372036854775807 := by simpa [Lit.wf, IntKind.min, IntKind.max, IntKind.signed, IntKind.bits] using h
theorem rd_mem {l : List Int} {i : Int} (h0 : 0 ≤ i) (h1 : i < l.length) : rd l i ∈ l := by
  rw [rd_getElem (by omega)]; exact List.getElem_mem _
theorem rd_u8 {l : List Int} (hw : ∀ x ∈ l, (Lit.int .u8 x).wf = true) {i : Int} (h0 : 0 ≤ i) (h1 : i < l.length) : 0 ≤ rd l i ∧ rd l i ≤ 255 := wf_u8 (hw _ (rd_mem h0 h1))
theorem tm {a b : Int} (h : 0 ≤ a) : Int.tmod a b = a % b := Int.tmod_eq_emod_of_nonneg h
theorem td {a b : Int} (h : 0 ≤ a) : Int.tdiv a b = a / b := Int.tdiv_eq_ediv_of_nonneg h

/-! ### words of 32 bits as natural numbers -/
theorem u32_id {x : Int} (h0 : 0 ≤ x) (h1 : x ≤ 4294967295) : IntKind.u32.wrap x = x := by rw [IntKind.wrap_u32]; omega
theorem u64_id {x : Int} (h0 : 0 ≤ x) (h1 : x ≤ 18446744073709551615) : IntKind.u64.wrap x = x := by simp [IntKind.wrap, IntKind.bits, IntKind.signed]; omega
theorem u32_or (a b : Nat) (ha : a < 2 ^ 32) (hb : b < 2 ^ 32) : Go.bits .or .u32 a b = ((a ||| b : Nat) : Int) :=
  (bits_nat .u32 32 (by decide) (fun n h0 h1 => u32_id h0 (by omega)) a b ha hb).2
theorem u32_and (a b : Nat) (ha : a < 2 ^ 32) (hb : b < 2 ^ 32) : Go.bits .and .u32 a b = ((a &&& b : Nat) : Int) :=
  (bits_nat .u32 32 (by decide) (fun n h0 h1 => u32_id h0 (by omega)) a b ha hb).1
theorem shl1 (n : Nat) (h : n < 32) : shl .u32 1 (n : Int) = ((2 ^ n : Nat) : Int) := by
  unfold shl
  have e : min ((n : Int)).toNat IntKind.u32.bits = n := by simp [IntKind.bits]; omega
  have h2 : 2 ^ n ≤ 2 ^ 31 := Nat.pow_le_pow_right (by omega) (by omega)
  rw [e, Int.one_mul, u32_id (by exact_mod_cast Nat.zero_le _) (by have : ((2 ^ n : Nat) : Int) ≤ 2 ^ 31 := by exact_mod_cast h2
                                                                   have e2 : ((2 : Int) ^ n) = ((2 ^ n : Nat) : Int) := by simp
                                                                   omega)]
  simp
theorem shrn (a n : Nat) (h : n < 32) : shr .u32 (a : Int) (n : Int) = ((a / 2 ^ n : Nat) : Int) := by
  unfold shr
  have e : min ((n : Int)).toNat IntKind.u32.bits = n := by simp [IntKind.bits]; omega
  rw [e]; simp

/-! ### sets of small numbers: bits of a natural number -/
theorem bit_shr (a i : Nat) (ha : a < 2 ^ 32) (hi : i < 32) : (Go.bits .and .u32 (shr .u32 (a : Int) (i : Int)) 1 = 1) ↔ a.testBit i = true := by
  rw [shrn a i hi]
  have h1 : a / 2 ^ i < 2 ^ 32 := Nat.lt_of_le_of_lt (Nat.div_le_self _ _) ha
  have h2 := u32_and (a / 2 ^ i) 1 h1 (by decide)
  have h3 : ((1 : Nat) : Int) = 1 := rfl
  rw [h3] at h2
  rw [h2, Nat.and_one_is_mod, Nat.testBit_eq_decide_div_mod_eq]
  simp only [decide_eq_true_eq]; omega
theorem bit_and (a i : Nat) (ha : a < 2 ^ 32) (hi : i < 32) : (Go.bits .and .u32 (a : Int) (shl .u32 1 (i : Int)) != 0) = a.testBit i := by
  have h0 : 2 ^ i < 2 ^ 32 := Nat.pow_lt_pow_right (by omega) hi
  rw [shl1 i hi, u32_and a (2 ^ i) ha h0]
  cases h : a.testBit i with
  | true =>
    have : a &&& 2 ^ i ≠ 0 := fun e => by
      have q := congrArg (fun x => Nat.testBit x i) e
      simp [Nat.testBit_and, Nat.testBit_two_pow_self, h] at q
    simp; omega
  | false =>
    have : a &&& 2 ^ i = 0 := by
      apply Nat.eq_of_testBit_eq
      intro j
      by_cases e : i = j
      · subst e; simp [Nat.testBit_and, h]
      · simp [Nat.testBit_and, Nat.testBit_two_pow, e]
    rw [this]; rfl
theorem bit_or (a i : Nat) (ha : a < 2 ^ 32) (hi : i < 32) : Go.bits .or .u32 (a : Int) (shl .u32 1 (i : Int)) = ((a ||| 2 ^ i : Nat) : Int) := by
  have h0 : 2 ^ i < 2 ^ 32 := Nat.pow_lt_pow_right (by omega) hi
  rw [shl1 i hi, u32_or a (2 ^ i) ha h0]
def cnt : Nat → Nat → Nat
  | 0, _ => 0
  | n + 1, s => cnt n s + (s.testBit n).toNat
theorem cnt_le : ∀ n s, cnt n s ≤ n
  | 0, _ => Nat.le_refl _
  | n + 1, s => by
    have := cnt_le n s
    unfold cnt
    cases s.testBit n <;> simp <;> omega
theorem cnt_mono (s t : Nat) (h : ∀ i, s.testBit i = true → t.testBit i = true) : ∀ n, cnt n s ≤ cnt n t
  | 0 => Nat.le_refl _
  | n + 1 => by
    have := cnt_mono s t h n
    have h1 := h n
    unfold cnt
    cases q : s.testBit n
    · simp; omega
    · rw [h1 q]; simp; omega
theorem cnt_lt (s t : Nat) (h : ∀ i, s.testBit i = true → t.testBit i = true) (i : Nat) (hs : s.testBit i = false) (ht : t.testBit i = true) : ∀ n, i < n → cnt n s < cnt n t
  | 0, hi => by omega
  | n + 1, hi => by
    have h1 := h n
    have h2 := cnt_mono s t h n
    unfold cnt
    by_cases e : i = n
    · subst e; rw [hs, ht]; simp; omega
    · have := cnt_lt s t h i hs ht n (by omega)
      cases q : s.testBit n
      · simp; omega
      · rw [h1 q]; simp; omega
theorem bits_ne {s t n : Nat} (hs : s < 2 ^ n) (ht : t < 2 ^ n) (h : ∀ i, s.testBit i = true → t.testBit i = true) (hne : t ≠ s) : ∃ i, i < n ∧ s.testBit i = false ∧ t.testBit i = true := by
  rcases Classical.em (∃ i, i < n ∧ s.testBit i = false ∧ t.testBit i = true) with q | q
  · exact q
  · exfalso; apply hne
    apply Nat.eq_of_testBit_eq
    intro i
    by_cases hi : i < n
    · cases e : s.testBit i with
      | true => exact h i e
      | false =>
        cases e2 : t.testBit i with
        | false => rfl
        | true => exact absurd ⟨i, hi, e, e2⟩ q
    · have h2 : 2 ^ n ≤ 2 ^ i := Nat.pow_le_pow_right (by omega) (by omega)
      rw [Nat.testBit_lt_two_pow (Nat.lt_of_lt_of_le hs h2), Nat.testBit_lt_two_pow (Nat.lt_of_lt_of_le ht h2)]
/-! a step that only adds, again and again -/
def rep (P : Nat → Nat) : Nat → Nat → Nat
  | 0, s => s
  | n + 1, s => rep P n (P s)
theorem rep_fix (P : Nat → Nat) (s : Nat) (h : P s = s) : ∀ n, rep P n s = s
  | 0 => rfl
  | n + 1 => by unfold rep; rw [h]; exact rep_fix P s h n
theorem rep_succ (P : Nat → Nat) : ∀ n s, rep P (n + 1) s = P (rep P n s)
  | 0, _ => rfl
  | n + 1, s => by
    show rep P (n + 1) (P s) = P (rep P n (P s))
    exact rep_succ P n (P s)
theorem rep_lt (P : Nat → Nat) (b : Nat) (h : ∀ s, s < b → P s < b) : ∀ n s, s < b → rep P n s < b
  | 0, _, hs => hs
  | n + 1, s, hs => rep_lt P b h n (P s) (h s hs)

/-! ### rows of rows -/
theorem drop_rdL {l : List (List Int)} {i : Int} (h0 : 0 ≤ i) (h1 : i < l.length) : l.drop i.toNat = rd_L1 l i :: l.drop (i + 1).toNat := by
  have h : i.toNat < l.length := by omega
  have e : rd_L1 l i = l[i.toNat] := by simp [rd_L1, List.getD_eq_getElem?_getD, List.getElem?_eq_getElem h]
  rw [e, List.drop_eq_getElem_cons h]; congr 2; omega
theorem rdL_mem {l : List (List Int)} {i : Int} (h0 : 0 ≤ i) (h1 : i < l.length) : rd_L1 l i ∈ l := by
  have h : i.toNat < l.length := by omega
  have e : rd_L1 l i = l[i.toNat] := by simp [rd_L1, List.getD_eq_getElem?_getD, List.getElem?_eq_getElem h]
  rw [e]; exact List.getElem_mem _

/-! ### loops, round by round -/
theorem anyO_some {α : Type} (p : α → Bool) : ∀ l : List α, anyO (fun x => some (p x)) l = some (l.any p)
  | [] => rfl
  | x :: l => by
    unfold anyO
    rw [Option.bind_some, anyO_some p l, List.any_cons]
    cases p x <;> simp
theorem anyO_of {α : Type} {f : α → Option Bool} {p : α → Bool} {l : List α} (h : ∀ x ∈ l, f x = some (p x)) : anyO f l = some (l.any p) := by
  induction l with
  | nil => rfl
  | cons x l ih =>
    unfold anyO
    rw [h x (by simp), Option.bind_some, ih (fun y hy => h y (by simp [hy])), List.any_cons]
    cases p x <;> simp
theorem Ev.loop {σ ρ : Type} {L : Nat → Int → σ → Option ρ} {n : Int} {r : ρ} (I : Int → σ → Prop)
    (hend : ∀ s, I n s → Ev (fun k => L k n s) r)
    (hstep : ∀ i s, 0 ≤ i → i < n → I i s → Ev (fun k => L k i s) r ∨ ∃ s', I (i + 1) s' ∧ (Ev (fun k => L k (i + 1) s') r → Ev (fun k => L k i s) r)) :
    ∀ (i : Int) (s : σ), 0 ≤ i → i ≤ n → I i s → Ev (fun k => L k i s) r := by
  have key : ∀ (d : Nat) (i : Int) (s : σ), 0 ≤ i → i + d = n → I i s → Ev (fun k => L k i s) r := by
    intro d
    induction d with
    | zero => intro i s h0 h1 hI; obtain rfl : i = n := by omega
              exact hend s hI
    | succ d ih =>
      intro i s h0 h1 hI
      rcases hstep i s h0 (by omega) hI with h | ⟨s', h', h⟩
      · exact h
      · exact h (ih (i + 1) s' (by omega) (by omega) h')
  intro i s h0 h1 hI
  exact key (n - i).toNat i s h0 (by omega) hI
/-- The first element that is bad ends a loop. -/
theorem Ev.firstBad {α ρ : Type} {L : Nat → Int → Option ρ} {l : List α} {rdf : Int → α} {bad : α → Bool} {c fin : ρ}
    (hrd : ∀ i : Int, 0 ≤ i → i < l.length → l.drop i.toNat = rdf i :: l.drop (i + 1).toNat)
    (hend : l.any bad = false → Ev (fun k => L k l.length) fin)
    (hbad : ∀ i : Int, 0 ≤ i → i < l.length → bad (rdf i) = true → Ev (fun k => L k i) c)
    (hgood : ∀ (i : Int) (r : ρ), 0 ≤ i → i < l.length → bad (rdf i) = false → Ev (fun k => L k (i + 1)) r → Ev (fun k => L k i) r) :
    Ev (fun k => L k 0) (if l.any bad = true then c else fin) := by
  refine Ev.loop (σ := Unit) (L := fun k i _ => L k i) (n := l.length) (fun i _ => l.any bad = (l.drop i.toNat).any bad) ?_ ?_ 0 () (Int.le_refl _) (by omega) rfl
  · intro _ h
    rw [Int.toNat_natCast, List.drop_length] at h
    have h : l.any bad = false := h
    rw [h]; exact hend h
  · intro i _ h0 h1 h
    rw [hrd i h0 h1, List.any_cons] at h
    cases hb : bad (rdf i) with
    | true => left; rw [h, hb]; exact hbad i h0 h1 hb
    | false => right; refine ⟨(), by rw [h, hb]; rfl, hgood i _ h0 h1 hb⟩
theorem rd_cons {l : List Int} {i : Int} (h0 : 0 ≤ i) (h1 : i < l.length) : l.drop i.toNat = rd l i :: l.drop (i + 1).toNat := drop_rd h0 h1

/-! ### coppicerref_Ints -/
theorem Ints_l0 (a b : List Int) (hl : a.length = b.length) (hb : (a.length : Int) ≤ 4611686018427387904) (d : Nat) : ∀ i : Int, 0 ≤ i → i + d = a.length → Ev (fun k => coppicerref_Ints.l0 k a b i) (decide (a.drop i.toNat = b.drop i.toNat)) := by
  induction d with
  | zero =>
    intro i h0 hd
    refine Ev.step (fun k => coppicerref_Ints.l0.eq_2 _ _ _ k) ?_
    simp (disch := omega) only [if_pos, if_neg]
    exact Ev.val (by rw [List.drop_eq_nil_of_le (by omega), List.drop_eq_nil_of_le (by omega)]; simp)
  | succ d ih =>
    intro i h0 hd
    refine Ev.step (fun k => coppicerref_Ints.l0.eq_2 _ _ _ k) ?_
    simp (disch := omega) only [if_pos, w64]
    rw [drop_rd h0 (by omega), drop_rd (l := b) h0 (by omega)]
    by_cases h : rd a i = rd b i
    · simp only [if_pos h]
      exact Ev.congr (fun _ => rfl) (by simpa [h] using ih (i + 1) (by omega) (by omega))
    · simp only [if_neg h]
      exact Ev.val (by simp [h])
theorem Ints_ev (a b : List Int) (hb : (a.length : Int) ≤ 4611686018427387904) : Ev (fun k => coppicerref_Ints.f k a b) (decide (a = b)) := by
  unfold coppicerref_Ints.f
  by_cases hl : a.length = b.length
  · simp (disch := omega) only [if_pos]
    simpa using Ints_l0 a b hl hb a.length 0 (by omega) (by omega)
  · simp (disch := omega) only [if_neg]
    exact Ev.val (by simp; intro h; exact hl (by rw [h]))

/-! ### slices.Concat -/
theorem Concat_l1 (l : List (List Int)) (hl : l.length ≤ 4611686018427387904) (R : List Int) (hR : R.length < 17592186044416) (d : Nat) : ∀ (i : Int) (acc : List Int), 0 ≤ i → i + d = l.length → acc ++ (l.drop i.toNat).flatten = R →
    Ev (fun k => slices_Concat_Sint_int.l1 k acc l (l.length : Int) i) R := by
  induction d with
  | zero =>
    intro i acc h0 hd h
    refine Ev.step (fun k => slices_Concat_Sint_int.l1.eq_2 _ _ _ _ k) ?_
    simp (disch := omega) only [if_neg]
    rw [List.drop_eq_nil_of_le (by omega)] at h
    exact Ev.val (by simpa using h)
  | succ d ih =>
    intro i acc h0 hd h
    refine Ev.step (fun k => slices_Concat_Sint_int.l1.eq_2 _ _ _ _ k) ?_
    rw [drop_rdL h0 (by omega), List.flatten_cons, ← List.append_assoc] at h
    have hlen : acc.length + (rd_L1 l i).length ≤ R.length := by
      rw [← h]; simp only [List.length_append]; omega
    simp (disch := omega) only [if_pos, w64]
    exact ih (i + 1) _ (by omega) (by omega) h
theorem Concat_l0 (l : List (List Int)) (hl : l.length ≤ 4611686018427387904) (hR : l.flatten.length < 17592186044416) (d : Nat) : ∀ (i s : Int), 0 ≤ i → i + d = l.length → 0 ≤ s → s + (l.drop i.toNat).flatten.length = l.flatten.length →
    Ev (fun k => slices_Concat_Sint_int.l0 k l s l (l.length : Int) i) l.flatten := by
  induction d with
  | zero =>
    intro i s h0 hd hs h
    refine Ev.step (fun k => slices_Concat_Sint_int.l0.eq_2 _ _ _ _ _ k) ?_
    rw [List.drop_eq_nil_of_le (by omega)] at h
    simp only [List.flatten_nil, List.length_nil] at h
    simp (disch := omega) only [if_neg, slices_Grow_Sint_int.f, if_pos, Option.bind_some]
    exact Concat_l1 l hl _ hR l.length 0 [] (by omega) (by omega) (by simp)
  | succ d ih =>
    intro i s h0 hd hs h
    refine Ev.step (fun k => slices_Concat_Sint_int.l0.eq_2 _ _ _ _ _ k) ?_
    rw [drop_rdL h0 (by omega), List.flatten_cons, List.length_append] at h
    simp (disch := omega) only [if_pos, if_neg, w64]
    exact ih (i + 1) _ (by omega) (by omega) (by omega) (by omega)
theorem Concat_ev (l : List (List Int)) (hl : l.length ≤ 4611686018427387904) (hR : l.flatten.length < 17592186044416) : Ev (fun k => slices_Concat_Sint_int.f k l) l.flatten := by
  unfold slices_Concat_Sint_int.f
  exact Concat_l0 l hl hR l.length 0 0 (by omega) (by omega) (by omega) (by simp)

/-! ### words: machine.Words and coppicerref.WordCheck -/
def wordCode (K : Int) (w : List Int) : Int := if (w.length : Int) > 12 then 1 else if (w.any fun s => decide (s < 0) || decide (s ≥ K)) = true then 2 else 0
theorem Words_eq (K : Int) (w : List Int) : machine_Words.f K w = some (wordCode K w) := by
  unfold machine_Words.f wordCode
  have e : machine_Words_1_any.f w K = some (w.any fun s => decide (s < 0) || decide (s ≥ K)) := by
    unfold machine_Words_1_any.f
    refine anyO_of (fun x _ => ?_)
    unfold machine_Words_1.f
    by_cases h : x < 0
    · rw [if_pos h]; simp [h]
    · rw [if_neg h]; simp [h]
  by_cases c : (w.length : Int) > 12
  · simp only [if_pos c]
  · simp only [if_neg c, e, Option.bind_some]
    cases w.any fun s => decide (s < 0) || decide (s ≥ K) <;> simp
theorem WordCheck_l0 (K : Int) (w : List Int) (hl : w.length ≤ 12) (d : Nat) : ∀ i : Int, 0 ≤ i → i + d = w.length →
    Ev (fun k => coppicerref_WordCheck.l0 k K w (w.length : Int) i) (if ((w.drop i.toNat).any fun s => decide (s < 0) || decide (s ≥ K)) = true then 2 else 0) := by
  induction d with
  | zero =>
    intro i h0 hd
    refine Ev.step (fun k => coppicerref_WordCheck.l0.eq_2 _ _ _ _ k) ?_
    simp (disch := omega) only [if_neg (show ¬ i < (w.length : Int) by omega)]
    rw [List.drop_eq_nil_of_le (by omega)]; exact Ev.now _
  | succ d ih =>
    intro i h0 hd
    refine Ev.step (fun k => coppicerref_WordCheck.l0.eq_2 _ _ _ _ k) ?_
    rw [drop_rd h0 (by omega)]
    simp (disch := omega) only [if_pos (show i < (w.length : Int) by omega), if_pos h0, w64]
    by_cases a : rd w i < 0
    · simp only [if_pos a]; exact Ev.val (by simp [a])
    · by_cases b : rd w i ≥ K
      · simp only [if_neg a, if_pos b]; exact Ev.val (by simp [b])
      · simp only [if_neg a, if_neg b]
        have := ih (i + 1) (by omega) (by omega)
        simpa [a, b] using this
theorem WordCheck_ev (K : Int) (w : List Int) : Ev (fun k => coppicerref_WordCheck.f k K w) (wordCode K w) := by
  unfold coppicerref_WordCheck.f wordCode
  by_cases c : (w.length : Int) > 12
  · simp only [if_pos c]; exact Ev.now _
  · simp only [if_neg c]
    simpa using WordCheck_l0 K w (by omega) w.length 0 (by omega) (by omega)
theorem wordCode_0 {K : Int} {w : List Int} (h : wordCode K w = 0) : w.length ≤ 12 ∧ ∀ s ∈ w, 0 ≤ s ∧ s < K := by
  unfold wordCode at h
  by_cases c : (w.length : Int) > 12
  · rw [if_pos c] at h; omega
  · rw [if_neg c] at h
    refine ⟨by omega, ?_⟩
    by_cases e : (w.any fun s => decide (s < 0) || decide (s ≥ K)) = true
    · rw [if_pos e] at h; omega
    · intro s hs
      simp only [List.any_eq_true, not_exists, not_and, Bool.or_eq_true, decide_eq_true_eq, not_or] at e
      have := e s hs
      omega

/-! ### slices.Concat of words of words -/
theorem drop_rdW {l : List (List (List Int))} {i : Int} (h0 : 0 ≤ i) (h1 : i < l.length) : l.drop i.toNat = rd_L2 l i :: l.drop (i + 1).toNat := by
  have h : i.toNat < l.length := by omega
  have e : rd_L2 l i = l[i.toNat] := by simp [rd_L2, List.getD_eq_getElem?_getD, List.getElem?_eq_getElem h]
  rw [e, List.drop_eq_getElem_cons h]; congr 2; omega
theorem rdW_mem {l : List (List (List Int))} {i : Int} (h0 : 0 ≤ i) (h1 : i < l.length) : rd_L2 l i ∈ l := by
  have h : i.toNat < l.length := by omega
  have e : rd_L2 l i = l[i.toNat] := by simp [rd_L2, List.getD_eq_getElem?_getD, List.getElem?_eq_getElem h]
  rw [e]; exact List.getElem_mem _
theorem ConcatW_l1 (l : List (List (List Int))) (hl : l.length ≤ 4611686018427387904) (R : List (List Int)) (hR : R.length < 5864062014805) (d : Nat) : ∀ (i : Int) (acc : List (List Int)), 0 ≤ i → i + d = l.length → acc ++ (l.drop i.toNat).flatten = R →
    Ev (fun k => slices_Concat_SSint_Sint.l1 k acc l (l.length : Int) i) R := by
  induction d with
  | zero =>
    intro i acc h0 hd h
    refine Ev.step (fun k => slices_Concat_SSint_Sint.l1.eq_2 _ _ _ _ k) ?_
    simp (disch := omega) only [if_neg]
    rw [List.drop_eq_nil_of_le (by omega)] at h
    exact Ev.val (by simpa using h)
  | succ d ih =>
    intro i acc h0 hd h
    refine Ev.step (fun k => slices_Concat_SSint_Sint.l1.eq_2 _ _ _ _ k) ?_
    rw [drop_rdW h0 (by omega), List.flatten_cons, ← List.append_assoc] at h
    have hlen : acc.length + (rd_L2 l i).length ≤ R.length := by
      rw [← h]; simp only [List.length_append]; omega
    simp (disch := omega) only [if_pos, w64]
    exact ih (i + 1) _ (by omega) (by omega) h
theorem ConcatW_l0 (l : List (List (List Int))) (hl : l.length ≤ 4611686018427387904) (hR : l.flatten.length < 5864062014805) (d : Nat) : ∀ (i s : Int), 0 ≤ i → i + d = l.length → 0 ≤ s → s + (l.drop i.toNat).flatten.length = l.flatten.length →
    Ev (fun k => slices_Concat_SSint_Sint.l0 k l s l (l.length : Int) i) l.flatten := by
  induction d with
  | zero =>
    intro i s h0 hd hs h
    refine Ev.step (fun k => slices_Concat_SSint_Sint.l0.eq_2 _ _ _ _ _ k) ?_
    rw [List.drop_eq_nil_of_le (by omega)] at h
    simp only [List.flatten_nil, List.length_nil] at h
    simp (disch := omega) only [if_neg, slices_Grow_SSint_Sint.f, if_pos, Option.bind_some]
    exact ConcatW_l1 l hl _ hR l.length 0 [] (by omega) (by omega) (by simp)
  | succ d ih =>
    intro i s h0 hd hs h
    refine Ev.step (fun k => slices_Concat_SSint_Sint.l0.eq_2 _ _ _ _ _ k) ?_
    rw [drop_rdW h0 (by omega), List.flatten_cons, List.length_append] at h
    simp (disch := omega) only [if_pos, if_neg, w64]
    exact ih (i + 1) _ (by omega) (by omega) (by omega) (by omega)
theorem ConcatW_ev (l : List (List (List Int))) (hl : l.length ≤ 4611686018427387904) (hR : l.flatten.length < 5864062014805) : Ev (fun k => slices_Concat_SSint_Sint.f k l) l.flatten := by
  unfold slices_Concat_SSint_Sint.f
  exact ConcatW_l0 l hl hR l.length 0 0 (by omega) (by omega) (by omega) (by simp)
theorem flat_le (m : Nat) {α : Type} : ∀ l : List (List α), (∀ x ∈ l, x.length ≤ m) → l.flatten.length ≤ l.length * m
  | [], _ => by simp
  | x :: l, h => by
    have := flat_le m l (fun y hy => h y (by simp [hy]))
    have hx := h x (by simp)
    rw [List.flatten_cons, List.length_append, List.length_cons, Nat.succ_mul]; omega
/-! ### turner.Check and coppicerref.TurnerCheck: one answer -/
def badB (N x : Int) : Bool := decide (x < 0) || decide (x ≥ N)
def rowBad (K : Int) (next : List (List Int)) (out : List (List (List Int))) (i : Nat) : Bool := decide (((rd_L1 next i).length : Int) ≠ K) || decide (((rd_L2 out i).length : Int) ≠ K)
def tcode (N K L : Int) (next : List (List Int)) (out : List (List (List Int))) (st : Int) : Int :=
  if N < 1 ∨ N > 7 ∨ K < 1 ∨ K > 3 ∨ L < 1 ∨ L > 3 then 1
  else if (next.length : Int) ≠ N ∨ (out.length : Int) ≠ N then 3
  else if (List.range N.toNat).any (rowBad K next out) = true then 3
  else if (out.flatten.any fun w => decide ((w.length : Int) > 4)) = true then 1
  else if (next.flatten.any (badB N) || badB N st || out.flatten.flatten.any (badB L)) = true then 2 else 0
structure TOK (N K L : Int) (next : List (List Int)) (out : List (List (List Int))) : Prop where
  N0 : 1 ≤ N
  N1 : N ≤ 7
  K0 : 1 ≤ K
  K1 : K ≤ 3
  L0 : 1 ≤ L
  L1 : L ≤ 3
  nl : (next.length : Int) = N
  ol : (out.length : Int) = N
  nr : ∀ r ∈ next, (r.length : Int) = K
  orr : ∀ r ∈ out, (r.length : Int) = K
theorem range_cons {n : Nat} {i : Int} (h0 : 0 ≤ i) (h1 : i < ((List.range n).length : Nat)) : (List.range n).drop i.toNat = i.toNat :: (List.range n).drop (i + 1).toNat := by
  have h : i.toNat < (List.range n).length := by omega
  rw [List.drop_eq_getElem_cons h, List.getElem_range]; congr 2; omega
theorem rows_ok {N K L : Int} {next : List (List Int)} {out : List (List (List Int))} (c : ¬ (N < 1 ∨ N > 7 ∨ K < 1 ∨ K > 3 ∨ L < 1 ∨ L > 3)) (c1 : (next.length : Int) = N) (c2 : (out.length : Int) = N)
    (h : (List.range N.toNat).any (rowBad K next out) = false) : TOK N K L next out := by
  have hr : ∀ i : Nat, i < N.toNat → ((rd_L1 next i).length : Int) = K ∧ ((rd_L2 out i).length : Int) = K := by
    intro i hi
    have := List.any_eq_false.1 h i (List.mem_range.2 hi)
    unfold rowBad at this
    simp only [Bool.or_eq_true, decide_eq_true_eq, not_or, Decidable.not_not] at this
    exact this
  refine ⟨by omega, by omega, by omega, by omega, by omega, by omega, c1, c2, ?_, ?_⟩
  · intro r hm
    obtain ⟨i, hi, rfl⟩ := List.mem_iff_getElem.1 hm
    have e : rd_L1 next i = next[i] := by simp [rd_L1, List.getD_eq_getElem?_getD, List.getElem?_eq_getElem hi]
    rw [← e]; exact (hr i (by omega)).1
  · intro r hm
    obtain ⟨i, hi, rfl⟩ := List.mem_iff_getElem.1 hm
    have e : rd_L2 out i = out[i] := by simp [rd_L2, List.getD_eq_getElem?_getD, List.getElem?_eq_getElem hi]
    rw [← e]; exact (hr i (by omega)).2
section
variable (N K L : Int) (next : List (List Int)) (out : List (List (List Int))) (st : Int)
theorem tcheck_l2 (all : List Int) (hl : all.length ≤ 1000) : Ev (fun k => turner_Check.l2 k all (all.length : Int) 0 N K L next out st) (if all.any (badB L) = true then 2 else 0) := by
  refine Ev.firstBad (L := fun k i => turner_Check.l2 k all (all.length : Int) i N K L next out st) (rdf := rd all) (fun i h0 h1 => rd_cons h0 h1) ?_ ?_ ?_
  · intro _
    refine Ev.step (fun k => turner_Check.l2.eq_2 _ _ _ _ _ _ _ _ _ k) ?_
    simp (disch := omega) only [if_neg]; exact Ev.now _
  · intro i h0 h1 hb
    refine Ev.step (fun k => turner_Check.l2.eq_2 _ _ _ _ _ _ _ _ _ k) ?_
    simp (disch := omega) only [if_pos]
    unfold badB at hb
    by_cases c : rd all i < 0
    · simp only [if_pos c]; exact Ev.now _
    · simp only [if_neg c, if_pos (show rd all i ≥ L by simpa [c] using hb)]; exact Ev.now _
  · intro i r h0 h1 hb hr
    refine Ev.step (fun k => turner_Check.l2.eq_2 _ _ _ _ _ _ _ _ _ k) ?_
    unfold badB at hb
    simp only [Bool.or_eq_false_iff, decide_eq_false_iff_not] at hb
    simp (disch := omega) only [if_pos, if_neg, w64]; exact hr
theorem tcheck_l1 (ws : List (List Int)) (all : List Int) (hl : all.length ≤ 1000) (hws : ws.length ≤ 1000) (hfl : ws.flatten.length ≤ 1000) : Ev (fun k => turner_Check.l1 k ws all (all.length : Int) 0 N K L next out st) (if all.any (badB N) = true then 2 else if ws.flatten.any (badB L) = true then 2 else 0) := by
  refine Ev.firstBad (L := fun k i => turner_Check.l1 k ws all (all.length : Int) i N K L next out st) (rdf := rd all) (fun i h0 h1 => rd_cons h0 h1) ?_ ?_ ?_
  · intro _
    refine Ev.step (fun k => turner_Check.l1.eq_2 _ _ _ _ _ _ _ _ _ _ k) ?_
    simp (disch := omega) only [if_neg]
    exact Ev.bind (Concat_ev ws (by omega) (by omega)) (tcheck_l2 N K L next out st _ hfl)
  · intro i h0 h1 hb
    refine Ev.step (fun k => turner_Check.l1.eq_2 _ _ _ _ _ _ _ _ _ _ k) ?_
    simp (disch := omega) only [if_pos]
    unfold badB at hb
    by_cases c : rd all i < 0
    · simp only [if_pos c]; exact Ev.now _
    · simp only [if_neg c, if_pos (show rd all i ≥ N by simpa [c] using hb)]; exact Ev.now _
  · intro i r h0 h1 hb hr
    refine Ev.step (fun k => turner_Check.l1.eq_2 _ _ _ _ _ _ _ _ _ _ k) ?_
    unfold badB at hb
    simp only [Bool.or_eq_false_iff, decide_eq_false_iff_not] at hb
    simp (disch := omega) only [if_pos, if_neg, w64]; exact hr
theorem tcheck_l0 (c : ¬ (N < 1 ∨ N > 7 ∨ K < 1 ∨ K > 3 ∨ L < 1 ∨ L > 3)) (c1 : (next.length : Int) = N) (c2 : (out.length : Int) = N) :
    Ev (fun k => turner_Check.l0 k N 0 N K L next out st) (if (List.range N.toNat).any (rowBad K next out) = true then 3 else if (out.flatten.any fun w => decide ((w.length : Int) > 4)) = true then 1
      else if (next.flatten.any (badB N) || badB N st || out.flatten.flatten.any (badB L)) = true then 2 else 0) := by
  have hN : (((List.range N.toNat).length : Nat) : Int) = N := by rw [List.length_range]; omega
  refine Ev.firstBad (L := fun k i => turner_Check.l0 k N i N K L next out st) (rdf := fun i => i.toNat) (l := List.range N.toNat) (fun i h0 h1 => range_cons h0 h1) ?_ ?_ ?_
  · intro hb
    have T := rows_ok c c1 c2 hb
    have h1 : out.flatten.length ≤ 21 := by
      have := flat_le 3 out (fun x hx => by have := T.orr x hx; omega)
      omega
    have h2 : next.flatten.length ≤ 21 := by
      have := flat_le 3 next (fun x hx => by have := T.nr x hx; omega)
      omega
    refine Ev.step (fun k => turner_Check.l0.eq_2 _ _ _ _ _ _ _ _ k) ?_
    rw [hN]
    simp (disch := omega) only [if_neg (show ¬ N < N by omega)]
    refine Ev.bind (ConcatW_ev out (by omega) (by omega)) ?_
    have e : turner_Check_1_any.f out.flatten = some (out.flatten.any fun w => decide ((w.length : Int) > 4)) := anyO_some _ _
    simp only [e, Option.bind_some]
    cases c4 : (out.flatten.any fun w => decide ((w.length : Int) > 4)) with
    | true => simp only [if_true]; exact Ev.now _
    | false =>
      have hw : ∀ w ∈ out.flatten, w.length ≤ 4 := by
        intro w hw
        have := List.any_eq_false.1 c4 w hw
        simp only [decide_eq_true_eq] at this; omega
      have h3 := flat_le 4 out.flatten hw
      simp only [Bool.false_eq_true, if_false]
      refine Ev.bind (Concat_ev next (by omega) (by omega)) ?_
      have hlim : next.flatten.length + ([st] : List Int).length < 17592186044416 := by simp only [List.length_singleton]; omega
      simp only [Option.bind_some, if_pos hlim]
      have := tcheck_l1 N K L next out st out.flatten (next.flatten ++ [st]) (by simp only [List.length_append, List.length_singleton]; omega) (by omega) (by omega)
      refine Ev.congr (fun _ => rfl) ?_
      have e2 : (next.flatten ++ [st]).any (badB N) = (next.flatten.any (badB N) || badB N st) := by simp [List.any_append]
      rw [e2] at this
      cases q : (next.flatten.any (badB N) || badB N st) with
      | true => rw [q] at this; simpa using this
      | false => rw [q] at this; simpa using this
  · intro i h0 h1 hb
    rw [hN] at h1
    refine Ev.step (fun k => turner_Check.l0.eq_2 _ _ _ _ _ _ _ _ k) ?_
    unfold rowBad at hb
    rw [show ((i.toNat : Nat) : Int) = i by omega] at hb
    simp (disch := omega) only [if_pos]
    by_cases d1 : ((rd_L1 next i).length : Int) = K
    · have d2 : ¬ ((rd_L2 out i).length : Int) = K := by simpa [d1] using hb
      simp only [if_pos d1, if_neg d2]; exact Ev.now _
    · simp only [if_neg d1]; exact Ev.now _
  · intro i r h0 h1 hb hr
    rw [hN] at h1
    refine Ev.step (fun k => turner_Check.l0.eq_2 _ _ _ _ _ _ _ _ k) ?_
    unfold rowBad at hb
    rw [show ((i.toNat : Nat) : Int) = i by omega] at hb
    simp only [Bool.or_eq_false_iff, decide_eq_false_iff_not, Decidable.not_not] at hb
    simp (disch := omega) only [if_pos, w64, if_pos hb.1, if_pos hb.2]; exact hr
end
theorem tcode_bad {N K L : Int} {next : List (List Int)} {out : List (List (List Int))} {st : Int} (h : N < 1 ∨ N > 7 ∨ K < 1 ∨ K > 3 ∨ L < 1 ∨ L > 3) : tcode N K L next out st = 1 := by unfold tcode; rw [if_pos h]
theorem tcode_len {N K L : Int} {next : List (List Int)} {out : List (List (List Int))} {st : Int} (h : ¬ (N < 1 ∨ N > 7 ∨ K < 1 ∨ K > 3 ∨ L < 1 ∨ L > 3)) (h2 : (next.length : Int) ≠ N ∨ (out.length : Int) ≠ N) : tcode N K L next out st = 3 := by unfold tcode; rw [if_neg h, if_pos h2]
theorem tcheck_ev (N K L : Int) (next : List (List Int)) (out : List (List (List Int))) (st : Int) : Ev (fun k => turner_Check.f k N K L next out st) (tcode N K L next out st) := by
  unfold turner_Check.f
  have wrong : (N < 1 ∨ N > 7 ∨ K < 1 ∨ K > 3 ∨ L < 1 ∨ L > 3) → Ev (fun k => turner_Check.j0 k true N K L next out st) (tcode N K L next out st) := by
    intro h
    rw [tcode_bad h]
    refine Ev.step (fun k => turner_Check.j0.eq_2 _ _ _ _ _ _ _ k) ?_
    simp only [if_true]; exact Ev.now _
  have m1 : mn K L < 1 ↔ (K < 1 ∨ L < 1) := by unfold mn; split <;> omega
  have m2 : mx K L > 3 ↔ (K > 3 ∨ L > 3) := by unfold mx; split <;> omega
  by_cases c1 : N < 1
  · simp only [if_pos c1]; exact wrong (by omega)
  by_cases c2 : N > 7
  · simp only [if_neg c1, if_pos c2]; exact wrong (by omega)
  by_cases c3 : mn K L < 1
  · simp only [if_neg c1, if_neg c2, if_pos c3]; exact wrong (by omega)
  simp only [if_neg c1, if_neg c2, if_neg c3]
  by_cases c4 : mx K L > 3
  · simp only [decide_eq_true c4]; exact wrong (by omega)
  · simp only [decide_eq_false c4]
    have c : ¬ (N < 1 ∨ N > 7 ∨ K < 1 ∨ K > 3 ∨ L < 1 ∨ L > 3) := by omega
    refine Ev.step (fun k => turner_Check.j0.eq_2 _ _ _ _ _ _ _ k) ?_
    simp only [Bool.false_eq_true, if_false]
    have long : (next.length : Int) ≠ N ∨ (out.length : Int) ≠ N → Ev (fun k => turner_Check.j1 k true N K L next out st) (tcode N K L next out st) := by
      intro h
      rw [tcode_len c h]
      refine Ev.step (fun k => turner_Check.j1.eq_2 _ _ _ _ _ _ _ k) ?_
      simp only [if_true]; exact Ev.now _
    by_cases d1 : (next.length : Int) = N
    · simp only [if_pos d1]
      by_cases d2 : (out.length : Int) = N
      · rw [show ((out.length : Int) != N) = false by simp [d2]]
        refine Ev.step (fun k => turner_Check.j1.eq_2 _ _ _ _ _ _ _ k) ?_
        simp only [Bool.false_eq_true, if_false]
        unfold tcode
        rw [if_neg c, if_neg (by omega)]
        exact tcheck_l0 N K L next out st c d1 d2
      · rw [show ((out.length : Int) != N) = true by simp [d2]]; exact long (.inr d2)
    · simp only [if_neg d1]; exact long (.inl d1)
/-! the document's -/
section
variable (N K L : Int) (next : List (List Int)) (out : List (List (List Int))) (st : Int) (T : TOK N K L next out) (h4 : ∀ w ∈ out.flatten, w.length ≤ 4)
include T
include h4
theorem rturn_l3 (R : Bool) (d : Nat) : ∀ (i : Int) (b : Bool), 0 ≤ i → i + d = N → R = (b || ((next.drop i.toNat).flatten.any (badB N) || (out.drop i.toNat).flatten.flatten.any (badB L))) →
    Ev (fun k => coppicerref_TurnerCheck.l3 k b i N K L next out st) (if R = true then 2 else 0) := by
  have hN0 := T.N0; have hN1 := T.N1; have hK1 := T.K1; have hnl := T.nl; have hol := T.ol; have hK0 := T.K0
  induction d with
  | zero =>
    intro i b h0 h1 hR
    refine Ev.step (fun k => coppicerref_TurnerCheck.l3.eq_2 _ _ _ _ _ _ _ _ k) ?_
    rw [List.drop_eq_nil_of_le (by omega), List.drop_eq_nil_of_le (by omega)] at hR
    simp only [List.flatten_nil, List.any_nil, Bool.or_false] at hR
    subst hR
    simp (disch := omega) only [if_neg (show ¬ i < N by omega)]
    cases R <;> simp only [if_true, Bool.false_eq_true, if_false] <;> exact Ev.now _
  | succ d ih =>
    intro i b h0 h1 hR
    refine Ev.step (fun k => coppicerref_TurnerCheck.l3.eq_2 _ _ _ _ _ _ _ _ k) ?_
    simp (disch := omega) only [if_pos (show i < N by omega)]
    have hi1 : i < next.length := by omega
    have hi2 : i < out.length := by omega
    have m1 := T.nr _ (rdL_mem h0 hi1)
    have m2 := T.orr _ (rdW_mem h0 hi2)
    rw [drop_rdL h0 hi1, drop_rdW h0 hi2, List.flatten_cons, List.flatten_cons, List.flatten_append, List.any_append, List.any_append] at hR
    refine Ev.loop (L := fun k s (b : Bool) => coppicerref_TurnerCheck.l4 k b i s N K L next out st) (n := K) (fun s b => R = (b || (((rd_L1 next i).drop s.toNat).any (badB N) || (((rd_L2 out i).drop s.toNat).flatten.any (badB L) || ((next.drop (i + 1).toNat).flatten.any (badB N) || (out.drop (i + 1).toNat).flatten.flatten.any (badB L)))))) ?_ ?_ 0 b (Int.le_refl _) (by omega) (by rw [hR]; simp only [Int.toNat_zero, List.drop_zero]; ac_rfl)
    · intro b hb
      refine Ev.step (fun k => coppicerref_TurnerCheck.l4.eq_2 _ _ _ _ _ _ _ _ _ k) ?_
      simp (disch := omega) only [if_neg (show ¬ K < K by omega), w64]
      refine ih (i + 1) b (by omega) (by omega) ?_
      rw [drop_all (rd_L1 next i) _ (by omega), drop_all (rd_L2 out i) _ (by omega)] at hb
      simpa using hb
    · intro s b h2 h3 hb
      right
      have e1 := rd_cons (l := rd_L1 next i) h2 (by omega)
      have e2 := drop_rdL (l := rd_L2 out i) h2 (by omega)
      have hw : (rd_L1 (rd_L2 out i) s).length ≤ 4 := h4 _ (List.mem_flatten.2 ⟨_, rdW_mem h0 hi2, rdL_mem h2 (by omega)⟩)
      rw [e1, e2, List.any_cons, List.flatten_cons, List.any_append] at hb
      refine ⟨b || (badB N (rd (rd_L1 next i) s) || (rd_L1 (rd_L2 out i) s).any (badB L)), by rw [hb]; ac_rfl, ?_⟩
      intro h
      have j8 : ∀ b1 : Bool, b1 = (b || badB N (rd (rd_L1 next i) s)) → Ev (fun k => coppicerref_TurnerCheck.j8 k b1 i s N K L next out st) (if R = true then 2 else 0) := by
        intro b1 hb1
        refine Ev.step (fun k => coppicerref_TurnerCheck.j8.eq_2 _ _ _ _ _ _ _ _ _ k) ?_
        simp (disch := omega) only [if_pos]
        refine Ev.loop (L := fun k j (c : Bool) => coppicerref_TurnerCheck.l5 k c i s (rd_L1 (rd_L2 out i) s) ((rd_L1 (rd_L2 out i) s).length : Int) j N K L next out st) (n := (rd_L1 (rd_L2 out i) s).length)
          (fun j c => (b || (badB N (rd (rd_L1 next i) s) || (rd_L1 (rd_L2 out i) s).any (badB L))) = (c || ((rd_L1 (rd_L2 out i) s).drop j.toNat).any (badB L))) ?_ ?_ 0 b1 (Int.le_refl _) (by omega) (by rw [hb1]; simp only [Int.toNat_zero, List.drop_zero]; ac_rfl)
        · intro c hc
          rw [Int.toNat_natCast, List.drop_length, List.any_nil, Bool.or_false] at hc
          refine Ev.step (fun k => coppicerref_TurnerCheck.l5.eq_2 _ _ _ _ _ _ _ _ _ _ _ _ k) ?_
          simp (disch := omega) only [if_neg (show ¬ ((rd_L1 (rd_L2 out i) s).length : Int) < ((rd_L1 (rd_L2 out i) s).length : Nat) by omega), w64]
          rw [hc] at h; exact h
        · intro j c h5 h6 hc
          right
          rw [rd_cons h5 h6, List.any_cons] at hc
          refine ⟨c || badB L (rd (rd_L1 (rd_L2 out i) s) j), by rw [hc]; ac_rfl, ?_⟩
          intro h7
          refine Ev.step (fun k => coppicerref_TurnerCheck.l5.eq_2 _ _ _ _ _ _ _ _ _ _ _ _ k) ?_
          simp (disch := omega) only [if_pos, w64]
          cases c with
          | true => simp only [if_true]; exact h7
          | false =>
            simp only [Bool.false_eq_true, if_false]
            unfold badB at h7
            by_cases q : rd (rd_L1 (rd_L2 out i) s) j < 0
            · simp only [if_pos q]; simpa [q] using h7
            · simp only [if_neg q]; simpa [q] using h7
      refine Ev.step (fun k => coppicerref_TurnerCheck.l4.eq_2 _ _ _ _ _ _ _ _ _ k) ?_
      simp (disch := omega) only [if_pos (show s < K by omega)]
      cases b with
      | true => simp only [if_true]; exact j8 true (by simp)
      | false =>
        simp (disch := omega) only [Bool.false_eq_true, if_false, if_pos]
        by_cases q : rd (rd_L1 next i) s < 0
        · simp only [if_pos q]; exact j8 true (by unfold badB; simp [q])
        · simp only [if_neg q]; exact j8 _ (by unfold badB; simp [q])
end
theorem rturn_l1 (N K L : Int) (next : List (List Int)) (out : List (List (List Int))) (st : Int) (T : TOK N K L next out) :
    Ev (fun k => coppicerref_TurnerCheck.l1 k 0 N K L next out st) (if (out.flatten.any fun w => decide ((w.length : Int) > 4)) = true then 1 else if (next.flatten.any (badB N) || badB N st || out.flatten.flatten.any (badB L)) = true then 2 else 0) := by
  have hN0 := T.N0; have hN1 := T.N1; have hK1 := T.K1; have hnl := T.nl; have hol := T.ol
  have e : (out.flatten.any fun w => decide ((w.length : Int) > 4)) = out.any fun r => r.any fun w => decide ((w.length : Int) > 4) := by rw [List.any_flatten]
  rw [e]
  have hN : N = (out.length : Nat) := by omega
  refine Ev.firstBad (L := fun k i => coppicerref_TurnerCheck.l1 k i N K L next out st) (rdf := rd_L2 out) (l := out) (fun i h0 h1 => drop_rdW h0 h1) ?_ ?_ ?_
  · intro hb
    refine Ev.step (fun k => coppicerref_TurnerCheck.l1.eq_2 _ _ _ _ _ _ _ k) ?_
    simp (disch := omega) only [if_neg (show ¬ ((out.length : Nat) : Int) < N by omega)]
    rw [← e] at hb
    have h4 : ∀ w ∈ out.flatten, w.length ≤ 4 := by
      intro w hw
      have := List.any_eq_false.1 hb w hw
      simp only [decide_eq_true_eq] at this; omega
    have j5 : ∀ b : Bool, b = badB N st → Ev (fun k => coppicerref_TurnerCheck.j5 k b N K L next out st) (if (next.flatten.any (badB N) || badB N st || out.flatten.flatten.any (badB L)) = true then 2 else 0) := by
      intro b hb
      refine Ev.step (fun k => coppicerref_TurnerCheck.j5.eq_2 _ _ _ _ _ _ _ k) ?_
      exact rturn_l3 N K L next out st T h4 _ N.toNat 0 b (by omega) (by omega) (by rw [hb]; simp only [Int.toNat_zero, List.drop_zero]; ac_rfl)
    by_cases q : st < 0
    · simp only [if_pos q]; exact j5 true (by unfold badB; simp [q])
    · simp only [if_neg q]; exact j5 _ (by unfold badB; simp [q])
  · intro i h0 h1 hb
    refine Ev.step (fun k => coppicerref_TurnerCheck.l1.eq_2 _ _ _ _ _ _ _ k) ?_
    simp (disch := omega) only [if_pos]
    have hl := T.orr _ (rdW_mem h0 h1)
    have := Ev.firstBad (L := fun k j => coppicerref_TurnerCheck.l2 k i (rd_L2 out i) ((rd_L2 out i).length : Int) j N K L next out st) (rdf := rd_L1 (rd_L2 out i)) (l := rd_L2 out i) (bad := fun w => decide ((w.length : Int) > 4)) (c := 1) (fin := 1) (fun i h0 h1 => drop_rdL h0 h1) (fun q => by rw [hb] at q; cases q) ?_ ?_
    · rw [hb] at this; exact this
    · intro j h2 h3 hq
      refine Ev.step (fun k => coppicerref_TurnerCheck.l2.eq_2 _ _ _ _ _ _ _ _ _ _ k) ?_
      simp only [decide_eq_true_eq] at hq
      simp (disch := omega) only [if_pos, if_pos hq]; exact Ev.now _
    · intro j r h2 h3 hq hr
      refine Ev.step (fun k => coppicerref_TurnerCheck.l2.eq_2 _ _ _ _ _ _ _ _ _ _ k) ?_
      simp only [decide_eq_false_iff_not] at hq
      simp (disch := omega) only [if_pos, if_neg hq, w64]; exact hr
  · intro i r h0 h1 hb hr
    refine Ev.step (fun k => coppicerref_TurnerCheck.l1.eq_2 _ _ _ _ _ _ _ k) ?_
    simp (disch := omega) only [if_pos]
    have hl := T.orr _ (rdW_mem h0 h1)
    have := Ev.firstBad (L := fun k j => coppicerref_TurnerCheck.l2 k i (rd_L2 out i) ((rd_L2 out i).length : Int) j N K L next out st) (rdf := rd_L1 (rd_L2 out i)) (l := rd_L2 out i) (bad := fun w => decide ((w.length : Int) > 4)) (c := 1) (fin := r) (fun i h0 h1 => drop_rdL h0 h1) ?_ ?_ ?_
    · rw [hb] at this; exact this
    · intro _
      refine Ev.step (fun k => coppicerref_TurnerCheck.l2.eq_2 _ _ _ _ _ _ _ _ _ _ k) ?_
      simp (disch := omega) only [if_neg (show ¬ ((rd_L2 out i).length : Int) < ((rd_L2 out i).length : Nat) by omega), w64]; exact hr
    · intro j h2 h3 hq
      refine Ev.step (fun k => coppicerref_TurnerCheck.l2.eq_2 _ _ _ _ _ _ _ _ _ _ k) ?_
      simp only [decide_eq_true_eq] at hq
      simp (disch := omega) only [if_pos, if_pos hq]; exact Ev.now _
    · intro j r h2 h3 hq hr
      refine Ev.step (fun k => coppicerref_TurnerCheck.l2.eq_2 _ _ _ _ _ _ _ _ _ _ k) ?_
      simp only [decide_eq_false_iff_not] at hq
      simp (disch := omega) only [if_pos, if_neg hq, w64]; exact hr
theorem rturn_ev (N K L : Int) (next : List (List Int)) (out : List (List (List Int))) (st : Int) : Ev (fun k => coppicerref_TurnerCheck.f k N K L next out st) (tcode N K L next out st) := by
  unfold coppicerref_TurnerCheck.f
  have wrong : (N < 1 ∨ N > 7 ∨ K < 1 ∨ K > 3 ∨ L < 1 ∨ L > 3) → Ev (fun k => coppicerref_TurnerCheck.j0 k true N K L next out st) (tcode N K L next out st) := by
    intro h
    rw [tcode_bad h]
    refine Ev.step (fun k => coppicerref_TurnerCheck.j0.eq_2 _ _ _ _ _ _ _ k) ?_
    simp only [if_true]; exact Ev.now _
  by_cases c1 : N < 1
  · simp only [if_pos c1]; exact wrong (by omega)
  by_cases c2 : N > 7
  · simp only [if_neg c1, if_pos c2]; exact wrong (by omega)
  by_cases c3 : K < 1
  · simp only [if_neg c1, if_neg c2, if_pos c3]; exact wrong (by omega)
  by_cases c4 : K > 3
  · simp only [if_neg c1, if_neg c2, if_neg c3, if_pos c4]; exact wrong (by omega)
  by_cases c5 : L < 1
  · simp only [if_neg c1, if_neg c2, if_neg c3, if_neg c4, if_pos c5]; exact wrong (by omega)
  simp only [if_neg c1, if_neg c2, if_neg c3, if_neg c4, if_neg c5]
  by_cases c6 : L > 3
  · simp only [decide_eq_true c6]; exact wrong (by omega)
  · simp only [decide_eq_false c6]
    have c : ¬ (N < 1 ∨ N > 7 ∨ K < 1 ∨ K > 3 ∨ L < 1 ∨ L > 3) := by omega
    refine Ev.step (fun k => coppicerref_TurnerCheck.j0.eq_2 _ _ _ _ _ _ _ k) ?_
    simp only [Bool.false_eq_true, if_false]
    have long : (next.length : Int) ≠ N ∨ (out.length : Int) ≠ N → Ev (fun k => coppicerref_TurnerCheck.j1 k true N K L next out st) (tcode N K L next out st) := by
      intro h
      rw [tcode_len c h]
      refine Ev.step (fun k => coppicerref_TurnerCheck.j1.eq_2 _ _ _ _ _ _ _ k) ?_
      simp only [if_true]; exact Ev.now _
    by_cases d1 : (next.length : Int) = N
    · simp only [if_pos d1]
      by_cases d2 : (out.length : Int) = N
      · rw [show ((out.length : Int) != N) = false by simp [d2]]
        refine Ev.step (fun k => coppicerref_TurnerCheck.j1.eq_2 _ _ _ _ _ _ _ k) ?_
        simp only [Bool.false_eq_true, if_false]
        unfold tcode
        rw [if_neg c, if_neg (by omega)]
        have hN : (((List.range N.toNat).length : Nat) : Int) = N := by rw [List.length_range]; omega
        refine Ev.firstBad (L := fun k i => coppicerref_TurnerCheck.l0 k i N K L next out st) (rdf := fun i => i.toNat) (l := List.range N.toNat) (fun i h0 h1 => range_cons h0 h1) ?_ ?_ ?_
        · intro hb
          refine Ev.step (fun k => coppicerref_TurnerCheck.l0.eq_2 _ _ _ _ _ _ _ k) ?_
          rw [hN]
          simp (disch := omega) only [if_neg (show ¬ N < N by omega)]
          exact rturn_l1 N K L next out st (rows_ok c d1 d2 hb)
        · intro i h0 h1 hb
          rw [hN] at h1
          refine Ev.step (fun k => coppicerref_TurnerCheck.l0.eq_2 _ _ _ _ _ _ _ k) ?_
          unfold rowBad at hb
          rw [show ((i.toNat : Nat) : Int) = i by omega] at hb
          simp (disch := omega) only [if_pos]
          by_cases e1 : ((rd_L1 next i).length : Int) = K
          · have e2 : ¬ ((rd_L2 out i).length : Int) = K := by simpa [e1] using hb
            simp only [if_pos e1, if_neg e2]; exact Ev.now _
          · simp only [if_neg e1]; exact Ev.now _
        · intro i r h0 h1 hb hr
          rw [hN] at h1
          refine Ev.step (fun k => coppicerref_TurnerCheck.l0.eq_2 _ _ _ _ _ _ _ k) ?_
          unfold rowBad at hb
          rw [show ((i.toNat : Nat) : Int) = i by omega] at hb
          simp only [Bool.or_eq_false_iff, decide_eq_false_iff_not, Decidable.not_not] at hb
          simp (disch := omega) only [if_pos, w64, if_pos hb.1, if_pos hb.2]; exact hr
      · rw [show ((out.length : Int) != N) = true by simp [d2]]; exact long (.inr d2)
    · simp only [if_neg d1]; exact long (.inl d1)

/-! ### a turner that may be, and what it writes -/
structure TOK2 (N K L : Int) (next : List (List Int)) (out : List (List (List Int))) (st : Int) : Prop where
  T : TOK N K L next out
  nx : ∀ r ∈ next, ∀ x ∈ r, 0 ≤ x ∧ x < N
  s0 : 0 ≤ st
  s1 : st < N
  wl : ∀ r ∈ out, ∀ w ∈ r, w.length ≤ 4
  wx : ∀ r ∈ out, ∀ w ∈ r, ∀ x ∈ w, 0 ≤ x ∧ x < L
theorem tcode_0 {N K L : Int} {next : List (List Int)} {out : List (List (List Int))} {st : Int} (h : tcode N K L next out st = 0) : TOK2 N K L next out st := by
  unfold tcode at h
  split at h
  · omega
  rename_i c
  split at h
  · omega
  rename_i c1
  split at h
  · omega
  rename_i c2
  split at h
  · omega
  rename_i c3
  split at h
  · omega
  rename_i c4
  have c4 : (next.flatten.any (badB N) || badB N st || out.flatten.flatten.any (badB L)) = false := by simpa using c4
  have c3 : (out.flatten.any fun w => decide ((w.length : Int) > 4)) = false := by simpa using c3
  have c2 : (List.range N.toNat).any (rowBad K next out) = false := by simpa using c2
  simp only [Bool.or_eq_false_iff] at c4
  have nb : ∀ (M x : Int), badB M x = false → 0 ≤ x ∧ x < M := by
    intro M x h
    unfold badB at h
    simp only [Bool.or_eq_false_iff, decide_eq_false_iff_not] at h; omega
  refine ⟨rows_ok c (by omega) (by omega) c2, ?_, (nb N st c4.1.2).1, (nb N st c4.1.2).2, ?_, ?_⟩
  · intro r hr x hx
    exact nb N x (by simpa using List.any_eq_false.1 c4.1.1 x (List.mem_flatten.2 ⟨r, hr, hx⟩))
  · intro r hr w hw
    have := List.any_eq_false.1 c3 w (List.mem_flatten.2 ⟨r, hr, hw⟩)
    simp only [decide_eq_true_eq] at this; omega
  · intro r hr w hw x hx
    exact nb L x (by simpa using List.any_eq_false.1 c4.2 x (List.mem_flatten.2 ⟨w, List.mem_flatten.2 ⟨r, hr, hw⟩, hx⟩))
def wto (next : List (List Int)) (s c : Int) : Int := rd (rd_L1 next s) c
def wout (out : List (List (List Int))) (s c : Int) : List Int := rd_L1 (rd_L2 out s) c
def wrun (next : List (List Int)) (out : List (List (List Int))) : Int → List Int → List Int × Int
  | s, [] => ([], s)
  | s, c :: w => (wout out s c ++ (wrun next out (wto next s c) w).1, (wrun next out (wto next s c) w).2)
theorem TOK2.row {N K L : Int} {next : List (List Int)} {out : List (List (List Int))} {st : Int} (T : TOK2 N K L next out st) {s : Int} (h0 : 0 ≤ s) (h1 : s < N) :
    s < next.length ∧ s < out.length ∧ ((rd_L1 next s).length : Int) = K ∧ ((rd_L2 out s).length : Int) = K := by
  have hn := T.T.nl; have ho := T.T.ol
  exact ⟨by omega, by omega, T.T.nr _ (rdL_mem h0 (by omega)), T.T.orr _ (rdW_mem h0 (by omega))⟩
theorem TOK2.to {N K L : Int} {next : List (List Int)} {out : List (List (List Int))} {st : Int} (T : TOK2 N K L next out st) {s c : Int} (h0 : 0 ≤ s) (h1 : s < N) (c0 : 0 ≤ c) (c1 : c < K) :
    0 ≤ wto next s c ∧ wto next s c < N ∧ (wout out s c).length ≤ 4 ∧ ∀ x ∈ wout out s c, 0 ≤ x ∧ x < L := by
  have hr := T.row h0 h1
  have h2 := T.nx _ (rdL_mem h0 hr.1) _ (rd_mem c0 (show c < ((rd_L1 next s).length : Nat) by omega))
  have hm := rdL_mem (l := rd_L2 out s) c0 (by omega)
  exact ⟨h2.1, h2.2, T.wl _ (rdW_mem h0 hr.2.1) _ hm, T.wx _ (rdW_mem h0 hr.2.1) _ hm⟩
theorem wrun_ok {N K L : Int} {next : List (List Int)} {out : List (List (List Int))} {st : Int} (T : TOK2 N K L next out st) : ∀ (w : List Int) (s : Int), 0 ≤ s → s < N → (∀ c ∈ w, 0 ≤ c ∧ c < K) →
    0 ≤ (wrun next out s w).2 ∧ (wrun next out s w).2 < N ∧ (wrun next out s w).1.length ≤ 4 * w.length ∧ ∀ x ∈ (wrun next out s w).1, 0 ≤ x ∧ x < L
  | [], s, h0, h1, _ => ⟨h0, h1, by simp [wrun], by simp [wrun]⟩
  | c :: w, s, h0, h1, hw => by
    have hc := hw c (by simp)
    have ht := T.to h0 h1 hc.1 hc.2
    have ih := wrun_ok T w (wto next s c) ht.1 ht.2.1 (fun x hx => hw x (by simp [hx]))
    simp only [wrun, List.length_append, List.length_cons]
    refine ⟨ih.1, ih.2.1, by omega, ?_⟩
    intro x hx
    rcases List.mem_append.1 hx with h | h
    · exact ht.2.2.2 x h
    · exact ih.2.2.2 x h

theorem write_ev (N K L : Int) (next : List (List Int)) (out : List (List (List Int))) (st : Int) (T : TOK2 N K L next out st) (w : List Int) (hl : w.length ≤ 1000) (hw : ∀ c ∈ w, 0 ≤ c ∧ c < K) (s : Int) (h0 : 0 ≤ s) (h1 : s < N) :
    Ev (fun k => turner_write.f k N K L next out st s w) (wrun next out s w) := by
  unfold turner_write.f
  refine Ev.loop (L := fun k i (z : Int × List Int) => turner_write.l0 k z.1 z.2 w (w.length : Int) i N K L next out st) (n := w.length) (fun i z => 0 ≤ z.1 ∧ z.1 < N ∧ (z.2.length : Int) ≤ 4 * i ∧ wrun next out s w = (z.2 ++ (wrun next out z.1 (w.drop i.toNat)).1, (wrun next out z.1 (w.drop i.toNat)).2)) ?_ ?_ 0 (s, []) (Int.le_refl _) (by omega) ⟨h0, h1, by simp, by simp⟩
  · rintro ⟨t, acc⟩ ⟨_, _, _, h⟩
    rw [Int.toNat_natCast, List.drop_length] at h
    simp only [wrun, List.append_nil] at h
    refine Ev.step (fun k => turner_write.l0.eq_2 _ _ _ _ _ _ _ _ _ _ _ k) ?_
    simp (disch := omega) only [if_neg]
    rw [h]; exact Ev.now _
  · rintro i ⟨t, acc⟩ h2 h3 ⟨g0, g1, g2, h⟩
    right
    replace g0 : 0 ≤ t := g0
    replace g1 : t < N := g1
    replace g2 : (acc.length : Int) ≤ 4 * i := g2
    replace h : wrun next out s w = (acc ++ (wrun next out t (w.drop i.toNat)).1, (wrun next out t (w.drop i.toNat)).2) := h
    have hc := hw _ (rd_mem h2 h3)
    have hr := T.row g0 g1
    have ht := T.to g0 g1 hc.1 hc.2
    rw [rd_cons h2 h3] at h
    simp only [wrun] at h
    refine ⟨(wto next t (rd w i), acc ++ wout out t (rd w i)), ⟨ht.1, ht.2.1, by simp only [List.length_append]; push_cast; omega, by rw [h, List.append_assoc]⟩, ?_⟩
    intro hk
    refine Ev.step (fun k => turner_write.l0.eq_2 _ _ _ _ _ _ _ _ _ _ _ k) ?_
    have hlim : acc.length + (rd_L1 (rd_L2 out t) (rd w i)).length < 17592186044416 := by have := ht.2.2.1; unfold wout at this; omega
    simp (disch := omega) only [if_pos, if_pos hlim, w64]
    exact hk

theorem Writes_ev (N K L : Int) (next : List (List Int)) (out : List (List (List Int))) (st : Int) (T : TOK2 N K L next out st) (w : List Int) (hl : w.length ≤ 1000) (hw : ∀ c ∈ w, 0 ≤ c ∧ c < K) (s : Int) (h0 : 0 ≤ s) (h1 : s < N) :
    Ev (fun k => coppicerref_Writes.f k N K L next out st s w) (wrun next out s w) := by
  unfold coppicerref_Writes.f
  refine Ev.loop (L := fun k i (z : Int × List Int) => coppicerref_Writes.l0 k z.1 z.2 w (w.length : Int) i N K L next out st) (n := w.length) (fun i z => 0 ≤ z.1 ∧ z.1 < N ∧ (z.2.length : Int) ≤ 4 * i ∧ wrun next out s w = (z.2 ++ (wrun next out z.1 (w.drop i.toNat)).1, (wrun next out z.1 (w.drop i.toNat)).2)) ?_ ?_ 0 (s, []) (Int.le_refl _) (by omega) ⟨h0, h1, by simp, by simp⟩
  · rintro ⟨t, acc⟩ ⟨_, _, _, h⟩
    rw [Int.toNat_natCast, List.drop_length] at h
    simp only [wrun, List.append_nil] at h
    refine Ev.step (fun k => coppicerref_Writes.l0.eq_2 _ _ _ _ _ _ _ _ _ _ _ k) ?_
    simp (disch := omega) only [if_neg]
    rw [h]; exact Ev.now _
  · rintro i ⟨t, acc⟩ h2 h3 ⟨g0, g1, g2, h⟩
    right
    replace g0 : 0 ≤ t := g0
    replace g1 : t < N := g1
    replace g2 : (acc.length : Int) ≤ 4 * i := g2
    replace h : wrun next out s w = (acc ++ (wrun next out t (w.drop i.toNat)).1, (wrun next out t (w.drop i.toNat)).2) := h
    have hc := hw _ (rd_mem h2 h3)
    have hr := T.row g0 g1
    have ht := T.to g0 g1 hc.1 hc.2
    rw [rd_cons h2 h3] at h
    simp only [wrun] at h
    refine ⟨(wto next t (rd w i), acc ++ wout out t (rd w i)), ⟨ht.1, ht.2.1, by simp only [List.length_append]; push_cast; omega, by rw [h, List.append_assoc]⟩, ?_⟩
    intro hk
    refine Ev.step (fun k => coppicerref_Writes.l0.eq_2 _ _ _ _ _ _ _ _ _ _ _ k) ?_
    have hlim : acc.length + (rd_L1 (rd_L2 out t) (rd w i)).length < 17592186044416 := by have := ht.2.2.1; unfold wout at this; omega
    simp (disch := omega) only [if_pos, if_pos hlim, w64]
    exact hk

theorem TurnerRuns : coppicerlaw_TurnerRuns.Pure := by
  unfold coppicerlaw_TurnerRuns.Pure
  intro N K L next out st w _ _ _ _ _ _ _ _
  apply Ev.rounds
  unfold coppicerlaw_TurnerRuns.f turner_Run.f
  by_cases c : tcode N K L next out st = 0
  · have T := tcode_0 c
    have h1 := tcheck_ev N K L next out st
    have h2 := rturn_ev N K L next out st
    rw [c] at h1 h2
    by_cases c2 : wordCode K w = 0
    · have hw := wordCode_0 c2
      have h3 := WordCheck_ev K w
      rw [c2] at h3
      have ok := wrun_ok T w st T.s0 T.s1 hw.2
      refine Ev.bind (a := ((wrun next out st w).1, 0)) ?_ (Ev.bind h2 ?_)
      · refine Ev.bind h1 ?_
        simp only [if_true, Words_eq, c2, Option.bind_some]
        exact Ev.bind (write_ev N K L next out st T w (by omega) hw.2 st T.s0 T.s1) (Ev.now _)
      · simp only [if_true]
        refine Ev.bind h3 ?_
        refine Ev.step (fun k => coppicerlaw_TurnerRuns.j0.eq_2 _ _ _ _ _ _ _ _ _ _ k) ?_
        simp only [if_true]
        refine Ev.bind (Writes_ev N K L next out st T w (by omega) hw.2 st T.s0 T.s1) ?_
        refine Ev.bind (Ints_ev _ _ (by omega)) ?_
        simp only [decide_true]; exact Ev.now _
    · refine Ev.bind (a := ([], wordCode K w)) ?_ (Ev.bind h2 ?_)
      · refine Ev.bind h1 ?_
        simp only [if_true, Words_eq, Option.bind_some, if_neg c2]; exact Ev.now _
      · simp only [if_true]
        refine Ev.bind (WordCheck_ev K w) ?_
        refine Ev.step (fun k => coppicerlaw_TurnerRuns.j0.eq_2 _ _ _ _ _ _ _ _ _ _ k) ?_
        simp only [if_neg c2, if_true]; exact Ev.now _
  · refine Ev.bind (a := ([], tcode N K L next out st)) ?_ (Ev.bind (rturn_ev N K L next out st) ?_)
    · refine Ev.bind (tcheck_ev N K L next out st) ?_
      simp only [if_neg c]; exact Ev.now _
    · simp only [if_neg c]
      refine Ev.step (fun k => coppicerlaw_TurnerRuns.j0.eq_2 _ _ _ _ _ _ _ _ _ _ k) ?_
      simp only [if_neg c, if_true]; exact Ev.now _

end Go.Proofs.Ytlmagjgjaajeiaa.Pure
