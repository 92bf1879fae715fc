/- The law GrammarVoids as a statement over numbers and lists alone: it holds under the bounds that the statement names. -/
import Derived.Test.YtnjfcbhbebokeaaStatGrammarVoids
set_option linter.unusedVariables false
set_option linter.unusedSimpArgs false
set_option linter.unusedSectionVars false
namespace Go.Proofs.Ytnjfcbhbebokeaa.Pure
open Go.RowKit Go.Proofs.Ytnjfcbhbebokeaa.PGrammarVoids Go.Proofs.YtnjfcbhbebokeaaW.PrintWords Go.Proofs.YtnjfcbhbebokeaaW.PrintLast Go.Proofs.YtnjfcbhbebokeaaW.PrintMore

/-! ### base: words for every pure text -/
theorem w64 {x : Int} (h0 : -9223372036854775808 ≤ x) (h1 : x ≤ 9223372036854775807) : wrap64 x = x := by unfold wrap64; omega
theorem Ev.pos {α : Type} {c : Prop} [Decidable c] {g f : Nat → Option α} {r : α} (h : c) (e : Ev g r) : Ev (fun k => if c then g k else f k) r := Ev.congr (fun k => by rw [if_pos h]) e
theorem Ev.neg {α : Type} {c : Prop} [Decidable c] {g f : Nat → Option α} {r : α} (h : ¬ c) (e : Ev f r) : Ev (fun k => if c then g k else f k) r := Ev.congr (fun k => by rw [if_neg h]) e
theorem Ev.val {α : Type} {r q : α} (h : r = q) : Ev (fun _ => some r) q := by subst h; exact Ev.now r
theorem rd_getElem {l : List Int} {i : Int} (h1 : i.toNat < l.length) : rd l i = l[i.toNat] := by simp [rd, List.getD_eq_getElem?_getD, List.getElem?_eq_getElem h1]
theorem drop_rd {l : List Int} {i : Int} (h0 : 0 ≤ i) (h1 : i < l.length) : l.drop i.toNat = rd l i :: l.drop (i + 1).toNat := by
  have h : i.toNat < l.length := by omega
  rw [rd_getElem h, List.drop_eq_getElem_cons h]; congr 2; omega
theorem take_rd {l : List Int} {i : Int} (h0 : 0 ≤ i) (h1 : i < l.length) : l.take (i + 1).toNat = l.take i.toNat ++ [rd l i] := by
  have h : i.toNat < l.length := by omega
  have e : (i + 1).toNat = i.toNat + 1 := by omega
  rw [rd_getElem h, e, List.take_succ_eq_append_getElem h]
theorem rd_drop (l : List Int) (n : Nat) (i : Int) (h0 : 0 ≤ i) : rd (l.drop n) i = rd l (i + n) := by
  have e : (i + n).toNat = n + i.toNat := by omega
  simp only [rd, List.getD_eq_getElem?_getD, List.getElem?_drop, e]
theorem rd_take (l : List Int) (n : Nat) (i : Int) (h0 : 0 ≤ i) (h1 : i < n) : rd (l.take n) i = rd l i := by
  simp only [rd, List.getD_eq_getElem?_getD]; rw [List.getElem?_take_of_lt (by omega)]
theorem drop_all {α : Type} (l : List α) (n : Nat) (h : l.length ≤ n) : l.drop n = [] := List.drop_eq_nil_of_le h
theorem dec_ne {a b : Int} {l m : List Int} (h : a ≠ b) : decide (a :: l = b :: m) = false := decide_eq_false (fun q => h (List.cons.inj q).1)
theorem Ev.no {p : Prop} [Decidable p] (h : ¬ p) : Ev (fun _ => some false) (decide p) := Ev.val (decide_eq_false h).symm
theorem Ev.yes {p : Prop} [Decidable p] (h : p) : Ev (fun _ => some true) (decide p) := Ev.val (decide_eq_true h).symm
theorem ext_rd {a b : List Int} (hl : a.length = b.length) (h : ∀ i : Int, 0 ≤ i → i < a.length → rd a i = rd b i) : a = b := by
  apply List.ext_getElem hl
  intro i h1 h2
  have := h i (by omega) (by omega)
  rwa [rd_getElem (by simpa using h1), rd_getElem (by simpa using h2)] at this
theorem wf_u8 {x : Int} (h : (Lit.int .u8 x).wf = true) : 0 ≤ x ∧ x ≤ 255 := by simpa [Lit.wf, IntKind.min, IntKind.max, IntKind.signed, IntKind.bits] using h
theorem wf_u32 {x : Int} (h : (Lit.int .u32 x).wf = true) : 0 ≤ x ∧ x ≤ 4294967295 := by simpa [Lit.wf, IntKind.min, IntKind.max, IntKind.signed, IntKind.bits] using h
theorem wf_i64 {x : Int} (h : (Lit.int .i64 x).wf = true) : -9223372036854775808 ≤ x ∧ x ≤ 9223372036854775807 := by simpa [Lit.wf, IntKind.min, IntKind.max, IntKind.signed, IntKind.bits] using h
theorem rd_mem {l : List Int} {i : Int} (h0 : 0 ≤ i) (h1 : i < l.length) : rd l i ∈ l := by
  rw [rd_getElem (by omega)]; exact List.getElem_mem _
theorem rd_u8 {l : List Int} (hw : ∀ x ∈ l, (Lit.int .u8 x).wf = true) {i : Int} (h0 : 0 ≤ i) (h1 : i < l.length) : 0 ≤ rd l i ∧ rd l i ≤ 255 := wf_u8 (hw _ (rd_mem h0 h1))
theorem tm {a b : Int} (h : 0 ≤ a) : Int.tmod a b = a % b := Int.tmod_eq_emod_of_nonneg h
theorem td {a b : Int} (h : 0 ≤ a) : Int.tdiv a b = a / b := Int.tdiv_eq_ediv_of_nonneg h

/-! ### words of 32 bits as natural numbers -/
theorem u32_id {x : Int} (h0 : 0 ≤ x) (h1 : x ≤ 4294967295) : IntKind.u32.wrap x = x := by rw [IntKind.wrap_u32]; omega
theorem u64_id {x : Int} (h0 : 0 ≤ x) (h1 : x ≤ 18446744073709551615) : IntKind.u64.wrap x = x := by simp [IntKind.wrap, IntKind.bits, IntKind.signed]; omega
theorem u32_or (a b : Nat) (ha : a < 2 ^ 32) (hb : b < 2 ^ 32) : Go.bits .or .u32 a b = ((a ||| b : Nat) : Int) :=
  (bits_nat .u32 32 (by decide) (fun n h0 h1 => u32_id h0 (by omega)) a b ha hb).2
theorem u32_and (a b : Nat) (ha : a < 2 ^ 32) (hb : b < 2 ^ 32) : Go.bits .and .u32 a b = ((a &&& b : Nat) : Int) :=
  (bits_nat .u32 32 (by decide) (fun n h0 h1 => u32_id h0 (by omega)) a b ha hb).1
theorem shl1 (n : Nat) (h : n < 32) : shl .u32 1 (n : Int) = ((2 ^ n : Nat) : Int) := by
  unfold shl
  have e : min ((n : Int)).toNat IntKind.u32.bits = n := by simp [IntKind.bits]; omega
  have h2 : 2 ^ n ≤ 2 ^ 31 := Nat.pow_le_pow_right (by omega) (by omega)
  rw [e, Int.one_mul, u32_id (by exact_mod_cast Nat.zero_le _) (by have : ((2 ^ n : Nat) : Int) ≤ 2 ^ 31 := by exact_mod_cast h2
                                                                   have e2 : ((2 : Int) ^ n) = ((2 ^ n : Nat) : Int) := by simp
                                                                   omega)]
  simp
theorem shrn (a n : Nat) (h : n < 32) : shr .u32 (a : Int) (n : Int) = ((a / 2 ^ n : Nat) : Int) := by
  unfold shr
  have e : min ((n : Int)).toNat IntKind.u32.bits = n := by simp [IntKind.bits]; omega
  rw [e]; simp

/-! ### sets of small numbers: bits of a natural number -/
theorem bit_shr (a i : Nat) (ha : a < 2 ^ 32) (hi : i < 32) : (Go.bits .and .u32 (shr .u32 (a : Int) (i : Int)) 1 = 1) ↔ a.testBit i = true := by
  rw [shrn a i hi]
  have h1 : a / 2 ^ i < 2 ^ 32 := Nat.lt_of_le_of_lt (Nat.div_le_self _ _) ha
  have h2 := u32_and (a / 2 ^ i) 1 h1 (by decide)
  have h3 : ((1 : Nat) : Int) = 1 := rfl
  rw [h3] at h2
  rw [h2, Nat.and_one_is_mod, Nat.testBit_eq_decide_div_mod_eq]
  simp only [decide_eq_true_eq]; omega
theorem bit_and (a i : Nat) (ha : a < 2 ^ 32) (hi : i < 32) : (Go.bits .and .u32 (a : Int) (shl .u32 1 (i : Int)) != 0) = a.testBit i := by
  have h0 : 2 ^ i < 2 ^ 32 := Nat.pow_lt_pow_right (by omega) hi
  rw [shl1 i hi, u32_and a (2 ^ i) ha h0]
  cases h : a.testBit i with
  | true =>
    have : a &&& 2 ^ i ≠ 0 := fun e => by
      have q := congrArg (fun x => Nat.testBit x i) e
      simp [Nat.testBit_and, Nat.testBit_two_pow_self, h] at q
    simp; omega
  | false =>
    have : a &&& 2 ^ i = 0 := by
      apply Nat.eq_of_testBit_eq
      intro j
      by_cases e : i = j
      · subst e; simp [Nat.testBit_and, h]
      · simp [Nat.testBit_and, Nat.testBit_two_pow, e]
    rw [this]; rfl
theorem bit_or (a i : Nat) (ha : a < 2 ^ 32) (hi : i < 32) : Go.bits .or .u32 (a : Int) (shl .u32 1 (i : Int)) = ((a ||| 2 ^ i : Nat) : Int) := by
  have h0 : 2 ^ i < 2 ^ 32 := Nat.pow_lt_pow_right (by omega) hi
  rw [shl1 i hi, u32_or a (2 ^ i) ha h0]
def cnt : Nat → Nat → Nat
  | 0, _ => 0
  | n + 1, s => cnt n s + (s.testBit n).toNat
theorem cnt_le : ∀ n s, cnt n s ≤ n
  | 0, _ => Nat.le_refl _
  | n + 1, s => by
    have := cnt_le n s
    unfold cnt
    cases s.testBit n <;> simp <;> omega
theorem cnt_mono (s t : Nat) (h : ∀ i, s.testBit i = true → t.testBit i = true) : ∀ n, cnt n s ≤ cnt n t
  | 0 => Nat.le_refl _
  | n + 1 => by
    have := cnt_mono s t h n
    have h1 := h n
    unfold cnt
    cases q : s.testBit n
    · simp; omega
    · rw [h1 q]; simp; omega
theorem cnt_lt (s t : Nat) (h : ∀ i, s.testBit i = true → t.testBit i = true) (i : Nat) (hs : s.testBit i = false) (ht : t.testBit i = true) : ∀ n, i < n → cnt n s < cnt n t
  | 0, hi => by omega
  | n + 1, hi => by
    have h1 := h n
    have h2 := cnt_mono s t h n
    unfold cnt
    by_cases e : i = n
    · subst e; rw [hs, ht]; simp; omega
    · have := cnt_lt s t h i hs ht n (by omega)
      cases q : s.testBit n
      · simp; omega
      · rw [h1 q]; simp; omega
theorem bits_ne {s t n : Nat} (hs : s < 2 ^ n) (ht : t < 2 ^ n) (h : ∀ i, s.testBit i = true → t.testBit i = true) (hne : t ≠ s) : ∃ i, i < n ∧ s.testBit i = false ∧ t.testBit i = true := by
  rcases Classical.em (∃ i, i < n ∧ s.testBit i = false ∧ t.testBit i = true) with q | q
  · exact q
  · exfalso; apply hne
    apply Nat.eq_of_testBit_eq
    intro i
    by_cases hi : i < n
    · cases e : s.testBit i with
      | true => exact h i e
      | false =>
        cases e2 : t.testBit i with
        | false => rfl
        | true => exact absurd ⟨i, hi, e, e2⟩ q
    · have h2 : 2 ^ n ≤ 2 ^ i := Nat.pow_le_pow_right (by omega) (by omega)
      rw [Nat.testBit_lt_two_pow (Nat.lt_of_lt_of_le hs h2), Nat.testBit_lt_two_pow (Nat.lt_of_lt_of_le ht h2)]
/-! a step that only adds, again and again -/
def rep (P : Nat → Nat) : Nat → Nat → Nat
  | 0, s => s
  | n + 1, s => rep P n (P s)
theorem rep_fix (P : Nat → Nat) (s : Nat) (h : P s = s) : ∀ n, rep P n s = s
  | 0 => rfl
  | n + 1 => by unfold rep; rw [h]; exact rep_fix P s h n
theorem rep_succ (P : Nat → Nat) : ∀ n s, rep P (n + 1) s = P (rep P n s)
  | 0, _ => rfl
  | n + 1, s => by
    show rep P (n + 1) (P s) = P (rep P n (P s))
    exact rep_succ P n (P s)
theorem rep_lt (P : Nat → Nat) (b : Nat) (h : ∀ s, s < b → P s < b) : ∀ n s, s < b → rep P n s < b
  | 0, _, hs => hs
  | n + 1, s, hs => rep_lt P b h n (P s) (h s hs)

/-! ### loops, round by round -/
theorem anyO_some {α : Type} (p : α → Bool) : ∀ l : List α, anyO (fun x => some (p x)) l = some (l.any p)
  | [] => rfl
  | x :: l => by
    unfold anyO
    rw [Option.bind_some, anyO_some p l, List.any_cons]
    cases p x <;> simp
theorem anyO_of {α : Type} {f : α → Option Bool} {p : α → Bool} {l : List α} (h : ∀ x ∈ l, f x = some (p x)) : anyO f l = some (l.any p) := by
  induction l with
  | nil => rfl
  | cons x l ih =>
    unfold anyO
    rw [h x (by simp), Option.bind_some, ih (fun y hy => h y (by simp [hy])), List.any_cons]
    cases p x <;> simp
theorem Ev.loop {σ ρ : Type} {L : Nat → Int → σ → Option ρ} {n : Int} {r : ρ} (I : Int → σ → Prop)
    (hend : ∀ s, I n s → Ev (fun k => L k n s) r)
    (hstep : ∀ i s, 0 ≤ i → i < n → I i s → Ev (fun k => L k i s) r ∨ ∃ s', I (i + 1) s' ∧ (Ev (fun k => L k (i + 1) s') r → Ev (fun k => L k i s) r)) :
    ∀ (i : Int) (s : σ), 0 ≤ i → i ≤ n → I i s → Ev (fun k => L k i s) r := by
  have key : ∀ (d : Nat) (i : Int) (s : σ), 0 ≤ i → i + d = n → I i s → Ev (fun k => L k i s) r := by
    intro d
    induction d with
    | zero => intro i s h0 h1 hI; obtain rfl : i = n := by omega
              exact hend s hI
    | succ d ih =>
      intro i s h0 h1 hI
      rcases hstep i s h0 (by omega) hI with h | ⟨s', h', h⟩
      · exact h
      · exact h (ih (i + 1) s' (by omega) (by omega) h')
  intro i s h0 h1 hI
  exact key (n - i).toNat i s h0 (by omega) hI
/-- The first element that is bad ends a loop. -/
theorem Ev.firstBad {α ρ : Type} {L : Nat → Int → Option ρ} {l : List α} {rdf : Int → α} {bad : α → Bool} {c fin : ρ}
    (hrd : ∀ i : Int, 0 ≤ i → i < l.length → l.drop i.toNat = rdf i :: l.drop (i + 1).toNat)
    (hend : l.any bad = false → Ev (fun k => L k l.length) fin)
    (hbad : ∀ i : Int, 0 ≤ i → i < l.length → bad (rdf i) = true → Ev (fun k => L k i) c)
    (hgood : ∀ (i : Int) (r : ρ), 0 ≤ i → i < l.length → bad (rdf i) = false → Ev (fun k => L k (i + 1)) r → Ev (fun k => L k i) r) :
    Ev (fun k => L k 0) (if l.any bad = true then c else fin) := by
  refine Ev.loop (σ := Unit) (L := fun k i _ => L k i) (n := l.length) (fun i _ => l.any bad = (l.drop i.toNat).any bad) ?_ ?_ 0 () (Int.le_refl _) (by omega) rfl
  · intro _ h
    rw [Int.toNat_natCast, List.drop_length] at h
    have h : l.any bad = false := h
    rw [h]; exact hend h
  · intro i _ h0 h1 h
    rw [hrd i h0 h1, List.any_cons] at h
    cases hb : bad (rdf i) with
    | true => left; rw [h, hb]; exact hbad i h0 h1 hb
    | false => right; refine ⟨(), by rw [h, hb]; rfl, hgood i _ h0 h1 hb⟩
theorem rd_cons {l : List Int} {i : Int} (h0 : 0 ≤ i) (h1 : i < l.length) : l.drop i.toNat = rd l i :: l.drop (i + 1).toNat := drop_rd h0 h1

/-! ### masks of small sets -/
def maskB (p : Nat → Bool) : Nat → Nat
  | 0 => 0
  | n + 1 => maskB p n + (if p n = true then 2 ^ n else 0)
theorem maskB_succ (p : Nat → Bool) (n : Nat) : maskB p (n + 1) = maskB p n + (if p n = true then 2 ^ n else 0) := rfl
theorem maskB_lt (p : Nat → Bool) : ∀ n, maskB p n < 2 ^ n
  | 0 => by simp [maskB]
  | n + 1 => by
    have := maskB_lt p n
    have e : 2 ^ (n + 1) = 2 ^ n + 2 ^ n := by rw [Nat.pow_succ]; omega
    unfold maskB
    split <;> omega
theorem maskB_bit (p : Nat → Bool) (i : Nat) : ∀ n, (maskB p n).testBit i = (decide (i < n) && p i)
  | 0 => by simp [maskB]
  | n + 1 => by
    have h := maskB_bit p i n
    have hl := maskB_lt p n
    unfold maskB
    cases hp : p n with
    | false =>
      simp only [Bool.false_eq_true, if_false, Nat.add_zero, h]
      by_cases e : i = n
      · subst e; simp [hp]
      · have : decide (i < n) = decide (i < n + 1) := by congr 1; apply propext; omega
        rw [this]
    | true =>
      simp only [if_true]
      have e2 := Nat.two_pow_add_eq_or_of_lt hl 1
      rw [Nat.mul_one] at e2
      rw [Nat.add_comm, e2, Nat.testBit_or, Nat.testBit_two_pow, h]
      by_cases e : i = n
      · subst e; simp [hp]
      · have : decide (i < n) = decide (i < n + 1) := by congr 1; apply propext; omega
        rw [this]; simp [show ¬ n = i from fun q => e q.symm]
theorem bit_shr0 (a i : Nat) (ha : a < 2 ^ 32) (hi : i < 32) : (Go.bits .and .u32 (shr .u32 (a : Int) (i : Int)) 1 == 0) = !a.testBit i := by
  rw [shrn a i hi]
  have h1 : a / 2 ^ i < 2 ^ 32 := Nat.lt_of_le_of_lt (Nat.div_le_self _ _) ha
  have h2 := u32_and (a / 2 ^ i) 1 h1 (by decide)
  have h3 : ((1 : Nat) : Int) = 1 := rfl
  rw [h3] at h2
  rw [h2, Nat.and_one_is_mod, Nat.testBit_eq_decide_div_mod_eq]
  rcases Nat.mod_two_eq_zero_or_one (a / 2 ^ i) with h | h <;> rw [h] <;> rfl
/-! a chain of growing sets stands still in time -/
def cntP (p : Nat → Bool) : Nat → Nat
  | 0 => 0
  | n + 1 => cntP p n + (p n).toNat
theorem cntP_le (p : Nat → Bool) : ∀ n, cntP p n ≤ n
  | 0 => Nat.le_refl _
  | n + 1 => by have := cntP_le p n; unfold cntP; cases p n <;> simp <;> omega
theorem cntP_mono {p q : Nat → Bool} : ∀ n, (∀ i, i < n → p i = true → q i = true) → cntP p n ≤ cntP q n
  | 0, _ => Nat.le_refl _
  | n + 1, h => by
    have := cntP_mono n (fun i hi => h i (by omega))
    have h1 := h n (by omega)
    unfold cntP
    cases e : p n
    · simp; omega
    · rw [h1 e]; simp; omega
theorem cntP_eq {p q : Nat → Bool} : ∀ n, (∀ i, i < n → p i = true → q i = true) → cntP q n ≤ cntP p n → ∀ i, i < n → q i = p i
  | 0, _, _, i, hi => by omega
  | n + 1, h, hc, i, hi => by
    have hm := cntP_mono n (fun i hi => h i (by omega))
    have h1 := h n (by omega)
    unfold cntP at hc
    have hn : q n = p n := by
      cases e : p n
      · cases e2 : q n
        · rfl
        · rw [e, e2] at hc; simp at hc; omega
      · exact h1 e
    rw [hn] at hc
    by_cases e : i = n
    · subst e; exact hn
    · exact cntP_eq n (fun i hi => h i (by omega)) (by omega) i (by omega)
theorem chain_stop (n : Nat) (p : Nat → Nat → Bool) (mono : ∀ d i, i < n → p d i = true → p (d + 1) i = true)
    (stab : ∀ d, (∀ i, i < n → p (d + 1) i = p d i) → ∀ i, i < n → p (d + 2) i = p (d + 1) i) : ∀ i, i < n → p (n + 1) i = p n i := by
  have key : ∀ d, d ≤ cntP (p d) n ∨ ∀ i, i < n → p (d + 1) i = p d i := by
    intro d
    induction d with
    | zero => exact .inl (Nat.zero_le _)
    | succ d ih =>
      rcases ih with ih | ih
      · by_cases h : cntP (p (d + 1)) n ≤ cntP (p d) n
        · exact .inr (stab d (cntP_eq n (mono d) h))
        · exact .inl (by omega)
      · exact .inr (stab d ih)
  rcases key (n + 1) with h | h
  · have := cntP_le (p (n + 1)) n; omega
  · rcases key n with h2 | h2
    · have h3 := cntP_le (p (n + 1)) n
      exact cntP_eq n (mono n) (by omega)
    · exact h2
theorem chain_all (n : Nat) (p : Nat → Nat → Bool) (mono : ∀ d i, i < n → p d i = true → p (d + 1) i = true)
    (stab : ∀ d, (∀ i, i < n → p (d + 1) i = p d i) → ∀ i, i < n → p (d + 2) i = p (d + 1) i) (e : Nat) : ∀ i, i < n → p (n + e) i = p n i := by
  induction e with
  | zero => intro i _; rfl
  | succ e ih =>
    have h : ∀ e, ∀ i, i < n → p (n + e + 1) i = p (n + e) i := by
      intro e
      induction e with
      | zero => exact chain_stop n p mono stab
      | succ e ih2 => exact stab (n + e) ih2
    intro i hi
    rw [← ih i hi]; exact h e i hi

/-! ### grammars: what is wrong -/
theorem rd_rule {l : List S38} {i : Int} (h0 : 0 ≤ i) (h1 : i < l.length) : l.drop i.toNat = rd_T38 l i :: l.drop (i + 1).toNat := by
  have h : i.toNat < l.length := by omega
  have e : rd_T38 l i = l[i.toNat] := by simp [rd_T38, List.getD_eq_getElem?_getD, List.getElem?_eq_getElem h]
  rw [e, List.drop_eq_getElem_cons h]; congr 2; omega
theorem rule_mem {l : List S38} {i : Int} (h0 : 0 ≤ i) (h1 : i < l.length) : rd_T38 l i ∈ l := by
  have h : i.toNat < l.length := by omega
  have e : rd_T38 l i = l[i.toNat] := by simp [rd_T38, List.getD_eq_getElem?_getD, List.getElem?_eq_getElem h]
  rw [e]; exact List.getElem_mem _
def sgnBad (M x : Int) : Bool := decide (x < 0) || decide (x ≥ M)
def ruleBad (K N : Int) (r : S38) : Bool := decide (r.f0 < 0) || (decide (r.f0 ≥ N) || r.f1.any (sgnBad (K + N)))
def gcode (K N st : Int) (rs : List S38) : Int :=
  if K < 1 ∨ K > 3 ∨ N < 1 ∨ N > 5 ∨ (rs.length : Int) > 10 ∨ (rs.any fun r => decide ((r.f1.length : Int) > 4)) = true then 1
  else if st < 0 ∨ st ≥ N then 2 else if rs.any (ruleBad K N) = true then 2 else 0
theorem gcode_bad {K N st : Int} {rs : List S38} (h : K < 1 ∨ K > 3 ∨ N < 1 ∨ N > 5 ∨ (rs.length : Int) > 10 ∨ (rs.any fun r => decide ((r.f1.length : Int) > 4)) = true) : gcode K N st rs = 1 := by unfold gcode; rw [if_pos h]
section
variable (K N st : Int) (rs : List S38) (hK0 : 1 ≤ K) (hK1 : K ≤ 3) (hN0 : 1 ≤ N) (hN1 : N ≤ 5)
include hK0 hK1 hN0 hN1
theorem signs_eq (l : List Int) : grammar_signs.f K N st rs l = some (!(l.any (sgnBad (K + N)))) := by
  unfold grammar_signs.f grammar_signs_1_any.f
  have e : (fun x : Int => grammar_signs_1.f x K N st rs) = fun x => some (sgnBad (K + N) x) := by
    funext x
    unfold grammar_signs_1.f sgnBad
    rw [w64 (by omega) (by omega)]
    by_cases h : x < 0
    · rw [if_pos h]; simp [h]
    · rw [if_neg h]; simp [h]
  rw [e, anyO_some]; rfl
theorem refSigns_ev (l : List Int) (hl : l.length ≤ 140737488351232) : Ev (fun k => coppicerref_Signs.f k K N st rs l) (!(l.any (sgnBad (K + N)))) := by
  unfold coppicerref_Signs.f
  have := Ev.firstBad (L := fun k i => coppicerref_Signs.l0 k l (l.length : Int) i K N st rs) (l := l) (rdf := rd l) (bad := sgnBad (K + N)) (c := false) (fin := true) (fun i h0 h1 => rd_cons h0 h1) ?_ ?_ ?_
  · cases h : l.any (sgnBad (K + N)) <;> rw [h] at this <;> exact this
  · intro _
    refine Ev.step (fun k => coppicerref_Signs.l0.eq_2 _ _ _ _ _ _ _ k) ?_
    simp (disch := omega) only [if_neg]; exact Ev.now _
  · intro i h0 h1 hb
    refine Ev.step (fun k => coppicerref_Signs.l0.eq_2 _ _ _ _ _ _ _ k) ?_
    simp (disch := omega) only [if_pos, w64]
    unfold sgnBad at hb
    by_cases h : rd l i < 0
    · simp only [if_pos h]; exact Ev.now _
    · have h2 : rd l i ≥ K + N := by simpa [h] using hb
      simp only [if_neg h, if_pos h2]; exact Ev.now _
  · intro i r h0 h1 hb hr
    refine Ev.step (fun k => coppicerref_Signs.l0.eq_2 _ _ _ _ _ _ _ k) ?_
    unfold sgnBad at hb
    simp only [Bool.or_eq_false_iff, decide_eq_false_iff_not] at hb
    simp (disch := omega) only [if_pos, if_neg, w64]
    exact hr
theorem gcheck_l0 (hl : rs.length ≤ 10) : Ev (fun k => grammar_Check.l0 k rs (rs.length : Int) 0 K N st rs) (if rs.any (ruleBad K N) = true then 2 else 0) := by
  refine Ev.firstBad (L := fun k i => grammar_Check.l0 k rs (rs.length : Int) i K N st rs) (rdf := rd_T38 rs) (fun i h0 h1 => rd_rule h0 h1) ?_ ?_ ?_
  · intro _
    refine Ev.step (fun k => grammar_Check.l0.eq_2 _ _ _ _ _ _ _ k) ?_
    simp (disch := omega) only [if_neg]; exact Ev.now _
  · intro i h0 h1 hb
    refine Ev.step (fun k => grammar_Check.l0.eq_2 _ _ _ _ _ _ _ k) ?_
    simp (disch := omega) only [if_pos, signs_eq K N st rs hK0 hK1 hN0 hN1, Option.bind_some]
    unfold ruleBad at hb
    by_cases c1 : (rd_T38 rs i).f0 < 0
    · simp only [if_pos c1]; exact Ev.now _
    by_cases c2 : (rd_T38 rs i).f0 ≥ N
    · simp only [if_neg c1, if_pos c2]; exact Ev.now _
    have c3 : (rd_T38 rs i).f1.any (sgnBad (K + N)) = true := by simpa [c1, c2] using hb
    simp only [if_neg c1, if_neg c2, c3, Bool.not_true, Bool.false_eq_true, if_false]; exact Ev.now _
  · intro i r h0 h1 hb hr
    refine Ev.step (fun k => grammar_Check.l0.eq_2 _ _ _ _ _ _ _ k) ?_
    simp (disch := omega) only [if_pos, signs_eq K N st rs hK0 hK1 hN0 hN1, Option.bind_some, w64]
    unfold ruleBad at hb
    simp only [Bool.or_eq_false_iff, decide_eq_false_iff_not] at hb
    simp only [if_neg hb.1, if_neg hb.2.1, hb.2.2, Bool.not_false, if_true]
    exact hr
theorem rcheck_l1 (hl : rs.length ≤ 10) (hr : (rs.any fun r => decide ((r.f1.length : Int) > 4)) = false) : Ev (fun k => coppicerref_GrammarCheck.l1 k rs (rs.length : Int) 0 K N st rs) (if rs.any (ruleBad K N) = true then 2 else 0) := by
  have hs : ∀ i : Int, 0 ≤ i → i < rs.length → (rd_T38 rs i).f1.length ≤ 4 := by
    intro i h0 h1
    have := (List.any_eq_false.1 hr) _ (rule_mem h0 h1)
    simp only [decide_eq_true_eq] at this; omega
  refine Ev.firstBad (L := fun k i => coppicerref_GrammarCheck.l1 k rs (rs.length : Int) i K N st rs) (rdf := rd_T38 rs) (fun i h0 h1 => rd_rule h0 h1) ?_ ?_ ?_
  · intro _
    refine Ev.step (fun k => coppicerref_GrammarCheck.l1.eq_2 _ _ _ _ _ _ _ k) ?_
    simp (disch := omega) only [if_neg]; exact Ev.now _
  · intro i h0 h1 hb
    refine Ev.step (fun k => coppicerref_GrammarCheck.l1.eq_2 _ _ _ _ _ _ _ k) ?_
    simp (disch := omega) only [if_pos]
    unfold ruleBad at hb
    by_cases c1 : (rd_T38 rs i).f0 < 0
    · simp only [if_pos c1]; exact Ev.now _
    by_cases c2 : (rd_T38 rs i).f0 ≥ N
    · simp only [if_neg c1, if_pos c2]; exact Ev.now _
    have c3 : (rd_T38 rs i).f1.any (sgnBad (K + N)) = true := by simpa [c1, c2] using hb
    simp only [if_neg c1, if_neg c2]
    refine Ev.bind (refSigns_ev K N st rs hK0 hK1 hN0 hN1 _ (by have := hs i h0 h1; omega)) ?_
    simp only [c3, Bool.not_true, Bool.false_eq_true, if_false]; exact Ev.now _
  · intro i r h0 h1 hb hr
    refine Ev.step (fun k => coppicerref_GrammarCheck.l1.eq_2 _ _ _ _ _ _ _ k) ?_
    simp (disch := omega) only [if_pos, w64]
    unfold ruleBad at hb
    simp only [Bool.or_eq_false_iff, decide_eq_false_iff_not] at hb
    simp only [if_neg hb.1, if_neg hb.2.1]
    refine Ev.bind (refSigns_ev K N st rs hK0 hK1 hN0 hN1 _ (by have := hs i h0 h1; omega)) ?_
    simp only [hb.2.2, Bool.not_false, if_true]
    exact hr
end
theorem gcheck_ev (K N st : Int) (rs : List S38) : Ev (fun k => grammar_Check.f k K N st rs) (gcode K N st rs) := by
  unfold grammar_Check.f
  have bad : (K < 1 ∨ K > 3 ∨ N < 1 ∨ N > 5 ∨ (rs.length : Int) > 10 ∨ (rs.any fun r => decide ((r.f1.length : Int) > 4)) = true) → Ev (fun k => grammar_Check.j0 k true K N st rs) (gcode K N st rs) := by
    intro h
    rw [gcode_bad h]
    refine Ev.step (fun k => grammar_Check.j0.eq_2 _ _ _ _ _ k) ?_
    simp only [if_true]; exact Ev.now _
  by_cases c1 : K < 1
  · simp only [if_pos c1]; exact bad (by omega)
  by_cases c2 : K > 3
  · simp only [if_neg c1, if_pos c2]; exact bad (by omega)
  by_cases c3 : N < 1
  · simp only [if_neg c1, if_neg c2, if_pos c3]; exact bad (by omega)
  by_cases c4 : N > 5
  · simp only [if_neg c1, if_neg c2, if_neg c3, if_pos c4]; exact bad (by omega)
  by_cases c5 : (rs.length : Int) > 10
  · simp only [if_neg c1, if_neg c2, if_neg c3, if_neg c4, if_pos c5]; exact bad (by omega)
  simp only [if_neg c1, if_neg c2, if_neg c3, if_neg c4, if_neg c5]
  have e : grammar_Check_1_any.f rs = some (rs.any fun r => decide ((r.f1.length : Int) > 4)) := anyO_some _ rs
  simp only [e, Option.bind_some]
  cases c6 : (rs.any fun r => decide ((r.f1.length : Int) > 4)) with
  | true => exact bad (.inr (.inr (.inr (.inr (.inr c6)))))
  | false =>
    refine Ev.step (fun k => grammar_Check.j0.eq_2 _ _ _ _ _ k) ?_
    have hg : gcode K N st rs = if st < 0 ∨ st ≥ N then 2 else if rs.any (ruleBad K N) = true then 2 else 0 := by
      unfold gcode; rw [if_neg (by rw [c6]; simp; omega)]
    have j1t : (st < 0 ∨ st ≥ N) → Ev (fun k => grammar_Check.j1 k true K N st rs) (gcode K N st rs) := by
      intro h
      rw [hg, if_pos h]
      refine Ev.step (fun k => grammar_Check.j1.eq_2 _ _ _ _ _ k) ?_
      simp only [if_true]; exact Ev.now _
    simp only [Bool.false_eq_true, if_false]
    by_cases d1 : st < 0
    · simp only [if_pos d1]; exact j1t (.inl d1)
    by_cases d2 : st ≥ N
    · simp only [if_neg d1, decide_eq_true d2]; exact j1t (.inr d2)
    · simp only [if_neg d1, decide_eq_false d2]
      rw [hg, if_neg (by omega)]
      refine Ev.step (fun k => grammar_Check.j1.eq_2 _ _ _ _ _ k) ?_
      simp only [Bool.false_eq_true, if_false]
      exact gcheck_l0 K N st rs (by omega) (by omega) (by omega) (by omega) (by omega)
theorem rcheck_ev (K N st : Int) (rs : List S38) : Ev (fun k => coppicerref_GrammarCheck.f k K N st rs) (gcode K N st rs) := by
  unfold coppicerref_GrammarCheck.f
  have bad : (K < 1 ∨ K > 3 ∨ N < 1 ∨ N > 5 ∨ (rs.length : Int) > 10 ∨ (rs.any fun r => decide ((r.f1.length : Int) > 4)) = true) → Ev (fun k => coppicerref_GrammarCheck.j0 k true K N st rs) (gcode K N st rs) := by
    intro h
    rw [gcode_bad h]
    refine Ev.step (fun k => coppicerref_GrammarCheck.j0.eq_2 _ _ _ _ _ k) ?_
    simp only [if_true]; exact Ev.now _
  by_cases c1 : K < 1
  · simp only [if_pos c1]; exact bad (by omega)
  by_cases c2 : K > 3
  · simp only [if_neg c1, if_pos c2]; exact bad (by omega)
  by_cases c3 : N < 1
  · simp only [if_neg c1, if_neg c2, if_pos c3]; exact bad (by omega)
  by_cases c4 : N > 5
  · simp only [if_neg c1, if_neg c2, if_neg c3, if_pos c4]; exact bad (by omega)
  simp only [if_neg c1, if_neg c2, if_neg c3, if_neg c4]
  by_cases c5 : (rs.length : Int) > 10
  · simp only [c5, decide_true]; exact bad (by omega)
  simp only [c5, decide_false]
  refine Ev.step (fun k => coppicerref_GrammarCheck.j0.eq_2 _ _ _ _ _ k) ?_
  simp only [Bool.false_eq_true, if_false]
  have hg : gcode K N st rs = if (rs.any fun r => decide ((r.f1.length : Int) > 4)) = true then 1 else if st < 0 ∨ st ≥ N then 2 else if rs.any (ruleBad K N) = true then 2 else 0 := by
    unfold gcode
    cases c6 : (rs.any fun r => decide ((r.f1.length : Int) > 4)) with
    | true => rw [if_pos (by simp), if_pos rfl]
    | false => rw [if_neg (by simp; omega)]; simp only [Bool.false_eq_true, if_false]
  rw [hg]
  refine Ev.firstBad (L := fun k i => coppicerref_GrammarCheck.l0 k rs (rs.length : Int) i K N st rs) (rdf := rd_T38 rs) (fun i h0 h1 => rd_rule h0 h1) ?_ ?_ ?_
  · intro c6
    refine Ev.step (fun k => coppicerref_GrammarCheck.l0.eq_2 _ _ _ _ _ _ _ k) ?_
    simp (disch := omega) only [if_neg]
    have j2t : (st < 0 ∨ st ≥ N) → Ev (fun k => coppicerref_GrammarCheck.j2 k true K N st rs) (if st < 0 ∨ st ≥ N then 2 else if rs.any (ruleBad K N) = true then 2 else 0) := by
      intro h
      rw [if_pos h]
      refine Ev.step (fun k => coppicerref_GrammarCheck.j2.eq_2 _ _ _ _ _ k) ?_
      simp only [if_true]; exact Ev.now _
    by_cases d1 : st < 0
    · simp only [if_pos d1]; exact j2t (.inl d1)
    by_cases d2 : st ≥ N
    · simp only [if_neg d1, decide_eq_true d2]; exact j2t (.inr d2)
    · simp only [if_neg d1, decide_eq_false d2]
      rw [if_neg (by omega)]
      refine Ev.step (fun k => coppicerref_GrammarCheck.j2.eq_2 _ _ _ _ _ k) ?_
      simp only [Bool.false_eq_true, if_false]
      exact rcheck_l1 K N st rs (by omega) (by omega) (by omega) (by omega) (by omega) c6
  · intro i h0 h1 hb
    refine Ev.step (fun k => coppicerref_GrammarCheck.l0.eq_2 _ _ _ _ _ _ _ k) ?_
    simp only [decide_eq_true_eq] at hb
    simp (disch := omega) only [if_pos]; exact Ev.now _
  · intro i r h0 h1 hb hr
    refine Ev.step (fun k => coppicerref_GrammarCheck.l0.eq_2 _ _ _ _ _ _ _ k) ?_
    simp only [decide_eq_false_iff_not] at hb
    simp (disch := omega) only [if_pos, if_neg, w64]; exact hr

/-! ### grammars that may be -/
structure GOK (K N st : Int) (rs : List S38) : Prop where
  K0 : 1 ≤ K
  K1 : K ≤ 3
  N0 : 1 ≤ N
  N1 : N ≤ 5
  len : rs.length ≤ 10
  s0 : 0 ≤ st
  s1 : st < N
  rl : ∀ r ∈ rs, r.f1.length ≤ 4
  r0 : ∀ r ∈ rs, 0 ≤ r.f0
  r1 : ∀ r ∈ rs, r.f0 < N
  x0 : ∀ r ∈ rs, ∀ x ∈ r.f1, 0 ≤ x
  x1 : ∀ r ∈ rs, ∀ x ∈ r.f1, x < K + N
theorem gcode_ok {K N st : Int} {rs : List S38} (h : gcode K N st rs = 0) : GOK K N st rs := by
  unfold gcode at h
  split at h
  · omega
  rename_i h1
  split at h
  · omega
  rename_i h2
  split at h
  · omega
  rename_i h3
  simp only [not_or] at h1 h2
  have h4 : (rs.any fun r => decide ((r.f1.length : Int) > 4)) = false := by simpa using h1.2.2.2.2.2
  have h5 : rs.any (ruleBad K N) = false := by simpa using h3
  rw [List.any_eq_false] at h4 h5
  have h6 : ∀ r ∈ rs, 0 ≤ r.f0 ∧ r.f0 < N ∧ ∀ x ∈ r.f1, 0 ≤ x ∧ x < K + N := by
    intro r hr
    have h7 : ruleBad K N r = false := by simpa using h5 r hr
    unfold ruleBad at h7
    simp only [Bool.or_eq_false_iff, decide_eq_false_iff_not, List.any_eq_false] at h7
    refine ⟨by omega, by omega, fun x hx => ?_⟩
    have h8 := h7.2.2 x hx
    unfold sgnBad at h8
    simp only [Bool.or_eq_true, decide_eq_true_eq, not_or] at h8
    omega
  refine ⟨by omega, by omega, by omega, by omega, by omega, by omega, by omega, ?_, fun r hr => (h6 r hr).1, fun r hr => (h6 r hr).2.1, fun r hr x hx => ((h6 r hr).2.2 x hx).1, fun r hr x hx => ((h6 r hr).2.2 x hx).2⟩
  intro r hr
  have := h4 r hr
  simp only [decide_eq_true_eq] at this; omega
/-! ### the least set: by passes, and by trees -/
def okS (K : Int) (sy : Bool) (S : Nat) (x : Int) : Bool := if x < K then sy else S.testBit (x - K).toNat
def passG (K : Int) (sy : Bool) (rs : List S38) (S : Nat) : Nat := rs.foldl (fun S r => if r.f1.all (okS K sy S) = true then S ||| 2 ^ r.f0.toNat else S) S
def leastG (K N : Int) (sy : Bool) (rs : List S38) : Nat := rep (passG K sy rs) N.toNat 0
def mkG (K : Int) (sy : Bool) (rs : List S38) : Nat → Int → Bool
  | 0, x => if x < K then sy else false
  | d + 1, x => if x < K then sy else rs.any fun r => r.f0 == x - K && r.f1.all (mkG K sy rs d)
theorem passG_lt (K : Int) (sy : Bool) (n : Nat) : ∀ (rs : List S38) (S : Nat), (∀ r ∈ rs, r.f0.toNat < n) → S < 2 ^ n → passG K sy rs S < 2 ^ n
  | [], S, _, h => h
  | r :: rs, S, hr, h => by
    unfold passG
    rw [List.foldl_cons]
    refine passG_lt K sy n rs _ (fun q hq => hr q (by simp [hq])) ?_
    split
    · exact Nat.or_lt_two_pow h (Nat.pow_lt_pow_right (by omega) (hr r (by simp)))
    · exact h
theorem passG_sub (K : Int) (sy : Bool) : ∀ (rs : List S38) (S i : Nat), S.testBit i = true → (passG K sy rs S).testBit i = true
  | [], _, _, h => h
  | r :: rs, S, i, h => by
    unfold passG
    rw [List.foldl_cons]
    refine passG_sub K sy rs _ i ?_
    split
    · rw [Nat.testBit_or, h, Bool.true_or]
    · exact h
theorem okS_mono {K : Int} {sy : Bool} {S T : Nat} (h : ∀ i, S.testBit i = true → T.testBit i = true) (x : Int) (hx : okS K sy S x = true) : okS K sy T x = true := by
  unfold okS at hx ⊢
  split
  · rename_i c; rwa [if_pos c] at hx
  · rename_i c; rw [if_neg c] at hx; exact h _ hx
theorem all_mono {p q : Int → Bool} {l : List Int} (h : ∀ x ∈ l, p x = true → q x = true) (hp : l.all p = true) : l.all q = true := by
  rw [List.all_eq_true] at hp ⊢; exact fun x hx => h x hx (hp x hx)
theorem passG_mem (K : Int) (sy : Bool) : ∀ (rs : List S38) (S : Nat) (r : S38), r ∈ rs → r.f1.all (okS K sy S) = true → (passG K sy rs S).testBit r.f0.toNat = true
  | [], _, _, h, _ => by simp at h
  | q :: rs, S, r, h, hok => by
    unfold passG
    rw [List.foldl_cons]
    have hsub : ∀ i, S.testBit i = true → (if q.f1.all (okS K sy S) = true then S ||| 2 ^ q.f0.toNat else S).testBit i = true := by
      intro i hi
      split
      · rw [Nat.testBit_or, hi, Bool.true_or]
      · exact hi
    rcases List.mem_cons.1 h with rfl | h
    · refine passG_sub K sy rs _ _ ?_
      rw [if_pos hok, Nat.testBit_or, Nat.testBit_two_pow_self, Bool.or_true]
    · exact passG_mem K sy rs _ r h (all_mono (fun x _ => okS_mono hsub x) hok)
/-- what a pass adds was called for -/
theorem passG_in (K : Int) (sy : Bool) (D : Nat → Bool) : ∀ (rs : List S38) (S : Nat), (∀ i, S.testBit i = true → D i = true) →
    (∀ r ∈ rs, ∀ T : Nat, (∀ i, T.testBit i = true → D i = true) → r.f1.all (okS K sy T) = true → D r.f0.toNat = true) → ∀ i, (passG K sy rs S).testBit i = true → D i = true
  | [], _, h, _, i, hi => h i hi
  | r :: rs, S, h, hc, i, hi => by
    unfold passG at hi
    rw [List.foldl_cons] at hi
    refine passG_in K sy D rs _ ?_ (fun q hq => hc q (by simp [hq])) i hi
    intro j hj
    split at hj
    · rename_i c
      rw [Nat.testBit_or, Bool.or_eq_true] at hj
      rcases hj with hj | hj
      · exact h j hj
      · rw [Nat.testBit_two_pow, decide_eq_true_eq] at hj
        subst hj
        exact hc r (by simp) S h c
    · exact h j hj
theorem mkG_step (K : Int) (sy : Bool) (rs : List S38) : ∀ (d : Nat) (x : Int), mkG K sy rs d x = true → mkG K sy rs (d + 1) x = true
  | 0, x, h => by
    unfold mkG at h ⊢
    split
    · rename_i c; rwa [if_pos c] at h
    · rename_i c; rw [if_neg c] at h; cases h
  | d + 1, x, h => by
    unfold mkG at h ⊢
    split
    · rename_i c; rwa [if_pos c] at h
    · rename_i c; rw [if_neg c, List.any_eq_true] at h
      obtain ⟨r, hr, h⟩ := h
      rw [List.any_eq_true]
      rw [Bool.and_eq_true] at h
      exact ⟨r, hr, by rw [Bool.and_eq_true]; exact ⟨h.1, all_mono (fun y _ => mkG_step K sy rs d y) h.2⟩⟩
theorem mkG_stop {K N st : Int} {rs : List S38} (G : GOK K N st rs) (sy : Bool) : ∀ x : Int, x < K + N → mkG K sy rs (N.toNat + 1) x = mkG K sy rs N.toNat x := by
  have stab : ∀ d, (∀ i, i < N.toNat → mkG K sy rs (d + 1) (K + (i : Int)) = mkG K sy rs d (K + (i : Int))) → ∀ x : Int, x < K + N → mkG K sy rs (d + 1) x = mkG K sy rs d x := by
    intro d h x hx
    by_cases c : x < K
    · cases d <;> simp only [mkG, if_pos c]
    · have := h (x - K).toNat (by omega)
      rwa [show K + ((x - K).toNat : Int) = x by omega] at this
  have key := chain_stop N.toNat (fun d i => mkG K sy rs d (K + (i : Int))) (fun d i _ h => mkG_step K sy rs d _ h) (by
    intro d h i hi
    have h2 := stab d h
    show mkG K sy rs (d + 2) (K + (i : Int)) = mkG K sy rs (d + 1) (K + (i : Int))
    have c : ¬ (K + (i : Int) < K) := by omega
    simp only [mkG, if_neg c]
    rw [Bool.eq_iff_iff, List.any_eq_true, List.any_eq_true]
    have e : ∀ r ∈ rs, r.f1.all (mkG K sy rs (d + 1)) = r.f1.all (mkG K sy rs d) := by
      intro r hr
      rw [Bool.eq_iff_iff]
      exact ⟨all_mono (fun x hx q => by rw [← h2 x (G.x1 r hr x hx)]; exact q), all_mono (fun x hx q => by rw [h2 x (G.x1 r hr x hx)]; exact q)⟩
    constructor
    · rintro ⟨r, hr, q⟩
      refine ⟨r, hr, ?_⟩
      have e1 := e r hr
      simp only [mkG] at e1
      rwa [e1] at q
    · rintro ⟨r, hr, q⟩
      refine ⟨r, hr, ?_⟩
      have e1 := e r hr
      simp only [mkG] at e1
      rwa [e1])
  exact stab N.toNat key
theorem leastG_eq {K N st : Int} {rs : List S38} (G : GOK K N st rs) (sy : Bool) : leastG K N sy rs = maskB (fun i => mkG K sy rs N.toNat (K + (i : Int))) N.toNat := by
  have hK := G.K0; have hN := G.N0
  apply Nat.eq_of_testBit_eq
  intro i
  rw [maskB_bit]
  have hlt : leastG K N sy rs < 2 ^ N.toNat := rep_lt _ _ (fun s hs => passG_lt K sy N.toNat rs s (fun r hr => by have := G.r0 r hr; have := G.r1 r hr; omega) hs) _ _ (Nat.two_pow_pos _)
  by_cases hi : i < N.toNat
  · rw [decide_eq_true hi, Bool.true_and, Bool.eq_iff_iff]
    constructor
    · -- what is in the passes has a tree
      have key : ∀ n, ∀ j, (rep (passG K sy rs) n 0).testBit j = true → mkG K sy rs N.toNat (K + (j : Int)) = true := by
        intro n
        induction n with
        | zero => intro j hj; simp [rep] at hj
        | succ n ih =>
          rw [rep_succ]
          refine passG_in K sy (fun j => mkG K sy rs N.toNat (K + (j : Int))) rs _ ih ?_
          intro r hr T hT hok
          show mkG K sy rs N.toNat (K + (r.f0.toNat : Int)) = true
          have h0 := G.r0 r hr
          have h1 := G.r1 r hr
          rw [← mkG_stop G sy _ (by omega)]
          have c : ¬ (K + (r.f0.toNat : Int) < K) := by omega
          simp only [mkG, if_neg c]
          rw [List.any_eq_true]
          refine ⟨r, hr, ?_⟩
          rw [Bool.and_eq_true]
          refine ⟨by rw [beq_iff_eq]; omega, all_mono (fun x hx q => ?_) hok⟩
          unfold okS at q
          by_cases c2 : x < K
          · rw [if_pos c2] at q
            cases e : N.toNat <;> simp only [mkG, if_pos c2, q]
          · rw [if_neg c2] at q
            have := hT _ q
            rwa [show K + ((x - K).toNat : Int) = x by omega] at this
      exact key _ i
    · have key : ∀ d, ∀ j : Nat, mkG K sy rs d (K + (j : Int)) = true → (rep (passG K sy rs) d 0).testBit j = true := by
        intro d
        induction d with
        | zero => intro j hj; unfold mkG at hj; rw [if_neg (by omega)] at hj; cases hj
        | succ d ih =>
          intro j hj
          unfold mkG at hj
          rw [if_neg (by omega), List.any_eq_true] at hj
          obtain ⟨r, hr, h⟩ := hj
          rw [Bool.and_eq_true, beq_iff_eq] at h
          rw [rep_succ]
          have := passG_mem K sy rs (rep (passG K sy rs) d 0) r hr (all_mono (fun x hx q => ?_) h.2)
          · rwa [show r.f0.toNat = j by omega] at this
          · unfold okS
            by_cases c : x < K
            · rw [if_pos c]
              cases d <;> simpa only [mkG, if_pos c] using q
            · rw [if_neg c]
              exact ih (x - K).toNat (by rwa [show K + ((x - K).toNat : Int) = x by omega])
      exact key _ i
  · rw [decide_eq_false hi, Bool.false_and]
    exact Nat.testBit_lt_two_pow (Nat.lt_of_lt_of_le hlt (Nat.pow_le_pow_right (by omega) (by omega)))
section
variable (K N st : Int) (rs : List S38) (G : GOK K N st rs) (sy : Bool)
include G
theorem lt32G {S : Nat} (h : S < 2 ^ N.toNat) : S < 2 ^ 32 := Nat.lt_of_lt_of_le h (Nat.pow_le_pow_right (by omega) (by have := G.N1; omega))
theorem leastBad (S : Nat) (hS : S < 2 ^ N.toNat) (l : List Int) (hl : ∀ x ∈ l, 0 ≤ x ∧ x < K + N) : grammar_Least_1_any.f l K N st rs sy (S : Int) = some (!(l.all (okS K sy S))) := by
  have hK := G.K0; have hK1 := G.K1; have hN := G.N0; have hN1 := G.N1
  unfold grammar_Least_1_any.f
  rw [anyO_of (p := fun x => !(okS K sy S x)), List.all_eq_not_any_not]
  · simp
  intro x hx
  have h0 := hl x hx
  unfold grammar_Least_1.f okS
  by_cases c : x < K
  · simp only [if_pos c, if_neg (show ¬ x ≥ K by omega)]
    cases sy <;> rfl
  · obtain ⟨i, hi⟩ := Int.eq_ofNat_of_zero_le (show 0 ≤ x - K by omega)
    have h32 := lt32G K N st rs G hS
    simp only [if_neg c, if_pos (show x ≥ K by omega), w64 (show -9223372036854775808 ≤ x - K by omega) (by omega), if_pos (show 0 ≤ x - K by omega)]
    rw [hi, bit_shr0 S i h32 (by omega), Int.toNat_natCast]
theorem least_l0 (d : Nat) : ∀ (j : Int) (S : Nat), 0 ≤ j → j + d = N → S < 2 ^ N.toNat → Ev (fun k => grammar_Least.l0 k N j K N st rs sy (S : Int)) ((rep (passG K sy rs) d S : Nat) : Int) := by
  have hlen := G.len; have hN1 := G.N1
  induction d with
  | zero =>
    intro j S h0 h1 hS
    refine Ev.step (fun k => grammar_Least.l0.eq_2 _ _ _ _ _ _ _ _ k) ?_
    simp (disch := omega) only [if_neg]; exact Ev.now _
  | succ d ih =>
    intro j S h0 h1 hS
    refine Ev.step (fun k => grammar_Least.l0.eq_2 _ _ _ _ _ _ _ _ k) ?_
    simp (disch := omega) only [if_pos]
    refine Ev.loop (L := fun k i (T : Nat) => grammar_Least.l1 k N j rs (rs.length : Int) i K N st rs sy (T : Int)) (n := rs.length) (fun i T => T < 2 ^ N.toNat ∧ passG K sy (rs.drop i.toNat) T = passG K sy rs S) ?_ ?_ 0 S (Int.le_refl _) (by omega) ⟨hS, rfl⟩
    · intro T hT
      refine Ev.step (fun k => grammar_Least.l1.eq_2 _ _ _ _ _ _ _ _ _ _ _ k) ?_
      simp (disch := omega) only [if_neg, w64]
      have e : T = passG K sy rs S := by have := hT.2; rw [Int.toNat_natCast, List.drop_length] at this; exact this
      have := ih (j + 1) T (by omega) (by omega) hT.1
      rw [e] at this ⊢; exact this
    · intro i T h2 h3 hT
      right
      have hm := rule_mem h2 h3
      obtain ⟨hT1, hT2⟩ := hT
      rw [rd_rule h2 h3] at hT2
      unfold passG at hT2
      rw [List.foldl_cons] at hT2
      obtain ⟨q, hq⟩ := Int.eq_ofNat_of_zero_le (G.r0 _ hm)
      have hq1 := G.r1 _ hm
      refine ⟨if (rd_T38 rs i).f1.all (okS K sy T) = true then T ||| 2 ^ (rd_T38 rs i).f0.toNat else T, ⟨?_, hT2⟩, ?_⟩
      · split
        · exact Nat.or_lt_two_pow hT1 (Nat.pow_lt_pow_right (by omega) (by omega))
        · exact hT1
      · intro h
        refine Ev.step (fun k => grammar_Least.l1.eq_2 _ _ _ _ _ _ _ _ _ _ _ k) ?_
        simp (disch := omega) only [if_pos, w64, leastBad K N st rs G sy T hT1 _ (fun x hx => ⟨G.x0 _ hm x hx, G.x1 _ hm x hx⟩), Option.bind_some]
        cases c : (rd_T38 rs i).f1.all (okS K sy T) with
        | false => simp only [c, Bool.false_eq_true, if_false] at h; simp only [Bool.not_false, if_true]; exact h
        | true =>
          simp only [c, if_true, hq, Int.toNat_natCast] at h
          simp only [Bool.not_true, Bool.false_eq_true, if_false, hq, bit_or T q (lt32G K N st rs G hT1) (by omega)]; exact h
theorem least_ev : Ev (fun k => grammar_Least.f k K N st rs sy) ((leastG K N sy rs : Nat) : Int) := by
  unfold grammar_Least.f
  exact least_l0 K N st rs G sy N.toNat 0 0 (by omega) (by have := G.N0; omega) (Nat.two_pow_pos _)
theorem least_lt : leastG K N sy rs < 2 ^ N.toNat := rep_lt _ _ (fun s hs => passG_lt K sy N.toNat rs s (fun r hr => by have := G.r0 r hr; have := G.r1 r hr; omega) hs) _ _ (Nat.two_pow_pos _)
end

/-! ### the document's trees, by depth -/
section
variable (K N st : Int) (rs : List S38) (G : GOK K N st rs) (vo : Bool)
include G
theorem refMakes_ev (d : Nat) (hd : d ≤ 5) : ∀ x : Int, 0 ≤ x → x < K + N → Ev (fun k => coppicerref_Makes.f k K N st rs x (d : Int) vo) (mkG K (!vo) rs d x) := by
  have hK := G.K0; have hK1 := G.K1; have hN := G.N0; have hN1 := G.N1; have hlen := G.len
  induction d with
  | zero =>
    intro x h0 h1
    refine Ev.step (fun k => coppicerref_Makes.f.eq_2 _ _ _ _ _ _ _ k) ?_
    unfold mkG
    by_cases c : x < K
    · simp only [if_pos c]; exact Ev.now _
    · simp only [if_neg c, if_pos (show ((0 : Nat) : Int) = 0 from rfl)]; exact Ev.now _
  | succ d ih =>
    intro x h0 h1
    refine Ev.step (fun k => coppicerref_Makes.f.eq_2 _ _ _ _ _ _ _ k) ?_
    unfold mkG
    by_cases c : x < K
    · simp only [if_pos c]; exact Ev.now _
    simp only [if_neg c, if_neg (show ¬ ((d + 1 : Nat) : Int) = 0 by omega)]
    have hr : (rs.any fun r => r.f0 == x - K && r.f1.all (mkG K (!vo) rs d)) = (if (rs.any fun r => r.f0 == x - K && r.f1.all (mkG K (!vo) rs d)) = true then true else false) := by
      cases (rs.any fun r => r.f0 == x - K && r.f1.all (mkG K (!vo) rs d)) <;> simp
    rw [hr]
    have inner : ∀ (i : Int) (R : Bool), 0 ≤ i → i < rs.length → (rd_T38 rs i).f0 = x - K → ((rd_T38 rs i).f1.all (mkG K (!vo) rs d) = true → R = true) →
        ((rd_T38 rs i).f1.all (mkG K (!vo) rs d) = false → Ev (fun k => coppicerref_Makes.l0 k x ((d + 1 : Nat) : Int) vo rs (rs.length : Int) (i + 1) K N st rs) R) →
        Ev (fun k => coppicerref_Makes.l1 k x ((d + 1 : Nat) : Int) vo true rs (rs.length : Int) i (rd_T38 rs i).f1 (((rd_T38 rs i).f1.length : Nat) : Int) 0 K N st rs) R := by
      intro i R h2 h3 _ hyes hno
      have hm := rule_mem h2 h3
      have hl4 := G.rl _ hm
      refine Ev.loop (L := fun k j (ok : Bool) => coppicerref_Makes.l1 k x ((d + 1 : Nat) : Int) vo ok rs (rs.length : Int) i (rd_T38 rs i).f1 (((rd_T38 rs i).f1.length : Nat) : Int) j K N st rs) (n := (rd_T38 rs i).f1.length) (fun j ok => (rd_T38 rs i).f1.all (mkG K (!vo) rs d) = (ok && ((rd_T38 rs i).f1.drop j.toNat).all (mkG K (!vo) rs d))) ?_ ?_ 0 true (Int.le_refl _) (by omega) (by simp)
      · intro ok he
        rw [Int.toNat_natCast, List.drop_length, List.all_nil, Bool.and_true] at he
        refine Ev.step (fun k => coppicerref_Makes.l1.eq_2 _ _ _ _ _ _ _ _ _ _ _ _ _ _ k) ?_
        simp (disch := omega) only [if_neg (show ¬ (((rd_T38 rs i).f1.length : Nat) : Int) < ((rd_T38 rs i).f1.length : Nat) by omega), w64]
        cases ok with
        | true => simp only [if_true]; exact Ev.val (hyes he).symm
        | false => simp only [Bool.false_eq_true, if_false]; exact hno he
      · intro j ok h4 h5 he
        right
        have hx := rd_mem h4 h5
        rw [rd_cons h4 h5, List.all_cons] at he
        cases ok with
        | false =>
          refine ⟨false, by rw [he]; rfl, ?_⟩
          intro h
          refine Ev.step (fun k => coppicerref_Makes.l1.eq_2 _ _ _ _ _ _ _ _ _ _ _ _ _ _ k) ?_
          simp (disch := omega) only [if_pos, w64, Bool.false_eq_true, if_false]
          exact h
        | true =>
          refine ⟨mkG K (!vo) rs d (rd (rd_T38 rs i).f1 j), by rw [he, Bool.true_and], ?_⟩
          intro h
          refine Ev.step (fun k => coppicerref_Makes.l1.eq_2 _ _ _ _ _ _ _ _ _ _ _ _ _ _ k) ?_
          simp (disch := omega) only [if_pos, w64, if_true]
          refine Ev.bind ?_ h
          have := ih (by omega) (rd (rd_T38 rs i).f1 j) (G.x0 _ hm _ hx) (G.x1 _ hm _ hx)
          rwa [show ((d + 1 : Nat) : Int) - 1 = (d : Int) by omega]
    refine Ev.firstBad (L := fun k i => coppicerref_Makes.l0 k x ((d + 1 : Nat) : Int) vo rs (rs.length : Int) i K N st rs) (rdf := rd_T38 rs) (fun i h0 h1 => rd_rule h0 h1) ?_ ?_ ?_
    · intro _
      refine Ev.step (fun k => coppicerref_Makes.l0.eq_2 _ _ _ _ _ _ _ _ _ _ k) ?_
      simp (disch := omega) only [if_neg (show ¬ ((rs.length : Nat) : Int) < rs.length by omega)]; exact Ev.now _
    · intro i h2 h3 hb
      rw [Bool.and_eq_true, beq_iff_eq] at hb
      refine Ev.step (fun k => coppicerref_Makes.l0.eq_2 _ _ _ _ _ _ _ _ _ _ k) ?_
      simp (disch := omega) only [if_pos, w64, hb.1]
      exact inner i true h2 h3 hb.1 (fun _ => rfl) (fun h => by rw [hb.2] at h; cases h)
    · intro i r h2 h3 hb hr
      refine Ev.step (fun k => coppicerref_Makes.l0.eq_2 _ _ _ _ _ _ _ _ _ _ k) ?_
      simp (disch := omega) only [if_pos, w64]
      by_cases e : (rd_T38 rs i).f0 = x - K
      · simp only [if_pos e]
        have hb2 : (rd_T38 rs i).f1.all (mkG K (!vo) rs d) = false := by simpa [e] using hb
        exact inner i r h2 h3 e (fun h => by rw [hb2] at h; cases h) (fun _ => hr)
      · simp only [if_neg e]; exact hr
theorem refNames_ev : Ev (fun k => coppicerref_Names.f k K N st rs vo) ((leastG K N (!vo) rs : Nat) : Int) := by
  have hK := G.K0; have hK1 := G.K1; have hN := G.N0; have hN1 := G.N1
  rw [leastG_eq G]
  unfold coppicerref_Names.f
  refine Ev.loop (L := fun k i (a : Nat) => coppicerref_Names.l0 k vo (a : Int) i K N st rs) (n := N) (fun i a => a = maskB (fun i => mkG K (!vo) rs N.toNat (K + (i : Int))) i.toNat) ?_ ?_ 0 0 (Int.le_refl _) (by omega) rfl
  · intro a ha
    refine Ev.step (fun k => coppicerref_Names.l0.eq_2 _ _ _ _ _ _ _ k) ?_
    simp (disch := omega) only [if_neg (show ¬ N < N by omega)]
    rw [ha]; exact Ev.now _
  · intro i a h0 h1 ha
    right
    obtain ⟨j, rfl⟩ := Int.eq_ofNat_of_zero_le h0
    rw [Int.toNat_natCast] at ha
    have hlt := maskB_lt (fun i => mkG K (!vo) rs N.toNat (K + (i : Int))) j
    have h25 : 2 ^ j ≤ 2 ^ 5 := Nat.pow_le_pow_right (by omega) (by omega)
    refine ⟨maskB (fun i => mkG K (!vo) rs N.toNat (K + (i : Int))) (j + 1), by rw [show ((j : Int) + 1).toNat = j + 1 by omega], ?_⟩
    intro h
    refine Ev.step (fun k => coppicerref_Names.l0.eq_2 _ _ _ _ _ _ _ k) ?_
    simp (disch := omega) only [if_pos, w64]
    have hm := refMakes_ev K N st rs G vo N.toNat (by omega) (K + (j : Int)) (by omega) (by omega)
    rw [show ((N.toNat : Nat) : Int) = N by omega] at hm
    refine Ev.bind hm ?_
    rw [maskB_succ] at h
    cases c : mkG K (!vo) rs N.toNat (K + (j : Int)) with
    | true =>
      simp only [c, if_true] at h
      simp (disch := omega) only [if_true, u64_id, if_pos, shl1 j (by omega)]
      rw [show ((a : Int) + ((2 ^ j : Nat) : Int)) % 4294967296 = ((maskB (fun i => mkG K (!vo) rs N.toNat (K + (i : Int))) j + 2 ^ j : Nat) : Int) by rw [← ha]; omega]
      exact h
    | false =>
      simp only [c, Bool.false_eq_true, if_false, Nat.add_zero] at h
      simp only [Bool.false_eq_true, if_false]
      rw [ha]; exact h
end

theorem GrammarVoids : coppicerlaw_GrammarVoids.Pure := by
  unfold coppicerlaw_GrammarVoids.Pure
  intro K N st rs _ _ _ _
  apply Ev.rounds
  unfold coppicerlaw_GrammarVoids.f grammar_Void.f
  by_cases h : gcode K N st rs = 0
  · have G := gcode_ok h
    have h1 := gcheck_ev K N st rs
    have h2 := rcheck_ev K N st rs
    rw [h] at h1 h2
    refine Ev.bind (Ev.bind h1 (a := 0) (r := (((leastG K N false rs : Nat) : Int), (0 : Int))) ?_) ?_
    · simp only [if_true]
      exact Ev.bind (least_ev K N st rs G false) (Ev.now _)
    refine Ev.bind h2 ?_
    simp only [if_true]
    refine Ev.bind (refNames_ev K N st rs G true) ?_
    simp only [Bool.not_true, beq_self_eq_true]; exact Ev.now _
  · refine Ev.bind (Ev.bind (gcheck_ev K N st rs) (r := ((0 : Int), gcode K N st rs)) ?_) ?_
    · simp only [if_neg h]; exact Ev.now _
    refine Ev.bind (rcheck_ev K N st rs) ?_
    simp only [if_neg h, if_true, beq_self_eq_true]; exact Ev.now _

end Go.Proofs.Ytnjfcbhbebokeaa.Pure
