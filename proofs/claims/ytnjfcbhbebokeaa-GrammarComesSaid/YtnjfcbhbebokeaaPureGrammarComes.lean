/- The law GrammarComes as a statement over numbers and lists alone: it holds under the bounds that the statement names. -/
import Derived.Test.YtnjfcbhbebokeaaStatGrammarComes
set_option linter.unusedVariables false
set_option linter.unusedSimpArgs false
set_option linter.unusedSectionVars false
namespace Go.Proofs.Ytnjfcbhbebokeaa.Pure
open Go.RowKit Go.Proofs.Ytnjfcbhbebokeaa.PGrammarComes Go.Proofs.YtnjfcbhbebokeaaW.PrintWords Go.Proofs.YtnjfcbhbebokeaaW.PrintLast Go.Proofs.YtnjfcbhbebokeaaW.PrintMore

/-! ### base: words for every pure text -/
theorem w64 {x : Int} (h0 : -9223372036854775808 ≤ x) (h1 : x ≤ 9223372036854775807) : wrap64 x = x := by unfold wrap64; omega
theorem Ev.pos {α : Type} {c : Prop} [Decidable c] {g f : Nat → Option α} {r : α} (h : c) (e : Ev g r) : Ev (fun k => if c then g k else f k) r := Ev.congr (fun k => by rw [if_pos h]) e
theorem Ev.neg {α : Type} {c : Prop} [Decidable c] {g f : Nat → Option α} {r : α} (h : ¬ c) (e : Ev f r) : Ev (fun k => if c then g k else f k) r := Ev.congr (fun k => by rw [if_neg h]) e
theorem Ev.val {α : Type} {r q : α} (h : r = q) : Ev (fun _ => some r) q := by subst h; exact Ev.now r
theorem rd_getElem {l : List Int} {i : Int} (h1 : i.toNat < l.length) : rd l i = l[i.toNat] := by simp [rd, List.getD_eq_getElem?_getD, List.getElem?_eq_getElem h1]
theorem drop_rd {l : List Int} {i : Int} (h0 : 0 ≤ i) (h1 : i < l.length) : l.drop i.toNat = rd l i :: l.drop (i + 1).toNat := by
  have h : i.toNat < l.length := by omega
  rw [rd_getElem h, List.drop_eq_getElem_cons h]; congr 2; omega
theorem take_rd {l : List Int} {i : Int} (h0 : 0 ≤ i) (h1 : i < l.length) : l.take (i + 1).toNat = l.take i.toNat ++ [rd l i] := by
  have h : i.toNat < l.length := by omega
  have e : (i + 1).toNat = i.toNat + 1 := by omega
  rw [rd_getElem h, e, List.take_succ_eq_append_getElem h]
theorem rd_drop (l : List Int) (n : Nat) (i : Int) (h0 : 0 ≤ i) : rd (l.drop n) i = rd l (i + n) := by
  have e : (i + n).toNat = n + i.toNat := by omega
  simp only [rd, List.getD_eq_getElem?_getD, List.getElem?_drop, e]
theorem rd_take (l : List Int) (n : Nat) (i : Int) (h0 : 0 ≤ i) (h1 : i < n) : rd (l.take n) i = rd l i := by
  simp only [rd, List.getD_eq_getElem?_getD]; rw [List.getElem?_take_of_lt (by omega)]
theorem drop_all {α : Type} (l : List α) (n : Nat) (h : l.length ≤ n) : l.drop n = [] := List.drop_eq_nil_of_le h
theorem dec_ne {a b : Int} {l m : List Int} (h : a ≠ b) : decide (a :: l = b :: m) = false := decide_eq_false (fun q => h (List.cons.inj q).1)
theorem Ev.no {p : Prop} [Decidable p] (h : ¬ p) : Ev (fun _ => some false) (decide p) := Ev.val (decide_eq_false h).symm
theorem Ev.yes {p : Prop} [Decidable p] (h : p) : Ev (fun _ => some true) (decide p) := Ev.val (decide_eq_true h).symm
theorem ext_rd {a b : List Int} (hl : a.length = b.length) (h : ∀ i : Int, 0 ≤ i → i < a.length → rd a i = rd b i) : a = b := by
  apply List.ext_getElem hl
  intro i h1 h2
  have := h i (by omega) (by omega)
  rwa [rd_getElem (by simpa using h1), rd_getElem (by simpa using h2)] at this
theorem wf_u8 {x : Int} (h : (Lit.int .u8 x).wf = true) : 0 ≤ x ∧ x ≤ 255 := by simpa [Lit.wf, IntKind.min, IntKind.max, IntKind.signed, IntKind.bits] using h
theorem wf_u32 {x : Int} (h : (Lit.int .u32 x).wf = true) : 0 ≤ x ∧ x ≤ 4294967295 := by simpa [Lit.wf, IntKind.min, IntKind.max, IntKind.signed, IntKind.bits] using h
theorem wf_i64 {x : Int} (h : (Lit.int .i64 x).wf = true) : -9223372036854775808 ≤ x ∧ x ≤ 9223372036854775807 := by simpa [Lit.wf, IntKind.min, IntKind.max, IntKind.signed, IntKind.bits] using h
theorem rd_mem {l : List Int} {i : Int} (h0 : 0 ≤ i) (h1 : i < l.length) : rd l i ∈ l := by
  rw [rd_getElem (by omega)]; exact List.getElem_mem _
theorem rd_u8 {l : List Int} (hw : ∀ x ∈ l, (Lit.int .u8 x).wf = true) {i : Int} (h0 : 0 ≤ i) (h1 : i < l.length) : 0 ≤ rd l i ∧ rd l i ≤ 255 := wf_u8 (hw _ (rd_mem h0 h1))
theorem tm {a b : Int} (h : 0 ≤ a) : Int.tmod a b = a % b := Int.tmod_eq_emod_of_nonneg h
theorem td {a b : Int} (h : 0 ≤ a) : Int.tdiv a b = a / b := Int.tdiv_eq_ediv_of_nonneg h

/-! ### words of 32 bits as natural numbers -/
theorem u32_id {x : Int} (h0 : 0 ≤ x) (h1 : x ≤ 4294967295) : IntKind.u32.wrap x = x := by rw [IntKind.wrap_u32]; omega
theorem u64_id {x : Int} (h0 : 0 ≤ x) (h1 : x ≤ 18446744073709551615) : IntKind.u64.wrap x = x := by simp [IntKind.wrap, IntKind.bits, IntKind.signed]; omega
theorem u32_or (a b : Nat) (ha : a < 2 ^ 32) (hb : b < 2 ^ 32) : Go.bits .or .u32 a b = ((a ||| b : Nat) : Int) :=
  (bits_nat .u32 32 (by decide) (fun n h0 h1 => u32_id h0 (by omega)) a b ha hb).2
theorem u32_and (a b : Nat) (ha : a < 2 ^ 32) (hb : b < 2 ^ 32) : Go.bits .and .u32 a b = ((a &&& b : Nat) : Int) :=
  (bits_nat .u32 32 (by decide) (fun n h0 h1 => u32_id h0 (by omega)) a b ha hb).1
theorem shl1 (n : Nat) (h : n < 32) : shl .u32 1 (n : Int) = ((2 ^ n : Nat) : Int) := by
  unfold shl
  have e : min ((n : Int)).toNat IntKind.u32.bits = n := by simp [IntKind.bits]; omega
  have h2 : 2 ^ n ≤ 2 ^ 31 := Nat.pow_le_pow_right (by omega) (by omega)
  rw [e, Int.one_mul, u32_id (by exact_mod_cast Nat.zero_le _) (by have : ((2 ^ n : Nat) : Int) ≤ 2 ^ 31 := by exact_mod_cast h2
                                                                   have e2 : ((2 : Int) ^ n) = ((2 ^ n : Nat) : Int) := by simp
                                                                   omega)]
  simp
theorem shrn (a n : Nat) (h : n < 32) : shr .u32 (a : Int) (n : Int) = ((a / 2 ^ n : Nat) : Int) := by
  unfold shr
  have e : min ((n : Int)).toNat IntKind.u32.bits = n := by simp [IntKind.bits]; omega
  rw [e]; simp

/-! ### sets of small numbers: bits of a natural number -/
theorem bit_shr (a i : Nat) (ha : a < 2 ^ 32) (hi : i < 32) : (Go.bits .and .u32 (shr .u32 (a : Int) (i : Int)) 1 = 1) ↔ a.testBit i = true := by
  rw [shrn a i hi]
  have h1 : a / 2 ^ i < 2 ^ 32 := Nat.lt_of_le_of_lt (Nat.div_le_self _ _) ha
  have h2 := u32_and (a / 2 ^ i) 1 h1 (by decide)
  have h3 : ((1 : Nat) : Int) = 1 := rfl
  rw [h3] at h2
  rw [h2, Nat.and_one_is_mod, Nat.testBit_eq_decide_div_mod_eq]
  simp only [decide_eq_true_eq]; omega
theorem bit_and (a i : Nat) (ha : a < 2 ^ 32) (hi : i < 32) : (Go.bits .and .u32 (a : Int) (shl .u32 1 (i : Int)) != 0) = a.testBit i := by
  have h0 : 2 ^ i < 2 ^ 32 := Nat.pow_lt_pow_right (by omega) hi
  rw [shl1 i hi, u32_and a (2 ^ i) ha h0]
  cases h : a.testBit i with
  | true =>
    have : a &&& 2 ^ i ≠ 0 := fun e => by
      have q := congrArg (fun x => Nat.testBit x i) e
      simp [Nat.testBit_and, Nat.testBit_two_pow_self, h] at q
    simp; omega
  | false =>
    have : a &&& 2 ^ i = 0 := by
      apply Nat.eq_of_testBit_eq
      intro j
      by_cases e : i = j
      · subst e; simp [Nat.testBit_and, h]
      · simp [Nat.testBit_and, Nat.testBit_two_pow, e]
    rw [this]; rfl
theorem bit_or (a i : Nat) (ha : a < 2 ^ 32) (hi : i < 32) : Go.bits .or .u32 (a : Int) (shl .u32 1 (i : Int)) = ((a ||| 2 ^ i : Nat) : Int) := by
  have h0 : 2 ^ i < 2 ^ 32 := Nat.pow_lt_pow_right (by omega) hi
  rw [shl1 i hi, u32_or a (2 ^ i) ha h0]
def cnt : Nat → Nat → Nat
  | 0, _ => 0
  | n + 1, s => cnt n s + (s.testBit n).toNat
theorem cnt_le : ∀ n s, cnt n s ≤ n
  | 0, _ => Nat.le_refl _
  | n + 1, s => by
    have := cnt_le n s
    unfold cnt
    cases s.testBit n <;> simp <;> omega
theorem cnt_mono (s t : Nat) (h : ∀ i, s.testBit i = true → t.testBit i = true) : ∀ n, cnt n s ≤ cnt n t
  | 0 => Nat.le_refl _
  | n + 1 => by
    have := cnt_mono s t h n
    have h1 := h n
    unfold cnt
    cases q : s.testBit n
    · simp; omega
    · rw [h1 q]; simp; omega
theorem cnt_lt (s t : Nat) (h : ∀ i, s.testBit i = true → t.testBit i = true) (i : Nat) (hs : s.testBit i = false) (ht : t.testBit i = true) : ∀ n, i < n → cnt n s < cnt n t
  | 0, hi => by omega
  | n + 1, hi => by
    have h1 := h n
    have h2 := cnt_mono s t h n
    unfold cnt
    by_cases e : i = n
    · subst e; rw [hs, ht]; simp; omega
    · have := cnt_lt s t h i hs ht n (by omega)
      cases q : s.testBit n
      · simp; omega
      · rw [h1 q]; simp; omega
theorem bits_ne {s t n : Nat} (hs : s < 2 ^ n) (ht : t < 2 ^ n) (h : ∀ i, s.testBit i = true → t.testBit i = true) (hne : t ≠ s) : ∃ i, i < n ∧ s.testBit i = false ∧ t.testBit i = true := by
  rcases Classical.em (∃ i, i < n ∧ s.testBit i = false ∧ t.testBit i = true) with q | q
  · exact q
  · exfalso; apply hne
    apply Nat.eq_of_testBit_eq
    intro i
    by_cases hi : i < n
    · cases e : s.testBit i with
      | true => exact h i e
      | false =>
        cases e2 : t.testBit i with
        | false => rfl
        | true => exact absurd ⟨i, hi, e, e2⟩ q
    · have h2 : 2 ^ n ≤ 2 ^ i := Nat.pow_le_pow_right (by omega) (by omega)
      rw [Nat.testBit_lt_two_pow (Nat.lt_of_lt_of_le hs h2), Nat.testBit_lt_two_pow (Nat.lt_of_lt_of_le ht h2)]
/-! a step that only adds, again and again -/
def rep (P : Nat → Nat) : Nat → Nat → Nat
  | 0, s => s
  | n + 1, s => rep P n (P s)
theorem rep_fix (P : Nat → Nat) (s : Nat) (h : P s = s) : ∀ n, rep P n s = s
  | 0 => rfl
  | n + 1 => by unfold rep; rw [h]; exact rep_fix P s h n
theorem rep_succ (P : Nat → Nat) : ∀ n s, rep P (n + 1) s = P (rep P n s)
  | 0, _ => rfl
  | n + 1, s => by
    show rep P (n + 1) (P s) = P (rep P n (P s))
    exact rep_succ P n (P s)
theorem rep_lt (P : Nat → Nat) (b : Nat) (h : ∀ s, s < b → P s < b) : ∀ n s, s < b → rep P n s < b
  | 0, _, hs => hs
  | n + 1, s, hs => rep_lt P b h n (P s) (h s hs)

/-! ### loops, round by round -/
theorem anyO_some {α : Type} (p : α → Bool) : ∀ l : List α, anyO (fun x => some (p x)) l = some (l.any p)
  | [] => rfl
  | x :: l => by
    unfold anyO
    rw [Option.bind_some, anyO_some p l, List.any_cons]
    cases p x <;> simp
theorem anyO_of {α : Type} {f : α → Option Bool} {p : α → Bool} {l : List α} (h : ∀ x ∈ l, f x = some (p x)) : anyO f l = some (l.any p) := by
  induction l with
  | nil => rfl
  | cons x l ih =>
    unfold anyO
    rw [h x (by simp), Option.bind_some, ih (fun y hy => h y (by simp [hy])), List.any_cons]
    cases p x <;> simp
theorem Ev.loop {σ ρ : Type} {L : Nat → Int → σ → Option ρ} {n : Int} {r : ρ} (I : Int → σ → Prop)
    (hend : ∀ s, I n s → Ev (fun k => L k n s) r)
    (hstep : ∀ i s, 0 ≤ i → i < n → I i s → Ev (fun k => L k i s) r ∨ ∃ s', I (i + 1) s' ∧ (Ev (fun k => L k (i + 1) s') r → Ev (fun k => L k i s) r)) :
    ∀ (i : Int) (s : σ), 0 ≤ i → i ≤ n → I i s → Ev (fun k => L k i s) r := by
  have key : ∀ (d : Nat) (i : Int) (s : σ), 0 ≤ i → i + d = n → I i s → Ev (fun k => L k i s) r := by
    intro d
    induction d with
    | zero => intro i s h0 h1 hI; obtain rfl : i = n := by omega
              exact hend s hI
    | succ d ih =>
      intro i s h0 h1 hI
      rcases hstep i s h0 (by omega) hI with h | ⟨s', h', h⟩
      · exact h
      · exact h (ih (i + 1) s' (by omega) (by omega) h')
  intro i s h0 h1 hI
  exact key (n - i).toNat i s h0 (by omega) hI
/-- The first element that is bad ends a loop. -/
theorem Ev.firstBad {α ρ : Type} {L : Nat → Int → Option ρ} {l : List α} {rdf : Int → α} {bad : α → Bool} {c fin : ρ}
    (hrd : ∀ i : Int, 0 ≤ i → i < l.length → l.drop i.toNat = rdf i :: l.drop (i + 1).toNat)
    (hend : l.any bad = false → Ev (fun k => L k l.length) fin)
    (hbad : ∀ i : Int, 0 ≤ i → i < l.length → bad (rdf i) = true → Ev (fun k => L k i) c)
    (hgood : ∀ (i : Int) (r : ρ), 0 ≤ i → i < l.length → bad (rdf i) = false → Ev (fun k => L k (i + 1)) r → Ev (fun k => L k i) r) :
    Ev (fun k => L k 0) (if l.any bad = true then c else fin) := by
  refine Ev.loop (σ := Unit) (L := fun k i _ => L k i) (n := l.length) (fun i _ => l.any bad = (l.drop i.toNat).any bad) ?_ ?_ 0 () (Int.le_refl _) (by omega) rfl
  · intro _ h
    rw [Int.toNat_natCast, List.drop_length] at h
    have h : l.any bad = false := h
    rw [h]; exact hend h
  · intro i _ h0 h1 h
    rw [hrd i h0 h1, List.any_cons] at h
    cases hb : bad (rdf i) with
    | true => left; rw [h, hb]; exact hbad i h0 h1 hb
    | false => right; refine ⟨(), by rw [h, hb]; rfl, hgood i _ h0 h1 hb⟩
theorem rd_cons {l : List Int} {i : Int} (h0 : 0 ≤ i) (h1 : i < l.length) : l.drop i.toNat = rd l i :: l.drop (i + 1).toNat := drop_rd h0 h1

/-! ### masks of small sets -/
def maskB (p : Nat → Bool) : Nat → Nat
  | 0 => 0
  | n + 1 => maskB p n + (if p n = true then 2 ^ n else 0)
theorem maskB_succ (p : Nat → Bool) (n : Nat) : maskB p (n + 1) = maskB p n + (if p n = true then 2 ^ n else 0) := rfl
theorem maskB_lt (p : Nat → Bool) : ∀ n, maskB p n < 2 ^ n
  | 0 => by simp [maskB]
  | n + 1 => by
    have := maskB_lt p n
    have e : 2 ^ (n + 1) = 2 ^ n + 2 ^ n := by rw [Nat.pow_succ]; omega
    unfold maskB
    split <;> omega
theorem maskB_bit (p : Nat → Bool) (i : Nat) : ∀ n, (maskB p n).testBit i = (decide (i < n) && p i)
  | 0 => by simp [maskB]
  | n + 1 => by
    have h := maskB_bit p i n
    have hl := maskB_lt p n
    unfold maskB
    cases hp : p n with
    | false =>
      simp only [Bool.false_eq_true, if_false, Nat.add_zero, h]
      by_cases e : i = n
      · subst e; simp [hp]
      · have : decide (i < n) = decide (i < n + 1) := by congr 1; apply propext; omega
        rw [this]
    | true =>
      simp only [if_true]
      have e2 := Nat.two_pow_add_eq_or_of_lt hl 1
      rw [Nat.mul_one] at e2
      rw [Nat.add_comm, e2, Nat.testBit_or, Nat.testBit_two_pow, h]
      by_cases e : i = n
      · subst e; simp [hp]
      · have : decide (i < n) = decide (i < n + 1) := by congr 1; apply propext; omega
        rw [this]; simp [show ¬ n = i from fun q => e q.symm]
theorem bit_shr0 (a i : Nat) (ha : a < 2 ^ 32) (hi : i < 32) : (Go.bits .and .u32 (shr .u32 (a : Int) (i : Int)) 1 == 0) = !a.testBit i := by
  rw [shrn a i hi]
  have h1 : a / 2 ^ i < 2 ^ 32 := Nat.lt_of_le_of_lt (Nat.div_le_self _ _) ha
  have h2 := u32_and (a / 2 ^ i) 1 h1 (by decide)
  have h3 : ((1 : Nat) : Int) = 1 := rfl
  rw [h3] at h2
  rw [h2, Nat.and_one_is_mod, Nat.testBit_eq_decide_div_mod_eq]
  rcases Nat.mod_two_eq_zero_or_one (a / 2 ^ i) with h | h <;> rw [h] <;> rfl
/-! a chain of growing sets stands still in time -/
def cntP (p : Nat → Bool) : Nat → Nat
  | 0 => 0
  | n + 1 => cntP p n + (p n).toNat
theorem cntP_le (p : Nat → Bool) : ∀ n, cntP p n ≤ n
  | 0 => Nat.le_refl _
  | n + 1 => by have := cntP_le p n; unfold cntP; cases p n <;> simp <;> omega
theorem cntP_mono {p q : Nat → Bool} : ∀ n, (∀ i, i < n → p i = true → q i = true) → cntP p n ≤ cntP q n
  | 0, _ => Nat.le_refl _
  | n + 1, h => by
    have := cntP_mono n (fun i hi => h i (by omega))
    have h1 := h n (by omega)
    unfold cntP
    cases e : p n
    · simp; omega
    · rw [h1 e]; simp; omega
theorem cntP_eq {p q : Nat → Bool} : ∀ n, (∀ i, i < n → p i = true → q i = true) → cntP q n ≤ cntP p n → ∀ i, i < n → q i = p i
  | 0, _, _, i, hi => by omega
  | n + 1, h, hc, i, hi => by
    have hm := cntP_mono n (fun i hi => h i (by omega))
    have h1 := h n (by omega)
    unfold cntP at hc
    have hn : q n = p n := by
      cases e : p n
      · cases e2 : q n
        · rfl
        · rw [e, e2] at hc; simp at hc; omega
      · exact h1 e
    rw [hn] at hc
    by_cases e : i = n
    · subst e; exact hn
    · exact cntP_eq n (fun i hi => h i (by omega)) (by omega) i (by omega)
theorem chain_stop (n : Nat) (p : Nat → Nat → Bool) (mono : ∀ d i, i < n → p d i = true → p (d + 1) i = true)
    (stab : ∀ d, (∀ i, i < n → p (d + 1) i = p d i) → ∀ i, i < n → p (d + 2) i = p (d + 1) i) : ∀ i, i < n → p (n + 1) i = p n i := by
  have key : ∀ d, d ≤ cntP (p d) n ∨ ∀ i, i < n → p (d + 1) i = p d i := by
    intro d
    induction d with
    | zero => exact .inl (Nat.zero_le _)
    | succ d ih =>
      rcases ih with ih | ih
      · by_cases h : cntP (p (d + 1)) n ≤ cntP (p d) n
        · exact .inr (stab d (cntP_eq n (mono d) h))
        · exact .inl (by omega)
      · exact .inr (stab d ih)
  rcases key (n + 1) with h | h
  · have := cntP_le (p (n + 1)) n; omega
  · rcases key n with h2 | h2
    · have h3 := cntP_le (p (n + 1)) n
      exact cntP_eq n (mono n) (by omega)
    · exact h2
theorem chain_all (n : Nat) (p : Nat → Nat → Bool) (mono : ∀ d i, i < n → p d i = true → p (d + 1) i = true)
    (stab : ∀ d, (∀ i, i < n → p (d + 1) i = p d i) → ∀ i, i < n → p (d + 2) i = p (d + 1) i) (e : Nat) : ∀ i, i < n → p (n + e) i = p n i := by
  induction e with
  | zero => intro i _; rfl
  | succ e ih =>
    have h : ∀ e, ∀ i, i < n → p (n + e + 1) i = p (n + e) i := by
      intro e
      induction e with
      | zero => exact chain_stop n p mono stab
      | succ e ih2 => exact stab (n + e) ih2
    intro i hi
    rw [← ih i hi]; exact h e i hi

/-! ### grammars: what is wrong -/
theorem rd_rule {l : List S38} {i : Int} (h0 : 0 ≤ i) (h1 : i < l.length) : l.drop i.toNat = rd_T38 l i :: l.drop (i + 1).toNat := by
  have h : i.toNat < l.length := by omega
  have e : rd_T38 l i = l[i.toNat] := by simp [rd_T38, List.getD_eq_getElem?_getD, List.getElem?_eq_getElem h]
  rw [e, List.drop_eq_getElem_cons h]; congr 2; omega
theorem rule_mem {l : List S38} {i : Int} (h0 : 0 ≤ i) (h1 : i < l.length) : rd_T38 l i ∈ l := by
  have h : i.toNat < l.length := by omega
  have e : rd_T38 l i = l[i.toNat] := by simp [rd_T38, List.getD_eq_getElem?_getD, List.getElem?_eq_getElem h]
  rw [e]; exact List.getElem_mem _
def sgnBad (M x : Int) : Bool := decide (x < 0) || decide (x ≥ M)
def ruleBad (K N : Int) (r : S38) : Bool := decide (r.f0 < 0) || (decide (r.f0 ≥ N) || r.f1.any (sgnBad (K + N)))
def gcode (K N st : Int) (rs : List S38) : Int :=
  if K < 1 ∨ K > 3 ∨ N < 1 ∨ N > 5 ∨ (rs.length : Int) > 10 ∨ (rs.any fun r => decide ((r.f1.length : Int) > 4)) = true then 1
  else if st < 0 ∨ st ≥ N then 2 else if rs.any (ruleBad K N) = true then 2 else 0
theorem gcode_bad {K N st : Int} {rs : List S38} (h : K < 1 ∨ K > 3 ∨ N < 1 ∨ N > 5 ∨ (rs.length : Int) > 10 ∨ (rs.any fun r => decide ((r.f1.length : Int) > 4)) = true) : gcode K N st rs = 1 := by unfold gcode; rw [if_pos h]
section
variable (K N st : Int) (rs : List S38) (hK0 : 1 ≤ K) (hK1 : K ≤ 3) (hN0 : 1 ≤ N) (hN1 : N ≤ 5)
include hK0 hK1 hN0 hN1
theorem signs_eq (l : List Int) : grammar_signs.f K N st rs l = some (!(l.any (sgnBad (K + N)))) := by
  unfold grammar_signs.f grammar_signs_1_any.f
  have e : (fun x : Int => grammar_signs_1.f x K N st rs) = fun x => some (sgnBad (K + N) x) := by
    funext x
    unfold grammar_signs_1.f sgnBad
    rw [w64 (by omega) (by omega)]
    by_cases h : x < 0
    · rw [if_pos h]; simp [h]
    · rw [if_neg h]; simp [h]
  rw [e, anyO_some]; rfl
theorem refSigns_ev (l : List Int) (hl : l.length ≤ 140737488351232) : Ev (fun k => coppicerref_Signs.f k K N st rs l) (!(l.any (sgnBad (K + N)))) := by
  unfold coppicerref_Signs.f
  have := Ev.firstBad (L := fun k i => coppicerref_Signs.l0 k l (l.length : Int) i K N st rs) (l := l) (rdf := rd l) (bad := sgnBad (K + N)) (c := false) (fin := true) (fun i h0 h1 => rd_cons h0 h1) ?_ ?_ ?_
  · cases h : l.any (sgnBad (K + N)) <;> rw [h] at this <;> exact this
  · intro _
    refine Ev.step (fun k => coppicerref_Signs.l0.eq_2 _ _ _ _ _ _ _ k) ?_
    simp (disch := omega) only [if_neg]; exact Ev.now _
  · intro i h0 h1 hb
    refine Ev.step (fun k => coppicerref_Signs.l0.eq_2 _ _ _ _ _ _ _ k) ?_
    simp (disch := omega) only [if_pos, w64]
    unfold sgnBad at hb
    by_cases h : rd l i < 0
    · simp only [if_pos h]; exact Ev.now _
    · have h2 : rd l i ≥ K + N := by simpa [h] using hb
      simp only [if_neg h, if_pos h2]; exact Ev.now _
  · intro i r h0 h1 hb hr
    refine Ev.step (fun k => coppicerref_Signs.l0.eq_2 _ _ _ _ _ _ _ k) ?_
    unfold sgnBad at hb
    simp only [Bool.or_eq_false_iff, decide_eq_false_iff_not] at hb
    simp (disch := omega) only [if_pos, if_neg, w64]
    exact hr
theorem gcheck_l0 (hl : rs.length ≤ 10) : Ev (fun k => grammar_Check.l0 k rs (rs.length : Int) 0 K N st rs) (if rs.any (ruleBad K N) = true then 2 else 0) := by
  refine Ev.firstBad (L := fun k i => grammar_Check.l0 k rs (rs.length : Int) i K N st rs) (rdf := rd_T38 rs) (fun i h0 h1 => rd_rule h0 h1) ?_ ?_ ?_
  · intro _
    refine Ev.step (fun k => grammar_Check.l0.eq_2 _ _ _ _ _ _ _ k) ?_
    simp (disch := omega) only [if_neg]; exact Ev.now _
  · intro i h0 h1 hb
    refine Ev.step (fun k => grammar_Check.l0.eq_2 _ _ _ _ _ _ _ k) ?_
    simp (disch := omega) only [if_pos, signs_eq K N st rs hK0 hK1 hN0 hN1, Option.bind_some]
    unfold ruleBad at hb
    by_cases c1 : (rd_T38 rs i).f0 < 0
    · simp only [if_pos c1]; exact Ev.now _
    by_cases c2 : (rd_T38 rs i).f0 ≥ N
    · simp only [if_neg c1, if_pos c2]; exact Ev.now _
    have c3 : (rd_T38 rs i).f1.any (sgnBad (K + N)) = true := by simpa [c1, c2] using hb
    simp only [if_neg c1, if_neg c2, c3, Bool.not_true, Bool.false_eq_true, if_false]; exact Ev.now _
  · intro i r h0 h1 hb hr
    refine Ev.step (fun k => grammar_Check.l0.eq_2 _ _ _ _ _ _ _ k) ?_
    simp (disch := omega) only [if_pos, signs_eq K N st rs hK0 hK1 hN0 hN1, Option.bind_some, w64]
    unfold ruleBad at hb
    simp only [Bool.or_eq_false_iff, decide_eq_false_iff_not] at hb
    simp only [if_neg hb.1, if_neg hb.2.1, hb.2.2, Bool.not_false, if_true]
    exact hr
theorem rcheck_l1 (hl : rs.length ≤ 10) (hr : (rs.any fun r => decide ((r.f1.length : Int) > 4)) = false) : Ev (fun k => coppicerref_GrammarCheck.l1 k rs (rs.length : Int) 0 K N st rs) (if rs.any (ruleBad K N) = true then 2 else 0) := by
  have hs : ∀ i : Int, 0 ≤ i → i < rs.length → (rd_T38 rs i).f1.length ≤ 4 := by
    intro i h0 h1
    have := (List.any_eq_false.1 hr) _ (rule_mem h0 h1)
    simp only [decide_eq_true_eq] at this; omega
  refine Ev.firstBad (L := fun k i => coppicerref_GrammarCheck.l1 k rs (rs.length : Int) i K N st rs) (rdf := rd_T38 rs) (fun i h0 h1 => rd_rule h0 h1) ?_ ?_ ?_
  · intro _
    refine Ev.step (fun k => coppicerref_GrammarCheck.l1.eq_2 _ _ _ _ _ _ _ k) ?_
    simp (disch := omega) only [if_neg]; exact Ev.now _
  · intro i h0 h1 hb
    refine Ev.step (fun k => coppicerref_GrammarCheck.l1.eq_2 _ _ _ _ _ _ _ k) ?_
    simp (disch := omega) only [if_pos]
    unfold ruleBad at hb
    by_cases c1 : (rd_T38 rs i).f0 < 0
    · simp only [if_pos c1]; exact Ev.now _
    by_cases c2 : (rd_T38 rs i).f0 ≥ N
    · simp only [if_neg c1, if_pos c2]; exact Ev.now _
    have c3 : (rd_T38 rs i).f1.any (sgnBad (K + N)) = true := by simpa [c1, c2] using hb
    simp only [if_neg c1, if_neg c2]
    refine Ev.bind (refSigns_ev K N st rs hK0 hK1 hN0 hN1 _ (by have := hs i h0 h1; omega)) ?_
    simp only [c3, Bool.not_true, Bool.false_eq_true, if_false]; exact Ev.now _
  · intro i r h0 h1 hb hr
    refine Ev.step (fun k => coppicerref_GrammarCheck.l1.eq_2 _ _ _ _ _ _ _ k) ?_
    simp (disch := omega) only [if_pos, w64]
    unfold ruleBad at hb
    simp only [Bool.or_eq_false_iff, decide_eq_false_iff_not] at hb
    simp only [if_neg hb.1, if_neg hb.2.1]
    refine Ev.bind (refSigns_ev K N st rs hK0 hK1 hN0 hN1 _ (by have := hs i h0 h1; omega)) ?_
    simp only [hb.2.2, Bool.not_false, if_true]
    exact hr
end
theorem gcheck_ev (K N st : Int) (rs : List S38) : Ev (fun k => grammar_Check.f k K N st rs) (gcode K N st rs) := by
  unfold grammar_Check.f
  have bad : (K < 1 ∨ K > 3 ∨ N < 1 ∨ N > 5 ∨ (rs.length : Int) > 10 ∨ (rs.any fun r => decide ((r.f1.length : Int) > 4)) = true) → Ev (fun k => grammar_Check.j0 k true K N st rs) (gcode K N st rs) := by
    intro h
    rw [gcode_bad h]
    refine Ev.step (fun k => grammar_Check.j0.eq_2 _ _ _ _ _ k) ?_
    simp only [if_true]; exact Ev.now _
  by_cases c1 : K < 1
  · simp only [if_pos c1]; exact bad (by omega)
  by_cases c2 : K > 3
  · simp only [if_neg c1, if_pos c2]; exact bad (by omega)
  by_cases c3 : N < 1
  · simp only [if_neg c1, if_neg c2, if_pos c3]; exact bad (by omega)
  by_cases c4 : N > 5
  · simp only [if_neg c1, if_neg c2, if_neg c3, if_pos c4]; exact bad (by omega)
  by_cases c5 : (rs.length : Int) > 10
  · simp only [if_neg c1, if_neg c2, if_neg c3, if_neg c4, if_pos c5]; exact bad (by omega)
  simp only [if_neg c1, if_neg c2, if_neg c3, if_neg c4, if_neg c5]
  have e : grammar_Check_1_any.f rs = some (rs.any fun r => decide ((r.f1.length : Int) > 4)) := anyO_some _ rs
  simp only [e, Option.bind_some]
  cases c6 : (rs.any fun r => decide ((r.f1.length : Int) > 4)) with
  | true => exact bad (.inr (.inr (.inr (.inr (.inr c6)))))
  | false =>
    refine Ev.step (fun k => grammar_Check.j0.eq_2 _ _ _ _ _ k) ?_
    have hg : gcode K N st rs = if st < 0 ∨ st ≥ N then 2 else if rs.any (ruleBad K N) = true then 2 else 0 := by
      unfold gcode; rw [if_neg (by rw [c6]; simp; omega)]
    have j1t : (st < 0 ∨ st ≥ N) → Ev (fun k => grammar_Check.j1 k true K N st rs) (gcode K N st rs) := by
      intro h
      rw [hg, if_pos h]
      refine Ev.step (fun k => grammar_Check.j1.eq_2 _ _ _ _ _ k) ?_
      simp only [if_true]; exact Ev.now _
    simp only [Bool.false_eq_true, if_false]
    by_cases d1 : st < 0
    · simp only [if_pos d1]; exact j1t (.inl d1)
    by_cases d2 : st ≥ N
    · simp only [if_neg d1, decide_eq_true d2]; exact j1t (.inr d2)
    · simp only [if_neg d1, decide_eq_false d2]
      rw [hg, if_neg (by omega)]
      refine Ev.step (fun k => grammar_Check.j1.eq_2 _ _ _ _ _ k) ?_
      simp only [Bool.false_eq_true, if_false]
      exact gcheck_l0 K N st rs (by omega) (by omega) (by omega) (by omega) (by omega)
theorem rcheck_ev (K N st : Int) (rs : List S38) : Ev (fun k => coppicerref_GrammarCheck.f k K N st rs) (gcode K N st rs) := by
  unfold coppicerref_GrammarCheck.f
  have bad : (K < 1 ∨ K > 3 ∨ N < 1 ∨ N > 5 ∨ (rs.length : Int) > 10 ∨ (rs.any fun r => decide ((r.f1.length : Int) > 4)) = true) → Ev (fun k => coppicerref_GrammarCheck.j0 k true K N st rs) (gcode K N st rs) := by
    intro h
    rw [gcode_bad h]
    refine Ev.step (fun k => coppicerref_GrammarCheck.j0.eq_2 _ _ _ _ _ k) ?_
    simp only [if_true]; exact Ev.now _
  by_cases c1 : K < 1
  · simp only [if_pos c1]; exact bad (by omega)
  by_cases c2 : K > 3
  · simp only [if_neg c1, if_pos c2]; exact bad (by omega)
  by_cases c3 : N < 1
  · simp only [if_neg c1, if_neg c2, if_pos c3]; exact bad (by omega)
  by_cases c4 : N > 5
  · simp only [if_neg c1, if_neg c2, if_neg c3, if_pos c4]; exact bad (by omega)
  simp only [if_neg c1, if_neg c2, if_neg c3, if_neg c4]
  by_cases c5 : (rs.length : Int) > 10
  · simp only [c5, decide_true]; exact bad (by omega)
  simp only [c5, decide_false]
  refine Ev.step (fun k => coppicerref_GrammarCheck.j0.eq_2 _ _ _ _ _ k) ?_
  simp only [Bool.false_eq_true, if_false]
  have hg : gcode K N st rs = if (rs.any fun r => decide ((r.f1.length : Int) > 4)) = true then 1 else if st < 0 ∨ st ≥ N then 2 else if rs.any (ruleBad K N) = true then 2 else 0 := by
    unfold gcode
    cases c6 : (rs.any fun r => decide ((r.f1.length : Int) > 4)) with
    | true => rw [if_pos (by simp), if_pos rfl]
    | false => rw [if_neg (by simp; omega)]; simp only [Bool.false_eq_true, if_false]
  rw [hg]
  refine Ev.firstBad (L := fun k i => coppicerref_GrammarCheck.l0 k rs (rs.length : Int) i K N st rs) (rdf := rd_T38 rs) (fun i h0 h1 => rd_rule h0 h1) ?_ ?_ ?_
  · intro c6
    refine Ev.step (fun k => coppicerref_GrammarCheck.l0.eq_2 _ _ _ _ _ _ _ k) ?_
    simp (disch := omega) only [if_neg]
    have j2t : (st < 0 ∨ st ≥ N) → Ev (fun k => coppicerref_GrammarCheck.j2 k true K N st rs) (if st < 0 ∨ st ≥ N then 2 else if rs.any (ruleBad K N) = true then 2 else 0) := by
      intro h
      rw [if_pos h]
      refine Ev.step (fun k => coppicerref_GrammarCheck.j2.eq_2 _ _ _ _ _ k) ?_
      simp only [if_true]; exact Ev.now _
    by_cases d1 : st < 0
    · simp only [if_pos d1]; exact j2t (.inl d1)
    by_cases d2 : st ≥ N
    · simp only [if_neg d1, decide_eq_true d2]; exact j2t (.inr d2)
    · simp only [if_neg d1, decide_eq_false d2]
      rw [if_neg (by omega)]
      refine Ev.step (fun k => coppicerref_GrammarCheck.j2.eq_2 _ _ _ _ _ k) ?_
      simp only [Bool.false_eq_true, if_false]
      exact rcheck_l1 K N st rs (by omega) (by omega) (by omega) (by omega) (by omega) c6
  · intro i h0 h1 hb
    refine Ev.step (fun k => coppicerref_GrammarCheck.l0.eq_2 _ _ _ _ _ _ _ k) ?_
    simp only [decide_eq_true_eq] at hb
    simp (disch := omega) only [if_pos]; exact Ev.now _
  · intro i r h0 h1 hb hr
    refine Ev.step (fun k => coppicerref_GrammarCheck.l0.eq_2 _ _ _ _ _ _ _ k) ?_
    simp only [decide_eq_false_iff_not] at hb
    simp (disch := omega) only [if_pos, if_neg, w64]; exact hr

/-! ### grammars that may be -/
structure GOK (K N st : Int) (rs : List S38) : Prop where
  K0 : 1 ≤ K
  K1 : K ≤ 3
  N0 : 1 ≤ N
  N1 : N ≤ 5
  len : rs.length ≤ 10
  s0 : 0 ≤ st
  s1 : st < N
  rl : ∀ r ∈ rs, r.f1.length ≤ 4
  r0 : ∀ r ∈ rs, 0 ≤ r.f0
  r1 : ∀ r ∈ rs, r.f0 < N
  x0 : ∀ r ∈ rs, ∀ x ∈ r.f1, 0 ≤ x
  x1 : ∀ r ∈ rs, ∀ x ∈ r.f1, x < K + N
theorem gcode_ok {K N st : Int} {rs : List S38} (h : gcode K N st rs = 0) : GOK K N st rs := by
  unfold gcode at h
  split at h
  · omega
  rename_i h1
  split at h
  · omega
  rename_i h2
  split at h
  · omega
  rename_i h3
  simp only [not_or] at h1 h2
  have h4 : (rs.any fun r => decide ((r.f1.length : Int) > 4)) = false := by simpa using h1.2.2.2.2.2
  have h5 : rs.any (ruleBad K N) = false := by simpa using h3
  rw [List.any_eq_false] at h4 h5
  have h6 : ∀ r ∈ rs, 0 ≤ r.f0 ∧ r.f0 < N ∧ ∀ x ∈ r.f1, 0 ≤ x ∧ x < K + N := by
    intro r hr
    have h7 : ruleBad K N r = false := by simpa using h5 r hr
    unfold ruleBad at h7
    simp only [Bool.or_eq_false_iff, decide_eq_false_iff_not, List.any_eq_false] at h7
    refine ⟨by omega, by omega, fun x hx => ?_⟩
    have h8 := h7.2.2 x hx
    unfold sgnBad at h8
    simp only [Bool.or_eq_true, decide_eq_true_eq, not_or] at h8
    omega
  refine ⟨by omega, by omega, by omega, by omega, by omega, by omega, by omega, ?_, fun r hr => (h6 r hr).1, fun r hr => (h6 r hr).2.1, fun r hr x hx => ((h6 r hr).2.2 x hx).1, fun r hr x hx => ((h6 r hr).2.2 x hx).2⟩
  intro r hr
  have := h4 r hr
  simp only [decide_eq_true_eq] at this; omega

/-! ### what comes of a start: by passes, and by a row of those that were met -/
def edgesG (rs : List S38) : List (Int × Int) := rs.flatMap fun r => r.f1.map fun x => (r.f0, x)
theorem edgesG_cons (r : S38) (rs : List S38) : edgesG (r :: rs) = r.f1.map (fun x => (r.f0, x)) ++ edgesG rs := by unfold edgesG; rw [List.flatMap_cons]
theorem edgesG_mem {rs : List S38} {e : Int × Int} (h : e ∈ edgesG rs) : ∃ r ∈ rs, r.f0 = e.1 ∧ e.2 ∈ r.f1 := by
  unfold edgesG at h
  rw [List.mem_flatMap] at h
  obtain ⟨r, hr, h⟩ := h
  rw [List.mem_map] at h
  obtain ⟨x, hx, rfl⟩ := h
  exact ⟨r, hr, rfl, hx⟩
def addC (K : Int) (S : Nat) (e : Int × Int) : Nat := if S.testBit e.1.toNat = true ∧ e.2 ≥ K then S ||| 2 ^ (e.2 - K).toNat else S
def passE (K : Int) (E : List (Int × Int)) (S : Nat) : Nat := E.foldl (addC K) S
theorem addC_sub (K : Int) (S : Nat) (e : Int × Int) (i : Nat) (h : S.testBit i = true) : (addC K S e).testBit i = true := by
  unfold addC
  split
  · rw [Nat.testBit_or, h, Bool.true_or]
  · exact h
theorem passE_sub (K : Int) : ∀ (E : List (Int × Int)) (S i : Nat), S.testBit i = true → (passE K E S).testBit i = true
  | [], _, _, h => h
  | e :: E, S, i, h => by
    unfold passE; rw [List.foldl_cons]
    exact passE_sub K E _ i (addC_sub K S e i h)
theorem passE_mem (K : Int) : ∀ (E : List (Int × Int)) (S : Nat) (e : Int × Int), e ∈ E → S.testBit e.1.toNat = true → e.2 ≥ K → (passE K E S).testBit (e.2 - K).toNat = true
  | [], _, _, h, _, _ => by simp at h
  | f :: E, S, e, h, h1, h2 => by
    unfold passE; rw [List.foldl_cons]
    rcases List.mem_cons.1 h with rfl | h
    · refine passE_sub K E _ _ ?_
      unfold addC
      rw [if_pos ⟨h1, h2⟩, Nat.testBit_or, Nat.testBit_two_pow_self, Bool.or_true]
    · exact passE_mem K E _ e h (addC_sub K S f _ h1) h2
theorem passE_in (K : Int) (D : Nat → Bool) : ∀ (E : List (Int × Int)) (S : Nat), (∀ e ∈ E, D e.1.toNat = true → e.2 ≥ K → D (e.2 - K).toNat = true) → (∀ i, S.testBit i = true → D i = true) → ∀ i, (passE K E S).testBit i = true → D i = true
  | [], _, _, h, i, hi => h i hi
  | e :: E, S, hc, h, i, hi => by
    unfold passE at hi; rw [List.foldl_cons] at hi
    refine passE_in K D E _ (fun f hf => hc f (by simp [hf])) ?_ i hi
    intro j hj
    unfold addC at hj
    split at hj
    · rename_i c
      rw [Nat.testBit_or, Bool.or_eq_true] at hj
      rcases hj with hj | hj
      · exact h j hj
      · rw [Nat.testBit_two_pow, decide_eq_true_eq] at hj
        subst hj
        exact hc e (by simp) (h _ c.1) c.2
    · exact h j hj
theorem addC_lt (K : Int) (n : Nat) (S : Nat) (e : Int × Int) (he : (e.2 - K).toNat < n) (h : S < 2 ^ n) : addC K S e < 2 ^ n := by
  unfold addC
  split
  · exact Nat.or_lt_two_pow h (Nat.pow_lt_pow_right (by omega) he)
  · exact h
theorem passE_lt (K : Int) (n : Nat) : ∀ (E : List (Int × Int)) (S : Nat), (∀ e ∈ E, (e.2 - K).toNat < n) → S < 2 ^ n → passE K E S < 2 ^ n
  | [], _, _, h => h
  | e :: E, S, he, h => by
    unfold passE; rw [List.foldl_cons]
    exact passE_lt K n E _ (fun f hf => he f (by simp [hf])) (addC_lt K n S e (he e (by simp)) h)
/-- what comes of a start -/
def comesG (K N st : Int) (rs : List S38) : Nat := rep (passE K (edgesG rs)) N.toNat (2 ^ st.toNat)
theorem cntP_add (p q : Nat → Bool) (j : Nat) (hj : p j = false) (hq : ∀ i, q i = (decide (i = j) || p i)) : ∀ n, cntP q n = cntP p n + (if j < n then 1 else 0)
  | 0 => by simp [cntP]
  | n + 1 => by
    have ih := cntP_add p q j hj hq n
    simp only [cntP, hq n, ih]
    by_cases e : n = j
    · subst e; simp [hj]
    · by_cases c : j < n
      · simp [e, c, show j < n + 1 by omega]; omega
      · simp [e, c, show ¬ j < n + 1 by omega]
theorem maskB_add (p q : Nat → Bool) (j : Nat) (hj : p j = false) (hq : ∀ i, q i = (decide (i = j) || p i)) : ∀ n, maskB q n = maskB p n + (if j < n then 2 ^ j else 0)
  | 0 => by simp [maskB]
  | n + 1 => by
    have ih := maskB_add p q j hj hq n
    simp only [maskB, hq n, ih]
    by_cases e : n = j
    · subst e; simp [hj]
    · by_cases c : j < n
      · simp [e, c, show j < n + 1 by omega]; omega
      · simp [e, c, show ¬ j < n + 1 by omega]
structure QOK (N : Int) (q : List Int) : Prop where
  nd : q.Nodup
  rg : ∀ y ∈ q, 0 ≤ y ∧ y < N
def inQ (q : List Int) (i : Nat) : Bool := decide ((i : Int) ∈ q)
def msum (q : List Int) : Nat := (q.map fun x => 2 ^ x.toNat).sum
theorem inQ_cons {y : Int} {q : List Int} (h0 : 0 ≤ y) (i : Nat) : inQ (y :: q) i = (decide (i = y.toNat) || inQ q i) := by
  unfold inQ
  rw [Bool.eq_iff_iff]
  simp only [List.mem_cons, decide_eq_true_eq, Bool.or_eq_true]
  constructor
  · rintro (h | h)
    · left; omega
    · right; exact h
  · rintro (h | h)
    · left; omega
    · right; exact h
theorem QOK.tail {N y : Int} {q : List Int} (h : QOK N (y :: q)) : QOK N q := ⟨(List.nodup_cons.1 h.nd).2, fun z hz => h.rg z (by simp [hz])⟩
theorem inQ_no {y : Int} {q : List Int} (h0 : 0 ≤ y) (h : y ∉ q) : inQ q y.toNat = false := by
  unfold inQ; rw [Int.toNat_of_nonneg h0]; exact decide_eq_false h
theorem QOK.cnt {N : Int} : ∀ {q : List Int}, QOK N q → cntP (inQ q) N.toNat = q.length
  | [], _ => by
    have : ∀ n, cntP (inQ []) n = 0 := by intro n; induction n with | zero => rfl | succ n ih => simp [cntP, ih, inQ]
    rw [this]; rfl
  | y :: q, h => by
    have hy := h.rg y (by simp)
    have := cntP_add (inQ q) (inQ (y :: q)) y.toNat (inQ_no hy.1 (List.nodup_cons.1 h.nd).1) (inQ_cons hy.1) N.toNat
    rw [this, QOK.cnt h.tail, if_pos (by omega), List.length_cons]
theorem QOK.len {N : Int} {q : List Int} (h : QOK N q) : q.length ≤ N.toNat := by rw [← h.cnt]; exact cntP_le _ _
theorem QOK.sum {N : Int} : ∀ {q : List Int}, QOK N q → maskB (inQ q) N.toNat = msum q
  | [], _ => by
    have : ∀ n, maskB (inQ []) n = 0 := by intro n; induction n with | zero => rfl | succ n ih => simp [maskB, ih, inQ]
    rw [this]; rfl
  | y :: q, h => by
    have hy := h.rg y (by simp)
    have := maskB_add (inQ q) (inQ (y :: q)) y.toNat (inQ_no hy.1 (List.nodup_cons.1 h.nd).1) (inQ_cons hy.1) N.toNat
    rw [this, QOK.sum h.tail, if_pos (by omega)]
    unfold msum
    rw [List.map_cons, List.sum_cons, Nat.add_comm]
theorem QOK.put {N y : Int} {q : List Int} (h : QOK N q) (h0 : 0 ≤ y) (h1 : y < N) (hn : y ∉ q) : QOK N (q ++ [y]) := by
  refine ⟨?_, ?_⟩
  · rw [List.nodup_append]
    refine ⟨h.nd, by simp, ?_⟩
    intro a ha b hb
    rw [List.mem_singleton] at hb
    subst hb
    intro e; subst e; exact hn ha
  · intro z hz
    rcases List.mem_append.1 hz with hz | hz
    · exact h.rg z hz
    · rw [List.mem_singleton] at hz; subst hz; exact ⟨h0, h1⟩
def addQ (K h : Int) (q : List Int) (e : Int × Int) : List Int := if e.1 = rd q h ∧ e.2 ≥ K ∧ ¬ e.2 - K ∈ q then q ++ [e.2 - K] else q
theorem rd_app (q t : List Int) (h : Int) (h0 : 0 ≤ h) (h1 : h < q.length) : rd (q ++ t) h = rd q h := by
  rw [rd_getElem (l := q) (by omega), rd_getElem (l := q ++ t) (by rw [List.length_append]; omega), List.getElem_append_left]
theorem addQ_pre (K h : Int) (q : List Int) (e : Int × Int) : ∃ t, addQ K h q e = q ++ t := by
  unfold addQ
  split
  · exact ⟨_, rfl⟩
  · exact ⟨[], by simp⟩
theorem addQ_ok {K N h : Int} {q : List Int} {e : Int × Int} (H : QOK N q) (he : e.2 < K + N) : QOK N (addQ K h q e) := by
  unfold addQ
  split
  · rename_i c; exact H.put (by omega) (by omega) c.2.2
  · exact H
theorem foldQ_pre (K h : Int) : ∀ (E : List (Int × Int)) (q : List Int), ∃ t, E.foldl (addQ K h) q = q ++ t
  | [], q => ⟨[], by simp⟩
  | e :: E, q => by
    rw [List.foldl_cons]
    obtain ⟨t, ht⟩ := addQ_pre K h q e
    obtain ⟨u, hu⟩ := foldQ_pre K h E (addQ K h q e)
    exact ⟨t ++ u, by rw [hu, ht, List.append_assoc]⟩
theorem foldQ_ok {K N h : Int} : ∀ (E : List (Int × Int)) (q : List Int), QOK N q → (∀ e ∈ E, e.2 < K + N) → QOK N (E.foldl (addQ K h) q)
  | [], _, H, _ => H
  | e :: E, q, H, he => by rw [List.foldl_cons]; exact foldQ_ok E _ (addQ_ok H (he e (by simp))) (fun f hf => he f (by simp [hf]))
theorem foldQ_mem {K h : Int} (h0 : 0 ≤ h) : ∀ (E : List (Int × Int)) (q : List Int), h < q.length → ∀ e ∈ E, e.1 = rd q h → e.2 ≥ K → e.2 - K ∈ E.foldl (addQ K h) q
  | [], _, _, _, he, _, _ => by simp at he
  | f :: E, q, h1, e, he, h2, h3 => by
    rw [List.foldl_cons]
    obtain ⟨t, ht⟩ := addQ_pre K h q f
    rcases List.mem_cons.1 he with rfl | he
    · obtain ⟨u, hu⟩ := foldQ_pre K h E (addQ K h q e)
      rw [hu, List.mem_append]; left
      unfold addQ
      split
      · simp
      · rename_i c
        by_cases m : e.2 - K ∈ q
        · exact m
        · exact absurd ⟨h2, h3, m⟩ c
    · refine foldQ_mem h0 E _ ?_ e he ?_ h3
      · rw [ht, List.length_append]; omega
      · rw [ht, rd_app q t h h0 h1]; exact h2
theorem foldQ_in {K h : Int} (h0 : 0 ≤ h) (D : Int → Prop) : ∀ (E : List (Int × Int)) (q : List Int), h < q.length → (∀ e ∈ E, D e.1 → e.2 ≥ K → D (e.2 - K)) → (∀ y ∈ q, D y) → ∀ y ∈ E.foldl (addQ K h) q, D y
  | [], _, _, _, g => g
  | e :: E, q, h1, hc, g => by
    rw [List.foldl_cons]
    obtain ⟨t, ht⟩ := addQ_pre K h q e
    refine foldQ_in h0 D E _ (by rw [ht, List.length_append]; omega) (fun f hf => hc f (by simp [hf])) ?_
    intro y hy
    unfold addQ at hy
    split at hy
    · rename_i c
      rcases List.mem_append.1 hy with hy | hy
      · exact g y hy
      · rw [List.mem_singleton] at hy; subst hy
        exact hc e (by simp) (by rw [c.1]; exact g _ (rd_mem h0 h1)) c.2.1
    · exact g y hy
theorem has_ev (q : List Int) (y : Int) (hq : q.length ≤ 1000) : Ev (fun k => coppicerref_Has.f k q y) (decide (y ∈ q)) := by
  unfold coppicerref_Has.f
  have := Ev.firstBad (L := fun k i => coppicerref_Has.l0 k y q (q.length : Int) i) (l := q) (rdf := rd q) (bad := fun z => decide (y = z)) (c := true) (fin := false) (fun i h0 h1 => rd_cons h0 h1) ?_ ?_ ?_
  · have e : decide (y ∈ q) = q.any fun z => decide (y = z) := by
      rw [Bool.eq_iff_iff, decide_eq_true_eq, List.any_eq_true]
      constructor
      · intro h; exact ⟨y, h, decide_eq_true rfl⟩
      · rintro ⟨z, hz, h⟩; rw [of_decide_eq_true h]; exact hz
    rw [e]
    cases h : q.any fun z => decide (y = z) <;> rw [h] at this <;> exact this
  · intro _
    refine Ev.step (fun k => coppicerref_Has.l0.eq_2 _ _ _ _ k) ?_
    simp (disch := omega) only [if_neg]; exact Ev.now _
  · intro i h0 h1 hb
    refine Ev.step (fun k => coppicerref_Has.l0.eq_2 _ _ _ _ k) ?_
    simp (disch := omega) only [if_pos, if_pos (of_decide_eq_true hb)]; exact Ev.now _
  · intro i r h0 h1 hb hr
    refine Ev.step (fun k => coppicerref_Has.l0.eq_2 _ _ _ _ k) ?_
    simp (disch := omega) only [if_pos, if_neg (of_decide_eq_false hb), w64]; exact hr

section
variable (K N st : Int) (rs : List S38) (G : GOK K N st rs)
include G
theorem edge_ok {e : Int × Int} (h : e ∈ edgesG rs) : 0 ≤ e.1 ∧ e.1 < N ∧ 0 ≤ e.2 ∧ e.2 < K + N := by
  obtain ⟨r, hr, h1, h2⟩ := edgesG_mem h
  rw [← h1]
  exact ⟨G.r0 r hr, G.r1 r hr, G.x0 r hr _ h2, G.x1 r hr _ h2⟩
theorem comes_lt : comesG K N st rs < 2 ^ N.toNat := by
  have hN := G.N0; have h0 := G.s0; have h1 := G.s1
  exact rep_lt _ _ (fun s hs => passE_lt K N.toNat _ s (fun e he => by have := edge_ok K N st rs G he; omega) hs) _ _ (Nat.pow_lt_pow_right (by omega) (by omega))
theorem comes_start : (comesG K N st rs).testBit st.toNat = true := by
  unfold comesG
  induction N.toNat with
  | zero => simp [rep]
  | succ n ih => rw [rep_succ]; exact passE_sub K _ _ _ ih
theorem comes_closed {e : Int × Int} (he : e ∈ edgesG rs) (h1 : (comesG K N st rs).testBit e.1.toNat = true) (h2 : e.2 ≥ K) : (comesG K N st rs).testBit (e.2 - K).toNat = true := by
  have hp := passE_mem K (edgesG rs) (comesG K N st rs) e he h1 h2
  have ho := edge_ok K N st rs G he
  have hlt : ∀ d, rep (passE K (edgesG rs)) d (2 ^ st.toNat) < 2 ^ N.toNat := fun d => rep_lt _ _ (fun s hs => passE_lt K N.toNat _ s (fun e he => by have := edge_ok K N st rs G he; omega) hs) _ _ (Nat.pow_lt_pow_right (by omega) (by have := G.s1; have := G.s0; omega))
  have key := chain_stop N.toNat (fun d i => (rep (passE K (edgesG rs)) d (2 ^ st.toNat)).testBit i) (fun d i _ h => by rw [rep_succ]; exact passE_sub K _ _ i h) (by
    intro d h
    have e : rep (passE K (edgesG rs)) (d + 1) (2 ^ st.toNat) = rep (passE K (edgesG rs)) d (2 ^ st.toNat) := by
      apply Nat.eq_of_testBit_eq
      intro i
      by_cases hi : i < N.toNat
      · exact h i hi
      · have hi2 : 2 ^ N.toNat ≤ 2 ^ i := Nat.pow_le_pow_right (by omega) (by omega)
        rw [Nat.testBit_lt_two_pow (Nat.lt_of_lt_of_le (hlt _) hi2), Nat.testBit_lt_two_pow (Nat.lt_of_lt_of_le (hlt _) hi2)]
    intro i _
    have e2 := e
    rw [rep_succ] at e2
    rw [rep_succ _ (d + 1), e, e2])
  have := key (e.2 - K).toNat (by omega)
  rw [rep_succ] at this
  unfold comesG at hp ⊢
  rw [← this]; exact hp
theorem comes_least (D : Nat → Bool) (hc : ∀ e ∈ edgesG rs, D e.1.toNat = true → e.2 ≥ K → D (e.2 - K).toNat = true) (hs : D st.toNat = true) (i : Nat) (h : (comesG K N st rs).testBit i = true) : D i = true := by
  unfold comesG at h
  have key : ∀ n i, (rep (passE K (edgesG rs)) n (2 ^ st.toNat)).testBit i = true → D i = true := by
    intro n
    induction n with
    | zero => intro i h; simp only [rep, Nat.testBit_two_pow, decide_eq_true_eq] at h; subst h; exact hs
    | succ n ih => rw [rep_succ]; exact passE_in K D _ _ hc ih
  exact key _ i h
theorem lt32C {S : Nat} (h : S < 2 ^ N.toNat) : S < 2 ^ 32 := Nat.lt_of_lt_of_le h (Nat.pow_le_pow_right (by omega) (by have := G.N1; omega))
theorem comes_l0 (d : Nat) : ∀ (j : Int) (S : Nat), 0 ≤ j → j + d = N → S < 2 ^ N.toNat → Ev (fun k => grammar_Comes.l0 k (S : Int) N j K N st rs) (((rep (passE K (edgesG rs)) d S : Nat) : Int), 0) := by
  have hlen := G.len; have hN1 := G.N1; have hK0 := G.K0; have hK1 := G.K1
  induction d with
  | zero =>
    intro j S h0 h1 hS
    refine Ev.step (fun k => grammar_Comes.l0.eq_2 _ _ _ _ _ _ _ k) ?_
    simp (disch := omega) only [if_neg]; exact Ev.now _
  | succ d ih =>
    intro j S h0 h1 hS
    refine Ev.step (fun k => grammar_Comes.l0.eq_2 _ _ _ _ _ _ _ k) ?_
    simp (disch := omega) only [if_pos]
    refine Ev.loop (L := fun k i (T : Nat) => grammar_Comes.l1 k (T : Int) N j rs (rs.length : Int) i K N st rs) (n := rs.length) (fun i T => T < 2 ^ N.toNat ∧ passE K (edgesG (rs.drop i.toNat)) T = passE K (edgesG rs) S) ?_ ?_ 0 S (Int.le_refl _) (by omega) ⟨hS, rfl⟩
    · intro T hT
      refine Ev.step (fun k => grammar_Comes.l1.eq_2 _ _ _ _ _ _ _ _ _ _ k) ?_
      simp (disch := omega) only [if_neg, w64]
      have e : T = passE K (edgesG rs) S := by have := hT.2; rw [Int.toNat_natCast, List.drop_length] at this; exact this
      have := ih (j + 1) T (by omega) (by omega) hT.1
      rw [e] at this ⊢; exact this
    · intro i T h2 h3 hT
      right
      have hm := rule_mem h2 h3
      obtain ⟨hT1, hT2⟩ := hT
      rw [rd_rule h2 h3, edgesG_cons] at hT2
      unfold passE at hT2
      rw [List.foldl_append] at hT2
      have hrl := G.rl _ hm
      have hx0 := G.x0 _ hm
      have hx1 := G.x1 _ hm
      obtain ⟨q, hq⟩ := Int.eq_ofNat_of_zero_le (G.r0 _ hm)
      have hq1 := G.r1 _ hm
      obtain ⟨r, hr⟩ : ∃ r, rd_T38 rs i = r := ⟨_, rfl⟩
      rw [hr] at hm hT2 hrl hx0 hx1 hq hq1
      have hE : ∀ e ∈ r.f1.map (fun x => (r.f0, x)), (e.2 - K).toNat < N.toNat := by
        intro e he
        rw [List.mem_map] at he
        obtain ⟨x, hx, rfl⟩ := he
        have := hx0 x hx; have := hx1 x hx
        show (x - K).toNat < N.toNat
        omega
      refine ⟨(r.f1.map fun x => (r.f0, x)).foldl (addC K) T, ⟨passE_lt K N.toNat _ T hE hT1, hT2⟩, ?_⟩
      intro h
      refine Ev.step (fun k => grammar_Comes.l1.eq_2 _ _ _ _ _ _ _ _ _ _ k) ?_
      simp (disch := omega) only [if_pos, hr]
      refine Ev.loop (L := fun k t (U : Nat) => grammar_Comes.l2 k (U : Int) N j rs (rs.length : Int) i r.f1 (r.f1.length : Int) t K N st rs r.f0 r.f1) (n := r.f1.length) (fun t U => U < 2 ^ N.toNat ∧ ((r.f1.drop t.toNat).map fun x => (r.f0, x)).foldl (addC K) U = (r.f1.map fun x => (r.f0, x)).foldl (addC K) T) ?_ ?_ 0 T (Int.le_refl _) (by omega) ⟨hT1, rfl⟩
      · intro U hU
        have e := hU.2
        rw [Int.toNat_natCast, List.drop_length, List.map_nil, List.foldl_nil] at e
        refine Ev.step (fun k => grammar_Comes.l2.eq_2 _ _ _ _ _ _ _ _ _ _ _ _ _ _ _ k) ?_
        simp (disch := omega) only [if_neg (show ¬ ((r.f1.length : Nat) : Int) < (r.f1.length : Nat) by omega), w64]
        rw [e]; exact h
      · intro t U h4 h5 hU
        right
        obtain ⟨hU1, hU2⟩ := hU
        rw [rd_cons h4 h5, List.map_cons, List.foldl_cons] at hU2
        have hx := rd_mem h4 h5
        have hy0 := hx0 _ hx
        have hy1 := hx1 _ hx
        refine ⟨addC K U (r.f0, rd r.f1 t), ⟨addC_lt K N.toNat U _ (by show (rd r.f1 t - K).toNat < N.toNat; omega) hU1, hU2⟩, ?_⟩
        intro h6
        have hU32 := lt32C K N st rs G hU1
        refine Ev.step (fun k => grammar_Comes.l2.eq_2 _ _ _ _ _ _ _ _ _ _ _ _ _ _ _ k) ?_
        simp (disch := omega) only [if_pos, w64]
        unfold addC at h6
        rw [hq] at h6 ⊢
        simp only [Int.toNat_natCast] at h6
        have hb := bit_shr U q hU32 (by omega)
        by_cases c1 : U.testBit q = true
        · by_cases c2 : rd r.f1 t ≥ K
          · obtain ⟨y, hy⟩ := Int.eq_ofNat_of_zero_le (show 0 ≤ rd r.f1 t - K by omega)
            simp only [c1, c2, and_self, if_true, hy, Int.toNat_natCast] at h6
            simp only [if_pos (hb.2 c1), if_pos c2]
            simp (disch := omega) only [w64, hy, if_pos (show (0 : Int) ≤ (y : Int) by omega), bit_or U y hU32 (by omega)]
            exact h6
          · simp only [c2, and_false, if_false] at h6
            simp only [if_pos (hb.2 c1), if_neg c2]; exact h6
        · simp only [c1, false_and, if_false] at h6
          simp only [if_neg (fun q2 => c1 (hb.1 q2))]; exact h6
theorem comes_ev : Ev (fun k => grammar_Comes.l0 k (shl .u32 1 st) N 0 K N st rs) (((comesG K N st rs : Nat) : Int), 0) := by
  obtain ⟨s, hs⟩ := Int.eq_ofNat_of_zero_le G.s0
  have h1 := G.s1; have hN := G.N1; have hN0 := G.N0
  have := comes_l0 K N st rs G N.toNat 0 (2 ^ s) (by omega) (by omega) (Nat.pow_lt_pow_right (by omega) (by omega))
  unfold comesG
  have e : shl .u32 1 st = ((2 ^ s : Nat) : Int) := by rw [hs]; exact shl1 s (by omega)
  rw [e, show st.toNat = s by omega]; exact this
/-! the document's -/
theorem rcomes_l1 (h : Int) (h0 : 0 ≤ h) (q0 : List Int) (hq0 : QOK N q0) (hl : h < q0.length) (R : Int)
    (hk : Ev (fun k => coppicerref_Comes.l0 k ((edgesG rs).foldl (addQ K h) q0) (h + 1) K N st rs) R) : Ev (fun k => coppicerref_Comes.l1 k q0 h rs (rs.length : Int) 0 K N st rs) R := by
  have hlen := G.len; have hN1 := G.N1; have hN0 := G.N0; have hK0 := G.K0; have hK1 := G.K1
  refine Ev.loop (L := fun k i (q : List Int) => coppicerref_Comes.l1 k q h rs (rs.length : Int) i K N st rs) (n := rs.length) (fun i q => QOK N q ∧ h < q.length ∧ (edgesG (rs.drop i.toNat)).foldl (addQ K h) q = (edgesG rs).foldl (addQ K h) q0) ?_ ?_ 0 q0 (Int.le_refl _) (by omega) ⟨hq0, hl, rfl⟩
  · rintro q ⟨g1, g2, g3⟩
    rw [Int.toNat_natCast, List.drop_length] at g3
    have g3 : q = (edgesG rs).foldl (addQ K h) q0 := g3
    have hql := g1.len
    refine Ev.step (fun k => coppicerref_Comes.l1.eq_2 _ _ _ _ _ _ _ _ _ k) ?_
    simp (disch := omega) only [if_neg (show ¬ ((rs.length : Nat) : Int) < (rs.length : Nat) by omega), w64]
    rw [g3]; exact hk
  · rintro i q h2 h3 ⟨g1, g2, g3⟩
    right
    have hm := rule_mem h2 h3
    rw [rd_rule h2 h3, edgesG_cons, List.foldl_append] at g3
    have hrl := G.rl _ hm
    have hx0 := G.x0 _ hm
    have hx1 := G.x1 _ hm
    obtain ⟨r, hr⟩ : ∃ r, rd_T38 rs i = r := ⟨_, rfl⟩
    rw [hr] at hm g3 hrl hx0 hx1
    have hE : ∀ e ∈ r.f1.map (fun x => (r.f0, x)), e.2 < K + N := by
      intro e he
      rw [List.mem_map] at he
      obtain ⟨x, hx, rfl⟩ := he
      exact hx1 x hx
    have hpre := foldQ_pre K h (r.f1.map fun x => (r.f0, x)) q
    refine ⟨(r.f1.map fun x => (r.f0, x)).foldl (addQ K h) q, ⟨foldQ_ok _ q g1 hE, ?_, g3⟩, ?_⟩
    · obtain ⟨t, ht⟩ := hpre; rw [ht, List.length_append]; omega
    intro h4
    refine Ev.step (fun k => coppicerref_Comes.l1.eq_2 _ _ _ _ _ _ _ _ _ k) ?_
    simp (disch := omega) only [if_pos, hr]
    refine Ev.loop (L := fun k t (u : List Int) => coppicerref_Comes.l2 k u h rs (rs.length : Int) i r.f1 (r.f1.length : Int) t K N st rs r.f0 r.f1) (n := r.f1.length) (fun t u => QOK N u ∧ h < u.length ∧ ((r.f1.drop t.toNat).map fun x => (r.f0, x)).foldl (addQ K h) u = (r.f1.map fun x => (r.f0, x)).foldl (addQ K h) q) ?_ ?_ 0 q (Int.le_refl _) (by omega) ⟨g1, g2, rfl⟩
    · rintro u ⟨f1, f2, f3⟩
      rw [Int.toNat_natCast, List.drop_length, List.map_nil, List.foldl_nil] at f3
      refine Ev.step (fun k => coppicerref_Comes.l2.eq_2 _ _ _ _ _ _ _ _ _ _ _ _ _ _ k) ?_
      simp (disch := omega) only [if_neg (show ¬ ((r.f1.length : Nat) : Int) < (r.f1.length : Nat) by omega), w64]
      rw [f3]; exact h4
    · rintro t u h5 h6 ⟨f1, f2, f3⟩
      right
      rw [rd_cons h5 h6, List.map_cons, List.foldl_cons] at f3
      have hx := rd_mem h5 h6
      have hy0 := hx0 _ hx
      have hy1 := hx1 _ hx
      have hul := f1.len
      refine ⟨addQ K h u (r.f0, rd r.f1 t), ⟨addQ_ok f1 hy1, ?_, f3⟩, ?_⟩
      · obtain ⟨v, hv⟩ := addQ_pre K h u (r.f0, rd r.f1 t); rw [hv, List.length_append]; omega
      intro h7
      refine Ev.step (fun k => coppicerref_Comes.l2.eq_2 _ _ _ _ _ _ _ _ _ _ _ _ _ _ k) ?_
      simp (disch := omega) only [if_pos, w64]
      unfold addQ at h7
      simp only at h7
      by_cases c1 : r.f0 = rd u h
      · by_cases c2 : rd r.f1 t ≥ K
        · simp only [if_pos c1, if_pos c2]
          refine Ev.bind (has_ev u _ (by omega)) ?_
          by_cases c3 : rd r.f1 t - K ∈ u
          · rw [if_neg (by simp [c3])] at h7
            simp only [decide_eq_true c3, if_true]; exact h7
          · rw [if_pos ⟨c1, c2, c3⟩] at h7
            simp only [decide_eq_false c3, Bool.false_eq_true, if_false]; exact h7
        · rw [if_neg (by simp [c2])] at h7
          simp only [if_pos c1, if_neg c2]; exact h7
      · rw [if_neg (by simp [c1])] at h7
        simp only [if_neg c1]; exact h7
theorem rcomes_l3 (q : List Int) (hq : QOK N q) : Ev (fun k => coppicerref_Comes.l3 k 0 q (q.length : Int) 0) ((msum q : Nat) : Int) := by
  have hlen := hq.len; have hN1 := G.N1
  have hlt : msum q < 2 ^ 32 := by rw [← hq.sum]; exact lt32C K N st rs G (maskB_lt _ _)
  refine Ev.loop (L := fun k i (a : Nat) => coppicerref_Comes.l3 k (a : Int) q (q.length : Int) i) (n := q.length) (fun i a => a + msum (q.drop i.toNat) = msum q) ?_ ?_ 0 0 (Int.le_refl _) (by omega) (by simp)
  · intro a ha
    rw [Int.toNat_natCast, List.drop_length] at ha
    have ha : a = msum q := ha
    refine Ev.step (fun k => coppicerref_Comes.l3.eq_2 _ _ _ _ k) ?_
    simp (disch := omega) only [if_neg (show ¬ ((q.length : Nat) : Int) < (q.length : Nat) by omega)]
    rw [ha]; exact Ev.now _
  · intro i a h0 h1 ha
    right
    have hr := hq.rg _ (rd_mem h0 h1)
    rw [rd_cons h0 h1] at ha
    have ha : a + (2 ^ (rd q i).toNat + msum (q.drop (i + 1).toNat)) = msum q := ha
    obtain ⟨y, hy⟩ := Int.eq_ofNat_of_zero_le hr.1
    refine ⟨a + 2 ^ y, by rw [hy, Int.toNat_natCast] at ha; omega, ?_⟩
    intro h2
    rw [hy, Int.toNat_natCast] at ha
    refine Ev.step (fun k => coppicerref_Comes.l3.eq_2 _ _ _ _ k) ?_
    simp (disch := omega) only [if_pos, w64]
    rw [hy, u64_id (by omega) (by omega), shl1 y (by omega)]
    simp only [if_pos (show (0 : Int) ≤ (y : Int) by omega)]
    obtain ⟨z, hz⟩ : ∃ z : Nat, 2 ^ y = z := ⟨_, rfl⟩
    rw [hz] at ha h2 ⊢
    rw [show ((a : Int) + ((z : Nat) : Int)) % 4294967296 = ((a + z : Nat) : Int) by omega]
    exact h2
theorem rcomes_l0 (d : Nat) : ∀ (q : List Int) (h : Int), 0 ≤ h → h ≤ q.length → h + d = N → QOK N q → st ∈ q → (∀ i, 0 ≤ i → i < h → ∀ e ∈ edgesG rs, e.1 = rd q i → e.2 ≥ K → e.2 - K ∈ q) → (∀ y ∈ q, (comesG K N st rs).testBit y.toNat = true) →
    Ev (fun k => coppicerref_Comes.l0 k q h K N st rs) ((comesG K N st rs : Nat) : Int) := by
  have fin : ∀ (q : List Int) (h : Int), h = q.length → QOK N q → st ∈ q → (∀ i, 0 ≤ i → i < h → ∀ e ∈ edgesG rs, e.1 = rd q i → e.2 ≥ K → e.2 - K ∈ q) → (∀ y ∈ q, (comesG K N st rs).testBit y.toNat = true) →
    Ev (fun k => coppicerref_Comes.l0 k q h K N st rs) ((comesG K N st rs : Nat) : Int) := by
    intro q h hl hq hs hc hin
    have e : comesG K N st rs = msum q := by
      rw [← hq.sum]
      apply Nat.eq_of_testBit_eq
      intro i
      rw [maskB_bit]
      by_cases hi : i < N.toNat
      · rw [decide_eq_true hi, Bool.true_and, Bool.eq_iff_iff]
        constructor
        · refine comes_least K N st rs G (inQ q) ?_ ?_ i
          · intro e he h1 h2
            have ho := edge_ok K N st rs G he
            unfold inQ at h1 ⊢
            rw [Int.toNat_of_nonneg ho.1, decide_eq_true_eq] at h1
            rw [Int.toNat_of_nonneg (by omega), decide_eq_true_eq]
            obtain ⟨j, hj, e2⟩ := List.mem_iff_getElem.1 h1
            refine hc j (by omega) (by omega) e he ?_ h2
            rw [rd_getElem (by omega)]; simpa using e2.symm
          · unfold inQ; rw [Int.toNat_of_nonneg G.s0]; exact decide_eq_true hs
        · intro h1
          unfold inQ at h1
          have := hin _ (of_decide_eq_true h1)
          rwa [Int.toNat_natCast] at this
      · rw [decide_eq_false hi, Bool.false_and]
        exact Nat.testBit_lt_two_pow (Nat.lt_of_lt_of_le (comes_lt K N st rs G) (Nat.pow_le_pow_right (by omega) (by omega)))
    refine Ev.step (fun k => coppicerref_Comes.l0.eq_2 _ _ _ _ _ _ k) ?_
    simp (disch := omega) only [if_neg]
    rw [e]; exact rcomes_l3 K N st rs G q hq
  induction d with
  | zero =>
    intro q h h0 h1 hd hq hs hc hin
    have := hq.len
    exact fin q h (by omega) hq hs hc hin
  | succ d ih =>
    intro q h h0 h1 hd hq hs hc hin
    by_cases hl : h < q.length
    · refine Ev.step (fun k => coppicerref_Comes.l0.eq_2 _ _ _ _ _ _ k) ?_
      simp (disch := omega) only [if_pos]
      refine rcomes_l1 K N st rs G h h0 q hq hl _ ?_
      obtain ⟨t, ht⟩ := foldQ_pre K h (edgesG rs) q
      have hmem := foldQ_mem (K := K) h0 (edgesG rs) q hl
      have hin2 := foldQ_in (K := K) h0 (fun y => (comesG K N st rs).testBit y.toNat = true) (edgesG rs) q hl (fun e he a b => comes_closed K N st rs G he a b) hin
      have hok := foldQ_ok (K := K) (h := h) (edgesG rs) q hq (fun e he => (edge_ok K N st rs G he).2.2.2)
      refine ih _ (h + 1) (by omega) ?_ (by omega) hok ?_ ?_ hin2
      · rw [ht, List.length_append]; omega
      · rw [ht, List.mem_append]; exact .inl hs
      · intro i i0 i1 e he h2 h3
        by_cases c : i = h
        · subst c
          refine hmem e he ?_ h3
          rw [h2, ht, rd_app q t i h0 hl]
        · rw [ht, rd_app q t i i0 (by omega)] at h2
          rw [ht, List.mem_append]
          exact .inl (hc i i0 (by omega) e he h2 h3)
    · exact fin q h (by omega) hq hs hc hin
theorem rcomes_ev : Ev (fun k => coppicerref_Comes.f k K N st rs) ((comesG K N st rs : Nat) : Int) := by
  unfold coppicerref_Comes.f
  have h0 := G.s0; have h1 := G.s1; have hN := G.N0
  refine rcomes_l0 K N st rs G N.toNat [st] 0 (by omega) (by simp) (by omega) ⟨by simp, ?_⟩ (by simp) (fun i a b => by omega) ?_
  · intro y hy; rw [List.mem_singleton] at hy; subst hy; exact ⟨h0, h1⟩
  · intro y hy; rw [List.mem_singleton] at hy; subst hy; exact comes_start K N y rs G
end

theorem GrammarComes : coppicerlaw_GrammarComes.Pure := by
  unfold coppicerlaw_GrammarComes.Pure
  intro K N st rs _ _ _ _
  apply Ev.rounds
  unfold coppicerlaw_GrammarComes.f grammar_Comes.f
  by_cases h : gcode K N st rs = 0
  · have G := gcode_ok h
    have h1 := gcheck_ev K N st rs
    have h2 := rcheck_ev K N st rs
    rw [h] at h1 h2
    refine Ev.bind (Ev.bind h1 (a := 0) (r := (((comesG K N st rs : Nat) : Int), (0 : Int))) ?_) ?_
    · simp only [if_true, if_pos G.s0]
      exact comes_ev K N st rs G
    refine Ev.bind h2 ?_
    simp only [if_true]
    refine Ev.bind (rcomes_ev K N st rs G) ?_
    simp only [beq_self_eq_true]; exact Ev.now _
  · refine Ev.bind (Ev.bind (gcheck_ev K N st rs) (r := ((0 : Int), gcode K N st rs)) ?_) ?_
    · simp only [if_neg h]; exact Ev.now _
    refine Ev.bind (rcheck_ev K N st rs) ?_
    simp only [if_neg h, if_true, beq_self_eq_true]; exact Ev.now _

end Go.Proofs.Ytnjfcbhbebokeaa.Pure
