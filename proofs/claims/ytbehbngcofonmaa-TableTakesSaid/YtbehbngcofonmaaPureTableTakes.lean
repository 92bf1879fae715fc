/- The law TableTakes as a statement over numbers and lists alone: it holds under the bounds that the statement names. -/
import Derived.Laws.BitsAllLaws
import Derived.Test.YtbehbngcofonmaaStatTableTakes
set_option linter.unusedVariables false
set_option linter.unusedSimpArgs false
set_option linter.unusedSectionVars false
namespace Go.Proofs.Ytbehbngcofonmaa.Pure
open Go.RowKit Go.Proofs.Ytbehbngcofonmaa.PTableTakes Go.Proofs.YtbehbngcofonmaaW.PrintWords Go.Proofs.YtbehbngcofonmaaW.PrintLast Go.Proofs.YtbehbngcofonmaaW.PrintMore

/-! ### base: words for every pure text -/
theorem w64 {x : Int} (h0 : -9223372036854775808 ≤ x) (h1 : x ≤ 9223372036854775807) : wrap64 x = x := by unfold wrap64; omega
theorem Ev.pos {α : Type} {c : Prop} [Decidable c] {g f : Nat → Option α} {r : α} (h : c) (e : Ev g r) : Ev (fun k => if c then g k else f k) r := Ev.congr (fun k => by rw [if_pos h]) e
theorem Ev.neg {α : Type} {c : Prop} [Decidable c] {g f : Nat → Option α} {r : α} (h : ¬ c) (e : Ev f r) : Ev (fun k => if c then g k else f k) r := Ev.congr (fun k => by rw [if_neg h]) e
theorem Ev.val {α : Type} {r q : α} (h : r = q) : Ev (fun _ => some r) q := by subst h; exact Ev.now r
theorem rd_getElem {l : List Int} {i : Int} (h1 : i.toNat < l.length) : rd l i = l[i.toNat] := by simp [rd, List.getD_eq_getElem?_getD, List.getElem?_eq_getElem h1]
theorem drop_rd {l : List Int} {i : Int} (h0 : 0 ≤ i) (h1 : i < l.length) : l.drop i.toNat = rd l i :: l.drop (i + 1).toNat := by
  have h : i.toNat < l.length := by omega
  rw [rd_getElem h, List.drop_eq_getElem_cons h]; congr 2; omega
theorem take_rd {l : List Int} {i : Int} (h0 : 0 ≤ i) (h1 : i < l.length) : l.take (i + 1).toNat = l.take i.toNat ++ [rd l i] := by
  have h : i.toNat < l.length := by omega
  have e : (i + 1).toNat = i.toNat + 1 := by omega
  rw [rd_getElem h, e, List.take_succ_eq_append_getElem h]
theorem rd_drop (l : List Int) (n : Nat) (i : Int) (h0 : 0 ≤ i) : rd (l.drop n) i = rd l (i + n) := by
  have e : (i + n).toNat = n + i.toNat := by omega
  simp only [rd, List.getD_eq_getElem?_getD, List.getElem?_drop, e]
theorem rd_take (l : List Int) (n : Nat) (i : Int) (h0 : 0 ≤ i) (h1 : i < n) : rd (l.take n) i = rd l i := by
  simp only [rd, List.getD_eq_getElem?_getD]; rw [List.getElem?_take_of_lt (by omega)]
theorem drop_all {α : Type} (l : List α) (n : Nat) (h : l.length ≤ n) : l.drop n = [] := List.drop_eq_nil_of_le h
theorem dec_ne {a b : Int} {l m : List Int} (h : a ≠ b) : decide (a :: l = b :: m) = false := decide_eq_false (fun q => h (List.cons.inj q).1)
theorem Ev.no {p : Prop} [Decidable p] (h : ¬ p) : Ev (fun _ => some false) (decide p) := Ev.val (decide_eq_false h).symm
theorem Ev.yes {p : Prop} [Decidable p] (h : p) : Ev (fun _ => some true) (decide p) := Ev.val (decide_eq_true h).symm
theorem ext_rd {a b : List Int} (hl : a.length = b.length) (h : ∀ i : Int, 0 ≤ i → i < a.length → rd a i = rd b i) : a = b := by
  apply List.ext_getElem hl
  intro i h1 h2
  have := h i (by omega) (by omega)
  rwa [rd_getElem (by simpa using h1), rd_getElem (by simpa using h2)] at this
theorem wf_u8 {x : Int} (h : (Lit.int .u8 x).wf = true) : 0 ≤ x ∧ x ≤ 255 := by simpa [Lit.wf, IntKind.min, IntKind.max, IntKind.signed, IntKind.bits] using h
theorem wf_u32 {x : Int} (h : (Lit.int .u32 x).wf = true) : 0 ≤ x ∧ x ≤ 4294967295 := by simpa [Lit.wf, IntKind.min, IntKind.max, IntKind.signed, IntKind.bits] using h
theorem wf_i64 {x : Int} (h : (Lit.int .i64 x).wf = true) : -9223372036854775808 ≤ x ∧ x ≤ 9223372036854775807 := by simpa [Lit.wf, IntKind.min, IntKind.max, IntKind.signed, IntKind.bits] using h
theorem rd_mem {l : List Int} {i : Int} (h0 : 0 ≤ i) (h1 : i < l.length) : rd l i ∈ l := by
  rw [rd_getElem (by omega)]; exact List.getElem_mem _
theorem rd_u8 {l : List Int} (hw : ∀ x ∈ l, (Lit.int .u8 x).wf = true) {i : Int} (h0 : 0 ≤ i) (h1 : i < l.length) : 0 ≤ rd l i ∧ rd l i ≤ 255 := wf_u8 (hw _ (rd_mem h0 h1))
theorem tm {a b : Int} (h : 0 ≤ a) : Int.tmod a b = a % b := Int.tmod_eq_emod_of_nonneg h
theorem td {a b : Int} (h : 0 ≤ a) : Int.tdiv a b = a / b := Int.tdiv_eq_ediv_of_nonneg h

theorem rd_set_eq (l : List Int) (i : Int) (v : Int) (h0 : 0 ≤ i) (h1 : i < l.length) : rd (l.set i.toNat v) i = v := by
  simp [rd, List.getD_eq_getElem?_getD, List.getElem?_set, show i.toNat < l.length by omega]
theorem rd_set_ne (l : List Int) (i j : Int) (v : Int) (h0 : 0 ≤ i) (hj : 0 ≤ j) (h : j ≠ i) : rd (l.set i.toNat v) j = rd l j := by
  simp only [rd, List.getD_eq_getElem?_getD]
  rw [List.getElem?_set_ne (by omega)]
theorem rd_replicate (n : Nat) (v : Int) (j : Int) (h0 : 0 ≤ j) (h1 : j < n) : rd (List.replicate n v) j = v := by
  simp [rd, List.getD_eq_getElem?_getD, List.getElem?_replicate, show j.toNat < n by omega]
theorem rd_append_left (l m : List Int) (j : Int) (h0 : 0 ≤ j) (h1 : j < l.length) : rd (l ++ m) j = rd l j := by
  simp only [rd, List.getD_eq_getElem?_getD]
  rw [List.getElem?_append_left (by omega)]
theorem rd_append_last (l : List Int) (v : Int) (j : Int) (h : j = l.length) : rd (l ++ [v]) j = v := by
  subst h
  simp [rd, List.getD_eq_getElem?_getD]

/-! ### words of 32 bits as natural numbers -/
theorem u32_id {x : Int} (h0 : 0 ≤ x) (h1 : x ≤ 4294967295) : IntKind.u32.wrap x = x := by rw [IntKind.wrap_u32]; omega
theorem u64_id {x : Int} (h0 : 0 ≤ x) (h1 : x ≤ 18446744073709551615) : IntKind.u64.wrap x = x := by simp [IntKind.wrap, IntKind.bits, IntKind.signed]; omega
theorem u32_or (a b : Nat) (ha : a < 2 ^ 32) (hb : b < 2 ^ 32) : Go.bits .or .u32 a b = ((a ||| b : Nat) : Int) :=
  (bits_nat .u32 32 (by decide) (fun n h0 h1 => u32_id h0 (by omega)) a b ha hb).2
theorem u32_and (a b : Nat) (ha : a < 2 ^ 32) (hb : b < 2 ^ 32) : Go.bits .and .u32 a b = ((a &&& b : Nat) : Int) :=
  (bits_nat .u32 32 (by decide) (fun n h0 h1 => u32_id h0 (by omega)) a b ha hb).1
theorem shl1 (n : Nat) (h : n < 32) : shl .u32 1 (n : Int) = ((2 ^ n : Nat) : Int) := by
  unfold shl
  have e : min ((n : Int)).toNat IntKind.u32.bits = n := by simp [IntKind.bits]; omega
  have h2 : 2 ^ n ≤ 2 ^ 31 := Nat.pow_le_pow_right (by omega) (by omega)
  rw [e, Int.one_mul, u32_id (by exact_mod_cast Nat.zero_le _) (by have : ((2 ^ n : Nat) : Int) ≤ 2 ^ 31 := by exact_mod_cast h2
                                                                   have e2 : ((2 : Int) ^ n) = ((2 ^ n : Nat) : Int) := by simp
                                                                   omega)]
  simp
theorem shrn (a n : Nat) (h : n < 32) : shr .u32 (a : Int) (n : Int) = ((a / 2 ^ n : Nat) : Int) := by
  unfold shr
  have e : min ((n : Int)).toNat IntKind.u32.bits = n := by simp [IntKind.bits]; omega
  rw [e]; simp

/-! ### sets of small numbers: bits of a natural number -/
theorem bit_shr (a i : Nat) (ha : a < 2 ^ 32) (hi : i < 32) : (Go.bits .and .u32 (shr .u32 (a : Int) (i : Int)) 1 = 1) ↔ a.testBit i = true := by
  rw [shrn a i hi]
  have h1 : a / 2 ^ i < 2 ^ 32 := Nat.lt_of_le_of_lt (Nat.div_le_self _ _) ha
  have h2 := u32_and (a / 2 ^ i) 1 h1 (by decide)
  have h3 : ((1 : Nat) : Int) = 1 := rfl
  rw [h3] at h2
  rw [h2, Nat.and_one_is_mod, Nat.testBit_eq_decide_div_mod_eq]
  simp only [decide_eq_true_eq]; omega
theorem bit_and (a i : Nat) (ha : a < 2 ^ 32) (hi : i < 32) : (Go.bits .and .u32 (a : Int) (shl .u32 1 (i : Int)) != 0) = a.testBit i := by
  have h0 : 2 ^ i < 2 ^ 32 := Nat.pow_lt_pow_right (by omega) hi
  rw [shl1 i hi, u32_and a (2 ^ i) ha h0]
  cases h : a.testBit i with
  | true =>
    have : a &&& 2 ^ i ≠ 0 := fun e => by
      have q := congrArg (fun x => Nat.testBit x i) e
      simp [Nat.testBit_and, Nat.testBit_two_pow_self, h] at q
    simp; omega
  | false =>
    have : a &&& 2 ^ i = 0 := by
      apply Nat.eq_of_testBit_eq
      intro j
      by_cases e : i = j
      · subst e; simp [Nat.testBit_and, h]
      · simp [Nat.testBit_and, Nat.testBit_two_pow, e]
    rw [this]; rfl
theorem bit_or (a i : Nat) (ha : a < 2 ^ 32) (hi : i < 32) : Go.bits .or .u32 (a : Int) (shl .u32 1 (i : Int)) = ((a ||| 2 ^ i : Nat) : Int) := by
  have h0 : 2 ^ i < 2 ^ 32 := Nat.pow_lt_pow_right (by omega) hi
  rw [shl1 i hi, u32_or a (2 ^ i) ha h0]
def cnt : Nat → Nat → Nat
  | 0, _ => 0
  | n + 1, s => cnt n s + (s.testBit n).toNat
theorem cnt_le : ∀ n s, cnt n s ≤ n
  | 0, _ => Nat.le_refl _
  | n + 1, s => by
    have := cnt_le n s
    unfold cnt
    cases s.testBit n <;> simp <;> omega
theorem cnt_mono (s t : Nat) (h : ∀ i, s.testBit i = true → t.testBit i = true) : ∀ n, cnt n s ≤ cnt n t
  | 0 => Nat.le_refl _
  | n + 1 => by
    have := cnt_mono s t h n
    have h1 := h n
    unfold cnt
    cases q : s.testBit n
    · simp; omega
    · rw [h1 q]; simp; omega
theorem cnt_lt (s t : Nat) (h : ∀ i, s.testBit i = true → t.testBit i = true) (i : Nat) (hs : s.testBit i = false) (ht : t.testBit i = true) : ∀ n, i < n → cnt n s < cnt n t
  | 0, hi => by omega
  | n + 1, hi => by
    have h1 := h n
    have h2 := cnt_mono s t h n
    unfold cnt
    by_cases e : i = n
    · subst e; rw [hs, ht]; simp; omega
    · have := cnt_lt s t h i hs ht n (by omega)
      cases q : s.testBit n
      · simp; omega
      · rw [h1 q]; simp; omega
theorem bits_ne {s t n : Nat} (hs : s < 2 ^ n) (ht : t < 2 ^ n) (h : ∀ i, s.testBit i = true → t.testBit i = true) (hne : t ≠ s) : ∃ i, i < n ∧ s.testBit i = false ∧ t.testBit i = true := by
  rcases Classical.em (∃ i, i < n ∧ s.testBit i = false ∧ t.testBit i = true) with q | q
  · exact q
  · exfalso; apply hne
    apply Nat.eq_of_testBit_eq
    intro i
    by_cases hi : i < n
    · cases e : s.testBit i with
      | true => exact h i e
      | false =>
        cases e2 : t.testBit i with
        | false => rfl
        | true => exact absurd ⟨i, hi, e, e2⟩ q
    · have h2 : 2 ^ n ≤ 2 ^ i := Nat.pow_le_pow_right (by omega) (by omega)
      rw [Nat.testBit_lt_two_pow (Nat.lt_of_lt_of_le hs h2), Nat.testBit_lt_two_pow (Nat.lt_of_lt_of_le ht h2)]
/-! a step that only adds, again and again -/
def rep (P : Nat → Nat) : Nat → Nat → Nat
  | 0, s => s
  | n + 1, s => rep P n (P s)
theorem rep_fix (P : Nat → Nat) (s : Nat) (h : P s = s) : ∀ n, rep P n s = s
  | 0 => rfl
  | n + 1 => by unfold rep; rw [h]; exact rep_fix P s h n
theorem rep_succ (P : Nat → Nat) : ∀ n s, rep P (n + 1) s = P (rep P n s)
  | 0, _ => rfl
  | n + 1, s => by
    show rep P (n + 1) (P s) = P (rep P n (P s))
    exact rep_succ P n (P s)
theorem rep_lt (P : Nat → Nat) (b : Nat) (h : ∀ s, s < b → P s < b) : ∀ n s, s < b → rep P n s < b
  | 0, _, hs => hs
  | n + 1, s, hs => rep_lt P b h n (P s) (h s hs)

/-! ### loops, round by round -/
theorem anyO_some {α : Type} (p : α → Bool) : ∀ l : List α, anyO (fun x => some (p x)) l = some (l.any p)
  | [] => rfl
  | x :: l => by
    unfold anyO
    rw [Option.bind_some, anyO_some p l, List.any_cons]
    cases p x <;> simp
theorem anyO_of {α : Type} {f : α → Option Bool} {p : α → Bool} {l : List α} (h : ∀ x ∈ l, f x = some (p x)) : anyO f l = some (l.any p) := by
  induction l with
  | nil => rfl
  | cons x l ih =>
    unfold anyO
    rw [h x (by simp), Option.bind_some, ih (fun y hy => h y (by simp [hy])), List.any_cons]
    cases p x <;> simp
theorem Ev.loop {σ ρ : Type} {L : Nat → Int → σ → Option ρ} {n : Int} {r : ρ} (I : Int → σ → Prop)
    (hend : ∀ s, I n s → Ev (fun k => L k n s) r)
    (hstep : ∀ i s, 0 ≤ i → i < n → I i s → Ev (fun k => L k i s) r ∨ ∃ s', I (i + 1) s' ∧ (Ev (fun k => L k (i + 1) s') r → Ev (fun k => L k i s) r)) :
    ∀ (i : Int) (s : σ), 0 ≤ i → i ≤ n → I i s → Ev (fun k => L k i s) r := by
  have key : ∀ (d : Nat) (i : Int) (s : σ), 0 ≤ i → i + d = n → I i s → Ev (fun k => L k i s) r := by
    intro d
    induction d with
    | zero => intro i s h0 h1 hI; obtain rfl : i = n := by omega
              exact hend s hI
    | succ d ih =>
      intro i s h0 h1 hI
      rcases hstep i s h0 (by omega) hI with h | ⟨s', h', h⟩
      · exact h
      · exact h (ih (i + 1) s' (by omega) (by omega) h')
  intro i s h0 h1 hI
  exact key (n - i).toNat i s h0 (by omega) hI
/-- The first element that is bad ends a loop. -/
theorem Ev.firstBad {α ρ : Type} {L : Nat → Int → Option ρ} {l : List α} {rdf : Int → α} {bad : α → Bool} {c fin : ρ}
    (hrd : ∀ i : Int, 0 ≤ i → i < l.length → l.drop i.toNat = rdf i :: l.drop (i + 1).toNat)
    (hend : l.any bad = false → Ev (fun k => L k l.length) fin)
    (hbad : ∀ i : Int, 0 ≤ i → i < l.length → bad (rdf i) = true → Ev (fun k => L k i) c)
    (hgood : ∀ (i : Int) (r : ρ), 0 ≤ i → i < l.length → bad (rdf i) = false → Ev (fun k => L k (i + 1)) r → Ev (fun k => L k i) r) :
    Ev (fun k => L k 0) (if l.any bad = true then c else fin) := by
  refine Ev.loop (σ := Unit) (L := fun k i _ => L k i) (n := l.length) (fun i _ => l.any bad = (l.drop i.toNat).any bad) ?_ ?_ 0 () (Int.le_refl _) (by omega) rfl
  · intro _ h
    rw [Int.toNat_natCast, List.drop_length] at h
    have h : l.any bad = false := h
    rw [h]; exact hend h
  · intro i _ h0 h1 h
    rw [hrd i h0 h1, List.any_cons] at h
    cases hb : bad (rdf i) with
    | true => left; rw [h, hb]; exact hbad i h0 h1 hb
    | false => right; refine ⟨(), by rw [h, hb]; rfl, hgood i _ h0 h1 hb⟩
theorem rd_cons {l : List Int} {i : Int} (h0 : 0 ≤ i) (h1 : i < l.length) : l.drop i.toNat = rd l i :: l.drop (i + 1).toNat := drop_rd h0 h1

/-! ### loops, told by what follows -/
theorem Ev.loopc {σ ρ : Type} {L : Nat → Int → σ → Option ρ} {n : Int} {r : ρ} (I : Int → σ → Prop)
    (hend : ∀ s, I n s → Ev (fun k => L k n s) r)
    (hstep : ∀ i s, 0 ≤ i → i < n → I i s → (∀ s', I (i + 1) s' → Ev (fun k => L k (i + 1) s') r) → Ev (fun k => L k i s) r) :
    ∀ (i : Int) (s : σ), 0 ≤ i → i ≤ n → I i s → Ev (fun k => L k i s) r := by
  have key : ∀ (d : Nat) (i : Int) (s : σ), 0 ≤ i → i + d = n → I i s → Ev (fun k => L k i s) r := by
    intro d
    induction d with
    | zero => intro i s h0 h1 hI; obtain rfl : i = n := by omega
              exact hend s hI
    | succ d ih =>
      intro i s h0 h1 hI
      exact hstep i s h0 (by omega) hI (fun s' h' => ih (i + 1) s' (by omega) (by omega) h')
  intro i s h0 h1 hI
  exact key (n - i).toNat i s h0 (by omega) hI

/-! ### an answer of which something is known -/
def EvP {α : Type} (g : Nat → Option α) (J : α → Prop) : Prop := ∃ r, J r ∧ Ev g r
theorem EvP.of {α : Type} {g : Nat → Option α} {J : α → Prop} {r : α} (h : J r) (e : Ev g r) : EvP g J := ⟨r, h, e⟩
theorem EvP.now {α : Type} {J : α → Prop} {r : α} (h : J r) : EvP (fun _ => some r) J := ⟨r, h, Ev.now r⟩
theorem EvP.pos {α : Type} {c : Prop} [Decidable c] {g f : Nat → Option α} {J : α → Prop} (h : c) (e : EvP g J) : EvP (fun k => if c then g k else f k) J := let ⟨r, h1, h2⟩ := e; ⟨r, h1, Ev.pos h h2⟩
theorem EvP.neg {α : Type} {c : Prop} [Decidable c] {g f : Nat → Option α} {J : α → Prop} (h : ¬ c) (e : EvP f J) : EvP (fun k => if c then g k else f k) J := let ⟨r, h1, h2⟩ := e; ⟨r, h1, Ev.neg h h2⟩
theorem EvP.step {α : Type} {g f : Nat → Option α} {J : α → Prop} (h : ∀ k, g (k + 1) = f k) (e : EvP f J) : EvP g J := let ⟨r, h1, h2⟩ := e; ⟨r, h1, Ev.step h h2⟩
theorem EvP.congr {α : Type} {g f : Nat → Option α} {J : α → Prop} (h : ∀ k, g k = f k) (e : EvP f J) : EvP g J := let ⟨r, h1, h2⟩ := e; ⟨r, h1, Ev.congr h h2⟩
theorem EvP.bind {α β : Type} {g : Nat → Option α} {f : Nat → α → Option β} {a : α} {J : β → Prop} (h : Ev g a) (e : EvP (fun n => f n a) J) : EvP (fun n => (g n).bind (f n)) J := let ⟨r, h1, h2⟩ := e; ⟨r, h1, Ev.bind h h2⟩
theorem EvP.bindP {α β : Type} {g : Nat → Option α} {f : Nat → α → Option β} {I : α → Prop} {J : β → Prop} (h : EvP g I) (e : ∀ a, I a → EvP (fun n => f n a) J) : EvP (fun n => (g n).bind (f n)) J := let ⟨a, h1, h2⟩ := h; EvP.bind h2 (e a h1)
theorem EvP.ev {α β : Type} {g : Nat → Option α} {f : Nat → α → Option β} {I : α → Prop} {r : β} (h : EvP g I) (e : ∀ a, I a → Ev (fun n => f n a) r) : Ev (fun n => (g n).bind (f n)) r := let ⟨a, h1, h2⟩ := h; Ev.bind h2 (e a h1)
theorem EvP.mono {α : Type} {g : Nat → Option α} {I J : α → Prop} (h : EvP g I) (hi : ∀ a, I a → J a) : EvP g J := let ⟨a, h1, h2⟩ := h; ⟨a, hi a h1, h2⟩
theorem EvP.loop {σ ρ : Type} {L : Nat → Int → σ → Option ρ} {n : Int} {J : ρ → Prop} (I : Int → σ → Prop)
    (hend : ∀ s, I n s → EvP (fun k => L k n s) J)
    (hstep : ∀ i s, 0 ≤ i → i < n → I i s → (∀ s', I (i + 1) s' → EvP (fun k => L k (i + 1) s') J) → EvP (fun k => L k i s) J) :
    ∀ (i : Int) (s : σ), 0 ≤ i → i ≤ n → I i s → EvP (fun k => L k i s) J := by
  have key : ∀ (d : Nat) (i : Int) (s : σ), 0 ≤ i → i + d = n → I i s → EvP (fun k => L k i s) J := by
    intro d
    induction d with
    | zero => intro i s h0 h1 hI; obtain rfl : i = n := by omega
              exact hend s hI
    | succ d ih =>
      intro i s h0 h1 hI
      exact hstep i s h0 (by omega) hI (fun s' h' => ih (i + 1) s' (by omega) (by omega) h')
  intro i s h0 h1 hI
  exact key (n - i).toNat i s h0 (by omega) hI

theorem isB (p : Prop) : ∃ R : Bool, R = true ↔ p := by
  by_cases h : p
  · exact ⟨true, by simp [h]⟩
  · exact ⟨false, by simp [h]⟩

/-! ### masks of small sets -/
def maskB (p : Nat → Bool) : Nat → Nat
  | 0 => 0
  | n + 1 => maskB p n + (if p n = true then 2 ^ n else 0)
theorem maskB_succ (p : Nat → Bool) (n : Nat) : maskB p (n + 1) = maskB p n + (if p n = true then 2 ^ n else 0) := rfl
theorem maskB_lt (p : Nat → Bool) : ∀ n, maskB p n < 2 ^ n
  | 0 => by simp [maskB]
  | n + 1 => by
    have := maskB_lt p n
    have e : 2 ^ (n + 1) = 2 ^ n + 2 ^ n := by rw [Nat.pow_succ]; omega
    unfold maskB
    split <;> omega
theorem maskB_bit (p : Nat → Bool) (i : Nat) : ∀ n, (maskB p n).testBit i = (decide (i < n) && p i)
  | 0 => by simp [maskB]
  | n + 1 => by
    have h := maskB_bit p i n
    have hl := maskB_lt p n
    unfold maskB
    cases hp : p n with
    | false =>
      simp only [Bool.false_eq_true, if_false, Nat.add_zero, h]
      by_cases e : i = n
      · subst e; simp [hp]
      · have : decide (i < n) = decide (i < n + 1) := by congr 1; apply propext; omega
        rw [this]
    | true =>
      simp only [if_true]
      have e2 := Nat.two_pow_add_eq_or_of_lt hl 1
      rw [Nat.mul_one] at e2
      rw [Nat.add_comm, e2, Nat.testBit_or, Nat.testBit_two_pow, h]
      by_cases e : i = n
      · subst e; simp [hp]
      · have : decide (i < n) = decide (i < n + 1) := by congr 1; apply propext; omega
        rw [this]; simp [show ¬ n = i from fun q => e q.symm]
theorem bit_shr0 (a i : Nat) (ha : a < 2 ^ 32) (hi : i < 32) : (Go.bits .and .u32 (shr .u32 (a : Int) (i : Int)) 1 == 0) = !a.testBit i := by
  rw [shrn a i hi]
  have h1 : a / 2 ^ i < 2 ^ 32 := Nat.lt_of_le_of_lt (Nat.div_le_self _ _) ha
  have h2 := u32_and (a / 2 ^ i) 1 h1 (by decide)
  have h3 : ((1 : Nat) : Int) = 1 := rfl
  rw [h3] at h2
  rw [h2, Nat.and_one_is_mod, Nat.testBit_eq_decide_div_mod_eq]
  rcases Nat.mod_two_eq_zero_or_one (a / 2 ^ i) with h | h <;> rw [h] <;> rfl
/-! a chain of growing sets stands still in time -/
def cntP (p : Nat → Bool) : Nat → Nat
  | 0 => 0
  | n + 1 => cntP p n + (p n).toNat
theorem cntP_le (p : Nat → Bool) : ∀ n, cntP p n ≤ n
  | 0 => Nat.le_refl _
  | n + 1 => by have := cntP_le p n; unfold cntP; cases p n <;> simp <;> omega
theorem cntP_mono {p q : Nat → Bool} : ∀ n, (∀ i, i < n → p i = true → q i = true) → cntP p n ≤ cntP q n
  | 0, _ => Nat.le_refl _
  | n + 1, h => by
    have := cntP_mono n (fun i hi => h i (by omega))
    have h1 := h n (by omega)
    unfold cntP
    cases e : p n
    · simp; omega
    · rw [h1 e]; simp; omega
theorem cntP_eq {p q : Nat → Bool} : ∀ n, (∀ i, i < n → p i = true → q i = true) → cntP q n ≤ cntP p n → ∀ i, i < n → q i = p i
  | 0, _, _, i, hi => by omega
  | n + 1, h, hc, i, hi => by
    have hm := cntP_mono n (fun i hi => h i (by omega))
    have h1 := h n (by omega)
    unfold cntP at hc
    have hn : q n = p n := by
      cases e : p n
      · cases e2 : q n
        · rfl
        · rw [e, e2] at hc; simp at hc; omega
      · exact h1 e
    rw [hn] at hc
    by_cases e : i = n
    · subst e; exact hn
    · exact cntP_eq n (fun i hi => h i (by omega)) (by omega) i (by omega)
theorem chain_stop (n : Nat) (p : Nat → Nat → Bool) (mono : ∀ d i, i < n → p d i = true → p (d + 1) i = true)
    (stab : ∀ d, (∀ i, i < n → p (d + 1) i = p d i) → ∀ i, i < n → p (d + 2) i = p (d + 1) i) : ∀ i, i < n → p (n + 1) i = p n i := by
  have key : ∀ d, d ≤ cntP (p d) n ∨ ∀ i, i < n → p (d + 1) i = p d i := by
    intro d
    induction d with
    | zero => exact .inl (Nat.zero_le _)
    | succ d ih =>
      rcases ih with ih | ih
      · by_cases h : cntP (p (d + 1)) n ≤ cntP (p d) n
        · exact .inr (stab d (cntP_eq n (mono d) h))
        · exact .inl (by omega)
      · exact .inr (stab d ih)
  rcases key (n + 1) with h | h
  · have := cntP_le (p (n + 1)) n; omega
  · rcases key n with h2 | h2
    · have h3 := cntP_le (p (n + 1)) n
      exact cntP_eq n (mono n) (by omega)
    · exact h2
theorem chain_all (n : Nat) (p : Nat → Nat → Bool) (mono : ∀ d i, i < n → p d i = true → p (d + 1) i = true)
    (stab : ∀ d, (∀ i, i < n → p (d + 1) i = p d i) → ∀ i, i < n → p (d + 2) i = p (d + 1) i) (e : Nat) : ∀ i, i < n → p (n + e) i = p n i := by
  induction e with
  | zero => intro i _; rfl
  | succ e ih =>
    have h : ∀ e, ∀ i, i < n → p (n + e + 1) i = p (n + e) i := by
      intro e
      induction e with
      | zero => exact chain_stop n p mono stab
      | succ e ih2 => exact stab (n + e) ih2
    intro i hi
    rw [← ih i hi]; exact h e i hi

/-! ### grammars: what is wrong -/
theorem rd_rule {l : List S47} {i : Int} (h0 : 0 ≤ i) (h1 : i < l.length) : l.drop i.toNat = rd_T47 l i :: l.drop (i + 1).toNat := by
  have h : i.toNat < l.length := by omega
  have e : rd_T47 l i = l[i.toNat] := by simp [rd_T47, List.getD_eq_getElem?_getD, List.getElem?_eq_getElem h]
  rw [e, List.drop_eq_getElem_cons h]; congr 2; omega
theorem rule_mem {l : List S47} {i : Int} (h0 : 0 ≤ i) (h1 : i < l.length) : rd_T47 l i ∈ l := by
  have h : i.toNat < l.length := by omega
  have e : rd_T47 l i = l[i.toNat] := by simp [rd_T47, List.getD_eq_getElem?_getD, List.getElem?_eq_getElem h]
  rw [e]; exact List.getElem_mem _
def sgnBad (M x : Int) : Bool := decide (x < 0) || decide (x ≥ M)
def ruleBad (K N : Int) (r : S47) : Bool := decide (r.f0 < 0) || (decide (r.f0 ≥ N) || r.f1.any (sgnBad (K + N)))
def gcode (K N st : Int) (rs : List S47) : Int :=
  if K < 1 ∨ K > 3 ∨ N < 1 ∨ N > 5 ∨ (rs.length : Int) > 10 ∨ (rs.any fun r => decide ((r.f1.length : Int) > 4)) = true then 1
  else if st < 0 ∨ st ≥ N then 2 else if rs.any (ruleBad K N) = true then 2 else 0
theorem gcode_bad {K N st : Int} {rs : List S47} (h : K < 1 ∨ K > 3 ∨ N < 1 ∨ N > 5 ∨ (rs.length : Int) > 10 ∨ (rs.any fun r => decide ((r.f1.length : Int) > 4)) = true) : gcode K N st rs = 1 := by unfold gcode; rw [if_pos h]
section
variable (K N st : Int) (rs : List S47) (hK0 : 1 ≤ K) (hK1 : K ≤ 3) (hN0 : 1 ≤ N) (hN1 : N ≤ 5)
include hK0 hK1 hN0 hN1
theorem signs_eq (l : List Int) : grammar_signs.f K N st rs l = some (!(l.any (sgnBad (K + N)))) := by
  unfold grammar_signs.f grammar_signs_1_any.f
  have e : (fun x : Int => grammar_signs_1.f x K N st rs) = fun x => some (sgnBad (K + N) x) := by
    funext x
    unfold grammar_signs_1.f sgnBad
    rw [w64 (by omega) (by omega)]
    by_cases h : x < 0
    · rw [if_pos h]; simp [h]
    · rw [if_neg h]; simp [h]
  rw [e, anyO_some]; rfl
theorem refSigns_ev (l : List Int) (hl : l.length ≤ 140737488351232) : Ev (fun k => coppicerref_Signs.f k K N st rs l) (!(l.any (sgnBad (K + N)))) := by
  unfold coppicerref_Signs.f
  have := Ev.firstBad (L := fun k i => coppicerref_Signs.l0 k l (l.length : Int) i K N st rs) (l := l) (rdf := rd l) (bad := sgnBad (K + N)) (c := false) (fin := true) (fun i h0 h1 => rd_cons h0 h1) ?_ ?_ ?_
  · cases h : l.any (sgnBad (K + N)) <;> rw [h] at this <;> exact this
  · intro _
    refine Ev.step (fun k => coppicerref_Signs.l0.eq_2 _ _ _ _ _ _ _ k) ?_
    simp (disch := omega) only [if_neg]; exact Ev.now _
  · intro i h0 h1 hb
    refine Ev.step (fun k => coppicerref_Signs.l0.eq_2 _ _ _ _ _ _ _ k) ?_
    simp (disch := omega) only [if_pos, w64]
    unfold sgnBad at hb
    by_cases h : rd l i < 0
    · simp only [if_pos h]; exact Ev.now _
    · have h2 : rd l i ≥ K + N := by simpa [h] using hb
      simp only [if_neg h, if_pos h2]; exact Ev.now _
  · intro i r h0 h1 hb hr
    refine Ev.step (fun k => coppicerref_Signs.l0.eq_2 _ _ _ _ _ _ _ k) ?_
    unfold sgnBad at hb
    simp only [Bool.or_eq_false_iff, decide_eq_false_iff_not] at hb
    simp (disch := omega) only [if_pos, if_neg, w64]
    exact hr
theorem gcheck_l0 (hl : rs.length ≤ 10) : Ev (fun k => grammar_Check.l0 k rs (rs.length : Int) 0 K N st rs) (if rs.any (ruleBad K N) = true then 2 else 0) := by
  refine Ev.firstBad (L := fun k i => grammar_Check.l0 k rs (rs.length : Int) i K N st rs) (rdf := rd_T47 rs) (fun i h0 h1 => rd_rule h0 h1) ?_ ?_ ?_
  · intro _
    refine Ev.step (fun k => grammar_Check.l0.eq_2 _ _ _ _ _ _ _ k) ?_
    simp (disch := omega) only [if_neg]; exact Ev.now _
  · intro i h0 h1 hb
    refine Ev.step (fun k => grammar_Check.l0.eq_2 _ _ _ _ _ _ _ k) ?_
    simp (disch := omega) only [if_pos, signs_eq K N st rs hK0 hK1 hN0 hN1, Option.bind_some]
    unfold ruleBad at hb
    by_cases c1 : (rd_T47 rs i).f0 < 0
    · simp only [if_pos c1]; exact Ev.now _
    by_cases c2 : (rd_T47 rs i).f0 ≥ N
    · simp only [if_neg c1, if_pos c2]; exact Ev.now _
    have c3 : (rd_T47 rs i).f1.any (sgnBad (K + N)) = true := by simpa [c1, c2] using hb
    simp only [if_neg c1, if_neg c2, c3, Bool.not_true, Bool.false_eq_true, if_false]; exact Ev.now _
  · intro i r h0 h1 hb hr
    refine Ev.step (fun k => grammar_Check.l0.eq_2 _ _ _ _ _ _ _ k) ?_
    simp (disch := omega) only [if_pos, signs_eq K N st rs hK0 hK1 hN0 hN1, Option.bind_some, w64]
    unfold ruleBad at hb
    simp only [Bool.or_eq_false_iff, decide_eq_false_iff_not] at hb
    simp only [if_neg hb.1, if_neg hb.2.1, hb.2.2, Bool.not_false, if_true]
    exact hr
theorem rcheck_l1 (hl : rs.length ≤ 10) (hr : (rs.any fun r => decide ((r.f1.length : Int) > 4)) = false) : Ev (fun k => coppicerref_GrammarCheck.l1 k rs (rs.length : Int) 0 K N st rs) (if rs.any (ruleBad K N) = true then 2 else 0) := by
  have hs : ∀ i : Int, 0 ≤ i → i < rs.length → (rd_T47 rs i).f1.length ≤ 4 := by
    intro i h0 h1
    have := (List.any_eq_false.1 hr) _ (rule_mem h0 h1)
    simp only [decide_eq_true_eq] at this; omega
  refine Ev.firstBad (L := fun k i => coppicerref_GrammarCheck.l1 k rs (rs.length : Int) i K N st rs) (rdf := rd_T47 rs) (fun i h0 h1 => rd_rule h0 h1) ?_ ?_ ?_
  · intro _
    refine Ev.step (fun k => coppicerref_GrammarCheck.l1.eq_2 _ _ _ _ _ _ _ k) ?_
    simp (disch := omega) only [if_neg]; exact Ev.now _
  · intro i h0 h1 hb
    refine Ev.step (fun k => coppicerref_GrammarCheck.l1.eq_2 _ _ _ _ _ _ _ k) ?_
    simp (disch := omega) only [if_pos]
    unfold ruleBad at hb
    by_cases c1 : (rd_T47 rs i).f0 < 0
    · simp only [if_pos c1]; exact Ev.now _
    by_cases c2 : (rd_T47 rs i).f0 ≥ N
    · simp only [if_neg c1, if_pos c2]; exact Ev.now _
    have c3 : (rd_T47 rs i).f1.any (sgnBad (K + N)) = true := by simpa [c1, c2] using hb
    simp only [if_neg c1, if_neg c2]
    refine Ev.bind (refSigns_ev K N st rs hK0 hK1 hN0 hN1 _ (by have := hs i h0 h1; omega)) ?_
    simp only [c3, Bool.not_true, Bool.false_eq_true, if_false]; exact Ev.now _
  · intro i r h0 h1 hb hr
    refine Ev.step (fun k => coppicerref_GrammarCheck.l1.eq_2 _ _ _ _ _ _ _ k) ?_
    simp (disch := omega) only [if_pos, w64]
    unfold ruleBad at hb
    simp only [Bool.or_eq_false_iff, decide_eq_false_iff_not] at hb
    simp only [if_neg hb.1, if_neg hb.2.1]
    refine Ev.bind (refSigns_ev K N st rs hK0 hK1 hN0 hN1 _ (by have := hs i h0 h1; omega)) ?_
    simp only [hb.2.2, Bool.not_false, if_true]
    exact hr
end
theorem gcheck_ev (K N st : Int) (rs : List S47) : Ev (fun k => grammar_Check.f k K N st rs) (gcode K N st rs) := by
  unfold grammar_Check.f
  have bad : (K < 1 ∨ K > 3 ∨ N < 1 ∨ N > 5 ∨ (rs.length : Int) > 10 ∨ (rs.any fun r => decide ((r.f1.length : Int) > 4)) = true) → Ev (fun k => grammar_Check.j0 k true K N st rs) (gcode K N st rs) := by
    intro h
    rw [gcode_bad h]
    refine Ev.step (fun k => grammar_Check.j0.eq_2 _ _ _ _ _ k) ?_
    simp only [if_true]; exact Ev.now _
  by_cases c1 : K < 1
  · simp only [if_pos c1]; exact bad (by omega)
  by_cases c2 : K > 3
  · simp only [if_neg c1, if_pos c2]; exact bad (by omega)
  by_cases c3 : N < 1
  · simp only [if_neg c1, if_neg c2, if_pos c3]; exact bad (by omega)
  by_cases c4 : N > 5
  · simp only [if_neg c1, if_neg c2, if_neg c3, if_pos c4]; exact bad (by omega)
  by_cases c5 : (rs.length : Int) > 10
  · simp only [if_neg c1, if_neg c2, if_neg c3, if_neg c4, if_pos c5]; exact bad (by omega)
  simp only [if_neg c1, if_neg c2, if_neg c3, if_neg c4, if_neg c5]
  have e : grammar_Check_1_any.f rs = some (rs.any fun r => decide ((r.f1.length : Int) > 4)) := anyO_some _ rs
  simp only [e, Option.bind_some]
  cases c6 : (rs.any fun r => decide ((r.f1.length : Int) > 4)) with
  | true => exact bad (.inr (.inr (.inr (.inr (.inr c6)))))
  | false =>
    refine Ev.step (fun k => grammar_Check.j0.eq_2 _ _ _ _ _ k) ?_
    have hg : gcode K N st rs = if st < 0 ∨ st ≥ N then 2 else if rs.any (ruleBad K N) = true then 2 else 0 := by
      unfold gcode; rw [if_neg (by rw [c6]; simp; omega)]
    have j1t : (st < 0 ∨ st ≥ N) → Ev (fun k => grammar_Check.j1 k true K N st rs) (gcode K N st rs) := by
      intro h
      rw [hg, if_pos h]
      refine Ev.step (fun k => grammar_Check.j1.eq_2 _ _ _ _ _ k) ?_
      simp only [if_true]; exact Ev.now _
    simp only [Bool.false_eq_true, if_false]
    by_cases d1 : st < 0
    · simp only [if_pos d1]; exact j1t (.inl d1)
    by_cases d2 : st ≥ N
    · simp only [if_neg d1, decide_eq_true d2]; exact j1t (.inr d2)
    · simp only [if_neg d1, decide_eq_false d2]
      rw [hg, if_neg (by omega)]
      refine Ev.step (fun k => grammar_Check.j1.eq_2 _ _ _ _ _ k) ?_
      simp only [Bool.false_eq_true, if_false]
      exact gcheck_l0 K N st rs (by omega) (by omega) (by omega) (by omega) (by omega)
theorem rcheck_ev (K N st : Int) (rs : List S47) : Ev (fun k => coppicerref_GrammarCheck.f k K N st rs) (gcode K N st rs) := by
  unfold coppicerref_GrammarCheck.f
  have bad : (K < 1 ∨ K > 3 ∨ N < 1 ∨ N > 5 ∨ (rs.length : Int) > 10 ∨ (rs.any fun r => decide ((r.f1.length : Int) > 4)) = true) → Ev (fun k => coppicerref_GrammarCheck.j0 k true K N st rs) (gcode K N st rs) := by
    intro h
    rw [gcode_bad h]
    refine Ev.step (fun k => coppicerref_GrammarCheck.j0.eq_2 _ _ _ _ _ k) ?_
    simp only [if_true]; exact Ev.now _
  by_cases c1 : K < 1
  · simp only [if_pos c1]; exact bad (by omega)
  by_cases c2 : K > 3
  · simp only [if_neg c1, if_pos c2]; exact bad (by omega)
  by_cases c3 : N < 1
  · simp only [if_neg c1, if_neg c2, if_pos c3]; exact bad (by omega)
  by_cases c4 : N > 5
  · simp only [if_neg c1, if_neg c2, if_neg c3, if_pos c4]; exact bad (by omega)
  simp only [if_neg c1, if_neg c2, if_neg c3, if_neg c4]
  by_cases c5 : (rs.length : Int) > 10
  · simp only [c5, decide_true]; exact bad (by omega)
  simp only [c5, decide_false]
  refine Ev.step (fun k => coppicerref_GrammarCheck.j0.eq_2 _ _ _ _ _ k) ?_
  simp only [Bool.false_eq_true, if_false]
  have hg : gcode K N st rs = if (rs.any fun r => decide ((r.f1.length : Int) > 4)) = true then 1 else if st < 0 ∨ st ≥ N then 2 else if rs.any (ruleBad K N) = true then 2 else 0 := by
    unfold gcode
    cases c6 : (rs.any fun r => decide ((r.f1.length : Int) > 4)) with
    | true => rw [if_pos (by simp), if_pos rfl]
    | false => rw [if_neg (by simp; omega)]; simp only [Bool.false_eq_true, if_false]
  rw [hg]
  refine Ev.firstBad (L := fun k i => coppicerref_GrammarCheck.l0 k rs (rs.length : Int) i K N st rs) (rdf := rd_T47 rs) (fun i h0 h1 => rd_rule h0 h1) ?_ ?_ ?_
  · intro c6
    refine Ev.step (fun k => coppicerref_GrammarCheck.l0.eq_2 _ _ _ _ _ _ _ k) ?_
    simp (disch := omega) only [if_neg]
    have j2t : (st < 0 ∨ st ≥ N) → Ev (fun k => coppicerref_GrammarCheck.j2 k true K N st rs) (if st < 0 ∨ st ≥ N then 2 else if rs.any (ruleBad K N) = true then 2 else 0) := by
      intro h
      rw [if_pos h]
      refine Ev.step (fun k => coppicerref_GrammarCheck.j2.eq_2 _ _ _ _ _ k) ?_
      simp only [if_true]; exact Ev.now _
    by_cases d1 : st < 0
    · simp only [if_pos d1]; exact j2t (.inl d1)
    by_cases d2 : st ≥ N
    · simp only [if_neg d1, decide_eq_true d2]; exact j2t (.inr d2)
    · simp only [if_neg d1, decide_eq_false d2]
      rw [if_neg (by omega)]
      refine Ev.step (fun k => coppicerref_GrammarCheck.j2.eq_2 _ _ _ _ _ k) ?_
      simp only [Bool.false_eq_true, if_false]
      exact rcheck_l1 K N st rs (by omega) (by omega) (by omega) (by omega) (by omega) c6
  · intro i h0 h1 hb
    refine Ev.step (fun k => coppicerref_GrammarCheck.l0.eq_2 _ _ _ _ _ _ _ k) ?_
    simp only [decide_eq_true_eq] at hb
    simp (disch := omega) only [if_pos]; exact Ev.now _
  · intro i r h0 h1 hb hr
    refine Ev.step (fun k => coppicerref_GrammarCheck.l0.eq_2 _ _ _ _ _ _ _ k) ?_
    simp only [decide_eq_false_iff_not] at hb
    simp (disch := omega) only [if_pos, if_neg, w64]; exact hr

/-! ### grammars that may be -/
structure GOK (K N st : Int) (rs : List S47) : Prop where
  K0 : 1 ≤ K
  K1 : K ≤ 3
  N0 : 1 ≤ N
  N1 : N ≤ 5
  len : rs.length ≤ 10
  s0 : 0 ≤ st
  s1 : st < N
  rl : ∀ r ∈ rs, r.f1.length ≤ 4
  r0 : ∀ r ∈ rs, 0 ≤ r.f0
  r1 : ∀ r ∈ rs, r.f0 < N
  x0 : ∀ r ∈ rs, ∀ x ∈ r.f1, 0 ≤ x
  x1 : ∀ r ∈ rs, ∀ x ∈ r.f1, x < K + N
theorem gcode_ok {K N st : Int} {rs : List S47} (h : gcode K N st rs = 0) : GOK K N st rs := by
  unfold gcode at h
  split at h
  · omega
  rename_i h1
  split at h
  · omega
  rename_i h2
  split at h
  · omega
  rename_i h3
  simp only [not_or] at h1 h2
  have h4 : (rs.any fun r => decide ((r.f1.length : Int) > 4)) = false := by simpa using h1.2.2.2.2.2
  have h5 : rs.any (ruleBad K N) = false := by simpa using h3
  rw [List.any_eq_false] at h4 h5
  have h6 : ∀ r ∈ rs, 0 ≤ r.f0 ∧ r.f0 < N ∧ ∀ x ∈ r.f1, 0 ≤ x ∧ x < K + N := by
    intro r hr
    have h7 : ruleBad K N r = false := by simpa using h5 r hr
    unfold ruleBad at h7
    simp only [Bool.or_eq_false_iff, decide_eq_false_iff_not, List.any_eq_false] at h7
    refine ⟨by omega, by omega, fun x hx => ?_⟩
    have h8 := h7.2.2 x hx
    unfold sgnBad at h8
    simp only [Bool.or_eq_true, decide_eq_true_eq, not_or] at h8
    omega
  refine ⟨by omega, by omega, by omega, by omega, by omega, by omega, by omega, ?_, fun r hr => (h6 r hr).1, fun r hr => (h6 r hr).2.1, fun r hr x hx => ((h6 r hr).2.2 x hx).1, fun r hr x hx => ((h6 r hr).2.2 x hx).2⟩
  intro r hr
  have := h4 r hr
  simp only [decide_eq_true_eq] at this; omega

/-! ### words: machine.Words and coppicerref.WordCheck -/
def wordCode (K : Int) (w : List Int) : Int := if (w.length : Int) > 12 then 1 else if (w.any fun s => decide (s < 0) || decide (s ≥ K)) = true then 2 else 0
theorem Words_eq (K : Int) (w : List Int) : machine_Words.f K w = some (wordCode K w) := by
  unfold machine_Words.f wordCode
  have e : machine_Words_1_any.f w K = some (w.any fun s => decide (s < 0) || decide (s ≥ K)) := by
    unfold machine_Words_1_any.f
    refine anyO_of (fun x _ => ?_)
    unfold machine_Words_1.f
    by_cases h : x < 0
    · rw [if_pos h]; simp [h]
    · rw [if_neg h]; simp [h]
  by_cases c : (w.length : Int) > 12
  · simp only [if_pos c]
  · simp only [if_neg c, e, Option.bind_some]
    cases w.any fun s => decide (s < 0) || decide (s ≥ K) <;> simp
theorem WordCheck_l0 (K : Int) (w : List Int) (hl : w.length ≤ 12) (d : Nat) : ∀ i : Int, 0 ≤ i → i + d = w.length →
    Ev (fun k => coppicerref_WordCheck.l0 k K w (w.length : Int) i) (if ((w.drop i.toNat).any fun s => decide (s < 0) || decide (s ≥ K)) = true then 2 else 0) := by
  induction d with
  | zero =>
    intro i h0 hd
    refine Ev.step (fun k => coppicerref_WordCheck.l0.eq_2 _ _ _ _ k) ?_
    simp (disch := omega) only [if_neg (show ¬ i < (w.length : Int) by omega)]
    rw [List.drop_eq_nil_of_le (by omega)]; exact Ev.now _
  | succ d ih =>
    intro i h0 hd
    refine Ev.step (fun k => coppicerref_WordCheck.l0.eq_2 _ _ _ _ k) ?_
    rw [drop_rd h0 (by omega)]
    simp (disch := omega) only [if_pos (show i < (w.length : Int) by omega), if_pos h0, w64]
    by_cases a : rd w i < 0
    · simp only [if_pos a]; exact Ev.val (by simp [a])
    · by_cases b : rd w i ≥ K
      · simp only [if_neg a, if_pos b]; exact Ev.val (by simp [b])
      · simp only [if_neg a, if_neg b]
        have := ih (i + 1) (by omega) (by omega)
        simpa [a, b] using this
theorem WordCheck_ev (K : Int) (w : List Int) : Ev (fun k => coppicerref_WordCheck.f k K w) (wordCode K w) := by
  unfold coppicerref_WordCheck.f wordCode
  by_cases c : (w.length : Int) > 12
  · simp only [if_pos c]; exact Ev.now _
  · simp only [if_neg c]
    simpa using WordCheck_l0 K w (by omega) w.length 0 (by omega) (by omega)
theorem wordCode_0 {K : Int} {w : List Int} (h : wordCode K w = 0) : w.length ≤ 12 ∧ ∀ s ∈ w, 0 ≤ s ∧ s < K := by
  unfold wordCode at h
  by_cases c : (w.length : Int) > 12
  · rw [if_pos c] at h; omega
  · rw [if_neg c] at h
    refine ⟨by omega, ?_⟩
    by_cases e : (w.any fun s => decide (s < 0) || decide (s ≥ K)) = true
    · rw [if_pos e] at h; omega
    · intro s hs
      simp only [List.any_eq_true, not_exists, not_and, Bool.or_eq_true, decide_eq_true_eq, not_or] at e
      have := e s hs
      omega

/-! ### what a grammar's signs make of a word's stretches -/
inductive Mk (K : Int) (rules : List S47) (w : List Int) : List Int → Int → Int → Prop
  | nil (i : Int) : Mk K rules w [] i i
  | sym (x : Int) (l : List Int) (i j : Int) : x < K → 0 ≤ i → i < w.length → rd w i = x → Mk K rules w l (i + 1) j → Mk K rules w (x :: l) i j
  | name (r : S47) (l : List Int) (i m j : Int) : r ∈ rules → Mk K rules w r.f1 i m → Mk K rules w l m j → Mk K rules w ((K + r.f0) :: l) i j
/-- A sign of a stretch, by what is told of names. -/
def One (K : Int) (w : List Int) (T : Int → Int → Int → Prop) (x i m : Int) : Prop := (x ≥ K ∧ T (x - K) i m) ∨ (x < K ∧ m = i + 1 ∧ i < w.length ∧ rd w i = x)
def Over (K : Int) (w : List Int) (T : Int → Int → Int → Prop) : List Int → Int → Int → Prop
  | [], i, j => i = j
  | x :: l, i, j => ∃ m, i ≤ m ∧ m ≤ j ∧ One K w T x i m ∧ Over K w T l m j
section
variable {K : Int} {rules : List S47} {w : List Int} {T : Int → Int → Int → Prop}
theorem Over.le : ∀ {l : List Int} {i j : Int}, Over K w T l i j → i ≤ j
  | [], _, _, h => by have h : _ = _ := h; omega
  | _ :: _, _, _, ⟨m, a, b, _, _⟩ => by omega
theorem Over.mono {T' : Int → Int → Int → Prop} (h : ∀ a i j : Int, 0 ≤ i → i ≤ j → j ≤ w.length → T a i j → T' a i j) : ∀ {l : List Int} {i j : Int}, 0 ≤ i → j ≤ w.length → Over K w T l i j → Over K w T' l i j
  | [], _, _, _, _, q => q
  | x :: l, i, j, i0, j1, ⟨m, a, b, c, d⟩ => by
    refine ⟨m, a, b, ?_, Over.mono h (by omega) j1 d⟩
    rcases c with c | c
    · exact .inl ⟨c.1, h _ _ _ i0 a (by omega) c.2⟩
    · exact .inr c
/-- What is made lies in what is closed. -/
theorem Mk.over (hc : ∀ r ∈ rules, ∀ i j : Int, 0 ≤ i → i ≤ j → j ≤ w.length → Over K w T r.f1 i j → T r.f0 i j) (hn : ∀ r ∈ rules, 0 ≤ r.f0) {l : List Int} {i j : Int} (h : Mk K rules w l i j) : 0 ≤ i → j ≤ w.length → i ≤ w.length → Over K w T l i j := by
  induction h with
  | nil i => intro _ _ _; rfl
  | sym x l i j hx h0 h1 hr _ ih =>
    intro i0 j1 _
    have q := ih (by omega) j1 (by omega)
    exact ⟨i + 1, by omega, q.le, .inr ⟨hx, rfl, h1, hr⟩, q⟩
  | name r l i m j hr hm hl ih1 ih2 =>
    intro i0 j1 i1
    have key : ∀ {l : List Int} {i j : Int}, Mk K rules w l i j → i ≤ j := by
      intro l i j h
      induction h with
      | nil => omega
      | sym => omega
      | name => omega
    have mj := key hl
    have im := key hm
    have q := ih2 (by omega) j1 (by omega)
    refine ⟨m, im, mj, .inl ⟨by have := hn r hr; omega, ?_⟩, q⟩
    rw [show K + r.f0 - K = r.f0 by omega]
    exact hc r hr i m i0 im (by omega) (ih1 i0 (by omega) i1)
theorem Mk.le {l : List Int} {i j : Int} (h : Mk K rules w l i j) : i ≤ j := by
  induction h with
  | nil => omega
  | sym => omega
  | name => omega
/-- What is told of names is made: so is what is told of signs. -/
theorem Over.mk (hs : ∀ a i j : Int, T a i j → Mk K rules w [K + a] i j) : ∀ {l : List Int} {i j : Int}, 0 ≤ i → Over K w T l i j → Mk K rules w l i j
  | [], i, j, _, q => by have q : i = j := q; subst q; exact Mk.nil i
  | x :: l, i, j, i0, ⟨m, a, b, c, d⟩ => by
    have q := Over.mk hs (by omega) d
    rcases c with ⟨c, t⟩ | ⟨c, rfl, e, g⟩
    · have := hs _ _ _ t
      rw [show K + (x - K) = x by omega] at this
      have app : ∀ {l1 l2 : List Int} {i m j : Int}, Mk K rules w l1 i m → Mk K rules w l2 m j → Mk K rules w (l1 ++ l2) i j := by
        intro l1 l2 i m j h h2
        induction h with
        | nil => exact h2
        | sym x l i j hx h0 h1 hr _ ih => exact Mk.sym x _ i _ hx h0 h1 hr (ih h2)
        | name r l i m' j hr hm _ _ ih => exact Mk.name r _ i m' _ hr hm (ih h2)
      exact app this q
    · exact Mk.sym x l i j c i0 e g q
theorem Mk.rule {r : S47} (hr : r ∈ rules) {i j : Int} (h : Mk K rules w r.f1 i j) : Mk K rules w [K + r.f0] i j := Mk.name r [] i j j hr h (Mk.nil j)
end

/-! ### the document's table -/
abbrev Tab3 := List (List (List Bool))
def tellB (t : Tab3) (a i j : Int) : Bool := rdOf false (rd_L6 (rd_L7 t a) i) j
structure Rect (N n : Int) (t : Tab3) : Prop where
  l1 : (t.length : Int) = N
  l2 : ∀ a, 0 ≤ a → a < N → ((rd_L7 t a).length : Int) = n + 1
  l3 : ∀ a i, 0 ≤ a → a < N → 0 ≤ i → i ≤ n → ((rd_L6 (rd_L7 t a) i).length : Int) = n + 1
def Tt (N n : Int) (t : Tab3) (a i j : Int) : Prop := (0 ≤ a ∧ a < N) ∧ (0 ≤ i ∧ i ≤ j ∧ j ≤ n) ∧ tellB t a i j = true
section
variable (K N st : Int) (rs : List S47) (w : List Int) (hK0 : 1 ≤ K) (hK1 : K ≤ 3) (hN0 : 1 ≤ N) (hN1 : N ≤ 5) (hw : w.length ≤ 12)
include hK0 hK1 hN0 hN1 hw
theorem over_ev (t : Tab3) (ht : Rect N (w.length : Int) t) : ∀ (l : List Int), (∀ x ∈ l, 0 ≤ x ∧ x < K + N) → ∀ i j : Int, 0 ≤ i → i ≤ j → j ≤ w.length →
    ∃ R : Bool, (R = true ↔ Over K w (Tt N (w.length : Int) t) l i j) ∧ Ev (fun k => coppicerref_over.f k K N st rs w t l i j) R := by
  intro l
  induction l with
  | nil =>
    intro _ i j i0 ij j1
    refine ⟨i == j, by simp [Over], ?_⟩
    refine Ev.step (fun k => coppicerref_over.f.eq_2 _ _ _ _ _ _ _ _ _ k) ?_
    exact Ev.pos rfl (Ev.now _)
  | cons x l ih =>
    intro hl i j i0 ij j1
    have hx := hl x (by simp)
    have hl' : ∀ y ∈ l, 0 ≤ y ∧ y < K + N := fun y hy => hl y (by simp [hy])
    obtain ⟨R, hR⟩ := isB (Over K w (Tt N (w.length : Int) t) (x :: l) i j)
    refine ⟨R, hR, ?_⟩
    refine Ev.step (fun k => coppicerref_over.f.eq_2 _ _ _ _ _ _ _ _ _ k) ?_
    refine Ev.neg (by simp only [List.length_cons]; omega) (Ev.pos (by simp only [List.length_cons]; omega) ?_)
    refine Ev.loopc (σ := Unit) (L := fun k m _ => coppicerref_over.l0 k w t (x :: l) i j x m K N st rs) (n := j + 1)
      (fun m _ => i ≤ m ∧ ∀ m', i ≤ m' → m' < m → ¬ (One K w (Tt N (w.length : Int) t) x i m' ∧ Over K w (Tt N (w.length : Int) t) l m' j)) ?_ ?_ i () i0 (by omega) ⟨by omega, fun m' a b => by omega⟩
    · rintro _ ⟨_, hI⟩
      refine Ev.step (fun k => coppicerref_over.l0.eq_2 _ _ _ _ _ _ _ _ _ _ _ k) ?_
      refine Ev.neg (by omega) (Ev.val ?_)
      cases R with
      | false => rfl
      | true => obtain ⟨m, a, b, c, d⟩ := hR.1 rfl; exact absurd ⟨c, d⟩ (hI m a (by omega))
    · rintro m _ m0 m1 ⟨im, hI⟩ next
      refine Ev.step (fun k => coppicerref_over.l0.eq_2 _ _ _ _ _ _ _ _ _ _ _ k) ?_
      refine Ev.pos (by omega) ?_
      have go_no : ¬ (One K w (Tt N (w.length : Int) t) x i m ∧ Over K w (Tt N (w.length : Int) t) l m j) → Ev (fun k => coppicerref_over.l0 k w t (x :: l) i j x (wrap64 (m + 1)) K N st rs) R := by
        intro h
        rw [w64 (by omega) (by omega)]
        refine next () ⟨by omega, fun m' a b => ?_⟩
        by_cases e : m' = m
        · subst e; exact h
        · exact hI m' a (by omega)
      have go_yes : One K w (Tt N (w.length : Int) t) x i m → Ev (fun k => if 1 ≤ ((x :: l).length : Int) then ((coppicerref_over.f k K N st rs w t ((x :: l).drop 1) m j).bind fun b => if b = true then some true else coppicerref_over.l0 k w t (x :: l) i j x (wrap64 (m + 1)) K N st rs) else none) R := by
        intro h1
        refine Ev.pos (by simp only [List.length_cons]; omega) ?_
        obtain ⟨b, hb, eb⟩ := ih hl' m j (by omega) (by omega) j1
        refine Ev.bind eb ?_
        cases b with
        | true =>
          refine Ev.pos rfl (Ev.val ?_)
          exact (hR.2 ⟨m, im, by omega, h1, hb.1 rfl⟩).symm
        | false =>
          refine Ev.neg (by decide) (go_no (fun q => ?_))
          have := hb.2 q.2; cases this
      have low : x < K → Ev (fun k => if x < K then (if m = wrap64 (i + 1) then (if i < (w.length : Int) then (if rd w i = x then (if 1 ≤ ((x :: l).length : Int) then ((coppicerref_over.f k K N st rs w t ((x :: l).drop 1) m j).bind fun b => if b = true then some true else coppicerref_over.l0 k w t (x :: l) i j x (wrap64 (m + 1)) K N st rs) else none) else coppicerref_over.l0 k w t (x :: l) i j x (wrap64 (m + 1)) K N st rs) else none) else coppicerref_over.l0 k w t (x :: l) i j x (wrap64 (m + 1)) K N st rs) else coppicerref_over.l0 k w t (x :: l) i j x (wrap64 (m + 1)) K N st rs) R := by
        intro hx2
        refine Ev.pos hx2 ?_
        rw [w64 (show -9223372036854775808 ≤ i + 1 by omega) (by omega)]
        by_cases c : m = i + 1
        · refine Ev.pos c (Ev.pos (by omega) ?_)
          by_cases e : rd w i = x
          · exact Ev.pos e (go_yes (.inr ⟨hx2, c, by omega, e⟩))
          · refine Ev.neg e (go_no ?_)
            rintro ⟨h, _⟩
            rcases h with h | h
            · omega
            · exact e h.2.2.2
        · refine Ev.neg c (go_no ?_)
          rintro ⟨h, _⟩
          rcases h with h | h
          · omega
          · exact c h.2.1
      by_cases hx2 : x < K
      · refine Ev.neg (by omega) ?_
        have lo := low hx2
        refine Ev.congr (fun k => ?_) lo
        simp only [if_pos i0]
      · have c1 : wrap64 (x - K) = x - K := w64 (by omega) (by omega)
        have e1 := ht.l1
        have e2 := ht.l2 (x - K) (by omega) (by omega)
        have e3 := ht.l3 (x - K) i (by omega) (by omega) i0 (by omega)
        refine Ev.pos (by omega) ?_
        simp only [c1]
        refine Ev.pos (by omega) (Ev.pos (by omega) (Ev.pos i0 (Ev.pos (by omega) (Ev.pos m0 (Ev.pos (by omega) ?_)))))
        by_cases e : rdOf false (rd_L6 (rd_L7 t (x - K)) i) m = true
        · exact Ev.pos e (go_yes (.inl ⟨by omega, ⟨by omega, by omega⟩, ⟨i0, im, by omega⟩, e⟩))
        · refine Ev.neg e (Ev.neg hx2 (go_no ?_))
          rintro ⟨h, _⟩
          rcases h with h | h
          · exact e h.2.2.2
          · omega
end

/-! ### the document's table: as long as something is new -/
theorem rd3_set (t : Tab3) (a a' : Int) (r : List (List Bool)) (h0 : 0 ≤ a) (h1 : a < t.length) (h2 : 0 ≤ a') : rd_L7 (t.set a.toNat r) a' = if a' = a then r else rd_L7 t a' := by
  simp only [rd_L7, List.getD_eq_getElem?_getD]
  by_cases c : a' = a
  · subst c; rw [if_pos rfl, List.getElem?_set_self (by omega)]; rfl
  · rw [if_neg c, List.getElem?_set_ne (by omega)]
theorem rd2_set (t : List (List Bool)) (a a' : Int) (r : List Bool) (h0 : 0 ≤ a) (h1 : a < t.length) (h2 : 0 ≤ a') : rd_L6 (t.set a.toNat r) a' = if a' = a then r else rd_L6 t a' := by
  simp only [rd_L6, List.getD_eq_getElem?_getD]
  by_cases c : a' = a
  · subst c; rw [if_pos rfl, List.getElem?_set_self (by omega)]; rfl
  · rw [if_neg c, List.getElem?_set_ne (by omega)]
theorem rd1_set (t : List Bool) (a a' : Int) (r : Bool) (h0 : 0 ≤ a) (h1 : a < t.length) (h2 : 0 ≤ a') : rdOf false (t.set a.toNat r) a' = if a' = a then r else rdOf false t a' := by
  simp only [rdOf, List.getD_eq_getElem?_getD]
  by_cases c : a' = a
  · subst c; rw [if_pos rfl, List.getElem?_set_self (by omega)]; rfl
  · rw [if_neg c, List.getElem?_set_ne (by omega)]
theorem rd3_rep (n : Nat) (a : Int) : rd_L7 (List.replicate n ([] : List (List Bool))) a = [] := by
  simp only [rd_L7, List.getD_eq_getElem?_getD]
  rw [List.getElem?_replicate]; split <;> rfl
theorem rd2_rep (n : Nat) (a : Int) : rd_L6 (List.replicate n ([] : List Bool)) a = [] := by
  simp only [rd_L6, List.getD_eq_getElem?_getD]
  rw [List.getElem?_replicate]; split <;> rfl
theorem rd1_rep (n : Nat) (a : Int) : rdOf false (List.replicate n false) a = false := by
  simp only [rdOf, List.getD_eq_getElem?_getD]
  rw [List.getElem?_replicate]; split <;> rfl
theorem rd1_nil (a : Int) : rdOf false ([] : List Bool) a = false := by simp [rdOf]
def NoneT (t : Tab3) : Prop := ∀ a i j : Int, 0 ≤ a → 0 ≤ i → tellB t a i j = false
def muF (M : Nat) (N : Nat) (f : Int → Int → Int → Bool) : Nat := cntP (fun e => f ((e / (M * M) : Nat) : Int) ((e / M % M : Nat) : Int) ((e % M : Nat) : Int)) (N * (M * M))
theorem muF_le (M N : Nat) (f : Int → Int → Int → Bool) : muF M N f ≤ N * (M * M) := cntP_le _ _
theorem muF_mono {M N : Nat} {f f' : Int → Int → Int → Bool} (h : ∀ a i j : Int, 0 ≤ a → 0 ≤ i → 0 ≤ j → f a i j = true → f' a i j = true) : muF M N f ≤ muF M N f' :=
  cntP_mono _ (fun e _ q => h _ _ _ (Int.natCast_nonneg _) (Int.natCast_nonneg _) (Int.natCast_nonneg _) q)
theorem muF_lt {M N : Nat} {f f' : Int → Int → Int → Bool} (h : ∀ a i j : Int, 0 ≤ a → 0 ≤ i → 0 ≤ j → f a i j = true → f' a i j = true) {a i j : Nat} (ha : a < N) (hi : i < M) (hj : j < M)
    (h0 : f a i j = false) (h1 : f' a i j = true) : muF M N f < muF M N f' := by
  rcases Nat.lt_or_ge (muF M N f) (muF M N f') with q | q
  · exact q
  exfalso
  have hM : 0 < M := by omega
  have e3 : (a * (M * M) + i * M + j) / (M * M) = a := by
    have : i * M + j < M * M := by
      have : i * M + M ≤ M * M := by rw [← Nat.succ_mul]; exact Nat.mul_le_mul_right _ hi
      omega
    rw [Nat.add_assoc, Nat.mul_comm a, Nat.mul_add_div (Nat.mul_pos hM hM), Nat.div_eq_of_lt this, Nat.add_zero]
  have e1 : (a * (M * M) + i * M + j) % M = j := by
    rw [show a * (M * M) + i * M + j = j + M * (a * M + i) by rw [Nat.mul_add, Nat.mul_comm M (a * M), Nat.mul_comm M i, Nat.mul_assoc]; omega, Nat.add_mul_mod_self_left, Nat.mod_eq_of_lt hj]
  have e2 : (a * (M * M) + i * M + j) / M % M = i := by
    rw [show a * (M * M) + i * M + j = j + M * (a * M + i) by rw [Nat.mul_add, Nat.mul_comm M (a * M), Nat.mul_comm M i, Nat.mul_assoc]; omega, Nat.add_mul_div_left _ _ hM, Nat.div_eq_of_lt hj, Nat.zero_add, Nat.mul_comm a, Nat.mul_add_mod, Nat.mod_eq_of_lt hi]
  have hlt : a * (M * M) + i * M + j < N * (M * M) := by
    have h1 : a * (M * M) + M * M ≤ N * (M * M) := by rw [← Nat.succ_mul]; exact Nat.mul_le_mul_right _ ha
    have h2 : i * M + M ≤ M * M := by rw [← Nat.succ_mul]; exact Nat.mul_le_mul_right _ hi
    omega
  have := cntP_eq _ (fun e _ q => h _ _ _ (Int.natCast_nonneg _) (Int.natCast_nonneg _) (Int.natCast_nonneg _) q) q _ hlt
  simp only [e1, e2, e3] at this
  rw [h0, h1] at this; cases this
def muT (M : Nat) (N : Nat) (t : Tab3) : Nat := muF M N (tellB t)
theorem muT_le (M N : Nat) (t : Tab3) : muT M N t ≤ N * (M * M) := muF_le _ _ _
theorem muT_lt {M N : Nat} {t t' : Tab3} (h : ∀ a i j : Int, 0 ≤ a → 0 ≤ i → 0 ≤ j → tellB t a i j = true → tellB t' a i j = true) {a i j : Nat} (ha : a < N) (hi : i < M) (hj : j < M)
    (h0 : tellB t a i j = false) (h1 : tellB t' a i j = true) : muT M N t < muT M N t' := muF_lt h ha hi hj h0 h1
section
variable {N n : Int} {t : Tab3}
theorem tell_put (ht : Rect N n t) {a i j : Int} (ha0 : 0 ≤ a) (ha1 : a < N) (hi0 : 0 ≤ i) (hi1 : i ≤ n) (hj0 : 0 ≤ j) (hj1 : j ≤ n) {a' i' j' : Int} (ha' : 0 ≤ a') (hi' : 0 ≤ i') (hj' : 0 ≤ j') :
    tellB (t.set a.toNat ((rd_L7 t a).set i.toNat ((rd_L6 (rd_L7 t a) i).set j.toNat true))) a' i' j' = if a' = a ∧ i' = i ∧ j' = j then true else tellB t a' i' j' := by
  have e1 := ht.l1
  have e2 := ht.l2 a ha0 ha1
  have e3 := ht.l3 a i ha0 ha1 hi0 hi1
  unfold tellB
  rw [rd3_set _ _ _ _ ha0 (by omega) ha']
  by_cases c : a' = a
  · subst c
    rw [if_pos rfl, rd2_set _ _ _ _ hi0 (by omega) hi']
    by_cases d : i' = i
    · subst d
      rw [if_pos rfl, rd1_set _ _ _ _ hj0 (by omega) hj']
      by_cases f : j' = j
      · rw [if_pos f, if_pos ⟨rfl, rfl, f⟩]
      · rw [if_neg f, if_neg (fun q => f q.2.2)]
    · rw [if_neg d, if_neg (fun q => d q.2.1)]
  · rw [if_neg c, if_neg (fun q => c q.1)]
theorem rect_put (ht : Rect N n t) {a i : Int} (ha0 : 0 ≤ a) (ha1 : a < N) (hi0 : 0 ≤ i) (hi1 : i ≤ n) (j : Nat) :
    Rect N n (t.set a.toNat ((rd_L7 t a).set i.toNat ((rd_L6 (rd_L7 t a) i).set j true))) := by
  have e1 := ht.l1
  have e2 := ht.l2 a ha0 ha1
  refine ⟨by rw [List.length_set]; exact e1, fun a' h0 h1 => ?_, fun a' i' h0 h1 h2 h3 => ?_⟩
  · rw [rd3_set _ _ _ _ ha0 (by omega) h0]
    split
    · rw [List.length_set]; exact e2
    · exact ht.l2 a' h0 h1
  · rw [rd3_set _ _ _ _ ha0 (by omega) h0]
    split
    · rw [rd2_set _ _ _ _ hi0 (by omega) h2]
      split
      · rw [List.length_set]; exact ht.l3 a i ha0 ha1 hi0 hi1
      · exact ht.l3 a i' ha0 ha1 h2 h3
    · exact ht.l3 a' i' h0 h1 h2 h3
end
section
variable (K N st : Int) (rs : List S47) (w : List Int) (G : GOK K N st rs) (hw : w.length ≤ 12)
/-- What a table tells is made; closed up to a place of a pass. -/
structure TabInv (t : Tab3) : Prop where
  rect : Rect N (w.length : Int) t
  sound : ∀ a i j : Int, Tt N (w.length : Int) t a i j → Mk K rs w [K + a] i j
def ClT (t : Tab3) (q i j : Int) : Prop := ∀ q' i' j' : Int, 0 ≤ q' → (q' < q ∨ q' = q ∧ (i' < i ∨ i' = i ∧ j' < j)) → q' < rs.length → 0 ≤ i' → i' ≤ j' → j' ≤ w.length →
  Over K w (Tt N (w.length : Int) t) (rd_T47 rs q').f1 i' j' → Tt N (w.length : Int) t (rd_T47 rs q').f0 i' j'
def TabDone (t : Tab3) : Prop := Rect N (w.length : Int) t ∧ ∀ a i j : Int, 0 ≤ a → a < N → 0 ≤ i → i ≤ j → j ≤ w.length → (tellB t a i j = true ↔ Mk K rs w [K + a] i j)
include G hw
theorem tab_done {t : Tab3} (h : TabInv K N rs w t) (hc : ClT K N rs w t rs.length 0 0) : TabDone K N rs w t := by
  refine ⟨h.rect, fun a i j a0 a1 i0 ij j1 => ⟨fun q => h.sound a i j ⟨⟨a0, a1⟩, ⟨i0, ij, j1⟩, q⟩, fun q => ?_⟩⟩
  have hcl : ∀ r ∈ rs, ∀ i j : Int, 0 ≤ i → i ≤ j → j ≤ w.length → Over K w (Tt N (w.length : Int) t) r.f1 i j → Tt N (w.length : Int) t r.f0 i j := by
    intro r hr i j i0 ij j1 ho
    obtain ⟨m, hm, rfl⟩ := List.mem_iff_getElem.1 hr
    have e : rd_T47 rs (m : Int) = rs[m] := by simp [rd_T47, List.getD_eq_getElem?_getD, List.getElem?_eq_getElem hm]
    have := hc (m : Int) i j (by omega) (.inl (by omega)) (by omega) i0 ij j1
    rw [e] at this
    exact this ho
  have := Mk.over (T := Tt N (w.length : Int) t) hcl (fun r hr => G.r0 r hr) q i0 j1 (by omega)
  obtain ⟨m, _, _, h1, h2⟩ := this
  have h2 : m = j := h2
  subst h2
  rcases h1 with h1 | h1
  · rw [show K + a - K = a by omega] at h1; exact h1.2.2.2
  · omega
theorem tab_l5 (t0 : Tab3) (J : Tab3 → Prop) (q i : Int) (q0 : 0 ≤ q) (q1 : q < rs.length) (i0 : 0 ≤ i) (i1 : i ≤ w.length)
    (hend : ∀ t more, TabInv K N rs w t → muT (w.length + 1) N.toNat t0 ≤ muT (w.length + 1) N.toNat t → (more = true → muT (w.length + 1) N.toNat t0 < muT (w.length + 1) N.toNat t) → (more = false → ClT K N rs w t q (i + 1) 0) → EvP (fun k => coppicerref_Table.l4 K N st rs w ((w.length : Int) + 1) k t more q (i + 1)) J) :
    ∀ t more, TabInv K N rs w t → muT (w.length + 1) N.toNat t0 ≤ muT (w.length + 1) N.toNat t → (more = true → muT (w.length + 1) N.toNat t0 < muT (w.length + 1) N.toNat t) → (more = false → ClT K N rs w t q i 0) →
      EvP (fun k => coppicerref_Table.l5 K N st rs w ((w.length : Int) + 1) k t more q i i) J := by
  have hK0 := G.K0; have hK1 := G.K1; have hN0 := G.N0; have hN1 := G.N1
  have hm := rule_mem q0 q1
  have r0 := G.r0 _ hm
  have r1 := G.r1 _ hm
  intro t more ht h1 h2 h3
  refine EvP.loop (σ := Tab3 × Bool) (L := fun k j s => coppicerref_Table.l5 K N st rs w ((w.length : Int) + 1) k s.1 s.2 q i j) (n := (w.length : Int) + 1)
    (fun j s => i ≤ j ∧ TabInv K N rs w s.1 ∧ muT (w.length + 1) N.toNat t0 ≤ muT (w.length + 1) N.toNat s.1 ∧ (s.2 = true → muT (w.length + 1) N.toNat t0 < muT (w.length + 1) N.toNat s.1) ∧ (s.2 = false → ClT K N rs w s.1 q i j)) ?_ ?_ i (t, more) i0 (by omega) ⟨by omega, ht, h1, h2, ?_⟩
  · rintro ⟨t, more⟩ ⟨_, ht, h1, h2, h3⟩
    dsimp only at ht h1 h2 h3 ⊢
    refine EvP.step (fun k => coppicerref_Table.l5.eq_2 _ _ _ _ _ _ _ _ _ _ _ k) ?_
    refine EvP.neg (by omega) ?_
    simp only [w64 (show -9223372036854775808 ≤ i + 1 by omega) (by omega)]
    refine hend t more ht h1 h2 (fun hm => ?_)
    have h3 := h3 hm
    intro q' i' j' a b c d e f
    refine h3 q' i' j' a ?_ c d e f
    rcases b with b | ⟨b, b2⟩
    · exact .inl b
    · refine .inr ⟨b, ?_⟩
      rcases b2 with b2 | ⟨_, b2⟩
      · by_cases x : i' = i
        · exact .inr ⟨x, by omega⟩
        · exact .inl (by omega)
      · omega
  · rintro j ⟨t, more⟩ j0 j1 ⟨ij, ht, h1, h2, h3⟩ next
    dsimp only at ht h1 h2 h3 ⊢
    have e1 := ht.rect.l1
    have e2 := ht.rect.l2 _ r0 r1
    have e3 := ht.rect.l3 _ i r0 r1 i0 i1
    refine EvP.step (fun k => coppicerref_Table.l5.eq_2 _ _ _ _ _ _ _ _ _ _ _ k) ?_
    simp only [w64 (show -9223372036854775808 ≤ j + 1 by omega) (by omega)]
    refine EvP.pos j1 (EvP.pos r0 (EvP.pos (by omega) (EvP.pos i0 (EvP.pos (by omega) (EvP.pos j0 (EvP.pos (by omega) ?_))))))
    have keep : (Over K w (Tt N (w.length : Int) t) (rd_T47 rs q).f1 i j → Tt N (w.length : Int) t (rd_T47 rs q).f0 i j) → EvP (fun k => coppicerref_Table.l5 K N st rs w ((w.length : Int) + 1) k t more q i (j + 1)) J := by
      intro hq
      refine next (t, more) ⟨by omega, ht, h1, h2, fun hm => ?_⟩
      intro q' i' j' a b c d e f g
      by_cases x : q' = q ∧ i' = i ∧ j' = j
      · obtain ⟨rfl, rfl, rfl⟩ := x
        exact hq g
      · refine h3 hm q' i' j' a ?_ c d e f g
        rcases b with b | ⟨b1, b | ⟨b2, b3⟩⟩
        · exact .inl b
        · exact .inr ⟨b1, .inl b⟩
        · exact .inr ⟨b1, .inr ⟨b2, by omega⟩⟩
    by_cases c : rdOf false (rd_L6 (rd_L7 t (rd_T47 rs q).f0) i) j = true
    · exact EvP.pos c (keep (fun _ => ⟨⟨r0, r1⟩, ⟨i0, ij, by omega⟩, c⟩))
    · refine EvP.neg c ?_
      obtain ⟨R, hR, eR⟩ := over_ev K N st rs w hK0 hK1 hN0 hN1 hw t ht.rect (rd_T47 rs q).f1 (fun x hx => ⟨G.x0 _ hm x hx, G.x1 _ hm x hx⟩) i j i0 ij (by omega)
      refine EvP.bind eR ?_
      cases R with
      | false => exact EvP.neg (by decide) (keep (fun h => by have := hR.2 h; cases this))
      | true =>
        refine EvP.pos rfl ?_
        have put := fun a' i' j' (ha' : 0 ≤ a') (hi' : 0 ≤ i') (hj' : 0 ≤ j') => tell_put ht.rect r0 r1 i0 i1 j0 (show j ≤ w.length by omega) (a' := a') (i' := i') (j' := j') ha' hi' hj'
        have lt : muT (w.length + 1) N.toNat t < muT (w.length + 1) N.toNat (t.set (rd_T47 rs q).f0.toNat ((rd_L7 t (rd_T47 rs q).f0).set i.toNat ((rd_L6 (rd_L7 t (rd_T47 rs q).f0) i).set j.toNat true))) := by
          refine muT_lt (a := (rd_T47 rs q).f0.toNat) (i := i.toNat) (j := j.toNat) (fun a' i' j' x y z h => ?_) (by omega) (by omega) (by omega) ?_ ?_
          · rw [put a' i' j' x y z]; split
            · rfl
            · exact h
          · rw [show (((rd_T47 rs q).f0.toNat : Nat) : Int) = (rd_T47 rs q).f0 by omega, show ((i.toNat : Nat) : Int) = i by omega, show ((j.toNat : Nat) : Int) = j by omega]
            cases x : tellB t (rd_T47 rs q).f0 i j with
            | false => rfl
            | true => exact absurd x c
          · rw [put _ _ _ (by omega) (by omega) (by omega), if_pos ⟨by omega, by omega, by omega⟩]
        refine next (_, true) ⟨by omega, ⟨rect_put ht.rect r0 r1 i0 i1 _, fun a' i' j' h => ?_⟩, Nat.le_trans h1 (Nat.le_of_lt lt), fun _ => Nat.lt_of_le_of_lt h1 lt, fun h => by cases h⟩
        obtain ⟨⟨x0, x1⟩, ⟨y0, y1, y2⟩, z⟩ := h
        rw [put a' i' j' x0 y0 (by omega)] at z
        by_cases x : a' = (rd_T47 rs q).f0 ∧ i' = i ∧ j' = j
        · obtain ⟨rfl, rfl, rfl⟩ := x
          exact Mk.rule hm (Over.mk (fun a i j h => ht.sound a i j h) i0 (hR.1 rfl))
        · rw [if_neg x] at z
          exact ht.sound a' i' j' ⟨⟨x0, x1⟩, ⟨y0, y1, y2⟩, z⟩
  · intro hm
    intro q' i' j' a b c d e f
    refine h3 hm q' i' j' a ?_ c d e f
    rcases b with b | ⟨b1, b | ⟨b2, b3⟩⟩
    · exact .inl b
    · exact .inr ⟨b1, .inl b⟩
    · omega
theorem tab_l4 (t0 : Tab3) (J : Tab3 → Prop) (q : Int) (q0 : 0 ≤ q) (q1 : q < rs.length)
    (hend : ∀ t more, TabInv K N rs w t → muT (w.length + 1) N.toNat t0 ≤ muT (w.length + 1) N.toNat t → (more = true → muT (w.length + 1) N.toNat t0 < muT (w.length + 1) N.toNat t) → (more = false → ClT K N rs w t (q + 1) 0 0) → EvP (fun k => coppicerref_Table.l3 K N st rs w ((w.length : Int) + 1) k t more (q + 1)) J) :
    ∀ t more, TabInv K N rs w t → muT (w.length + 1) N.toNat t0 ≤ muT (w.length + 1) N.toNat t → (more = true → muT (w.length + 1) N.toNat t0 < muT (w.length + 1) N.toNat t) → (more = false → ClT K N rs w t q 0 0) →
      EvP (fun k => coppicerref_Table.l4 K N st rs w ((w.length : Int) + 1) k t more q 0) J := by
  have hlen := G.len
  intro t more ht h1 h2 h3
  refine EvP.loop (σ := Tab3 × Bool) (L := fun k i s => coppicerref_Table.l4 K N st rs w ((w.length : Int) + 1) k s.1 s.2 q i) (n := (w.length : Int) + 1)
    (fun i s => TabInv K N rs w s.1 ∧ muT (w.length + 1) N.toNat t0 ≤ muT (w.length + 1) N.toNat s.1 ∧ (s.2 = true → muT (w.length + 1) N.toNat t0 < muT (w.length + 1) N.toNat s.1) ∧ (s.2 = false → ClT K N rs w s.1 q i 0)) ?_ ?_ 0 (t, more) (Int.le_refl _) (by omega) ⟨ht, h1, h2, h3⟩
  · rintro ⟨t, more⟩ ⟨ht, h1, h2, h3⟩
    dsimp only at ht h1 h2 h3 ⊢
    refine EvP.step (fun k => coppicerref_Table.l4.eq_2 _ _ _ _ _ _ _ _ _ _ k) ?_
    refine EvP.neg (by omega) ?_
    simp only [w64 (show -9223372036854775808 ≤ q + 1 by omega) (by omega)]
    refine hend t more ht h1 h2 (fun hm => ?_)
    intro q' i' j' a b c d e f
    refine h3 hm q' i' j' a ?_ c d e f
    rcases b with b | ⟨b1, b | ⟨b2, b3⟩⟩
    · by_cases x : q' = q
      · exact .inr ⟨x, .inl (by omega)⟩
      · exact .inl (by omega)
    · omega
    · omega
  · rintro i ⟨t, more⟩ i0 i1 ⟨ht, h1, h2, h3⟩ next
    dsimp only at ht h1 h2 h3 ⊢
    refine EvP.step (fun k => coppicerref_Table.l4.eq_2 _ _ _ _ _ _ _ _ _ _ k) ?_
    refine EvP.pos i1 ?_
    exact tab_l5 K N st rs w G hw t0 J q i q0 q1 i0 (by omega) (fun t more a b c d => next (t, more) ⟨a, b, c, d⟩) t more ht h1 h2 h3
theorem tab_l2 : ∀ (d : Nat) (t : Tab3), TabInv K N rs w t → N.toNat * ((w.length + 1) * (w.length + 1)) - muT (w.length + 1) N.toNat t ≤ d → EvP (fun k => coppicerref_Table.l2 K N st rs w ((w.length : Int) + 1) k t true) (TabDone K N rs w) := by
  have hlen := G.len
  intro d
  induction d with
  | zero =>
    intro t ht hd
    refine EvP.step (fun k => coppicerref_Table.l2.eq_2 _ _ _ _ _ _ _ _ k) (EvP.pos rfl ?_)
    refine EvP.loop (σ := Tab3 × Bool) (L := fun k q s => coppicerref_Table.l3 K N st rs w ((w.length : Int) + 1) k s.1 s.2 q) (n := (rs.length : Int))
      (fun q s => TabInv K N rs w s.1 ∧ muT (w.length + 1) N.toNat t ≤ muT (w.length + 1) N.toNat s.1 ∧ (s.2 = true → muT (w.length + 1) N.toNat t < muT (w.length + 1) N.toNat s.1) ∧ (s.2 = false → ClT K N rs w s.1 q 0 0)) ?_ ?_ 0 (t, false) (Int.le_refl _) (by omega) ⟨ht, Nat.le_refl _, fun h => (by cases h), fun _ q' i' j' a b => by omega⟩
    · rintro ⟨t', more⟩ ⟨ht', h1, h2, h3⟩
      dsimp only at ht' h1 h2 h3 ⊢
      refine EvP.step (fun k => coppicerref_Table.l3.eq_2 _ _ _ _ _ _ _ _ _ k) (EvP.neg (by omega) ?_)
      refine EvP.step (fun k => coppicerref_Table.l2.eq_2 _ _ _ _ _ _ _ _ k) ?_
      cases more with
      | true => have := h2 rfl; have := muT_le (w.length + 1) N.toNat t'; have h2' := h2 rfl; omega
      | false => exact EvP.neg (fun h => by cases h) (EvP.now (tab_done K N st rs w G hw ht' (h3 rfl)))
    · rintro q ⟨t', more⟩ q0 q1 ⟨ht', h1, h2, h3⟩ next
      dsimp only at ht' h1 h2 h3 ⊢
      refine EvP.step (fun k => coppicerref_Table.l3.eq_2 _ _ _ _ _ _ _ _ _ k) (EvP.pos q1 (EvP.pos q0 ?_))
      exact tab_l4 K N st rs w G hw t _ q q0 q1 (fun t more a b c d => next (t, more) ⟨a, b, c, d⟩) t' more ht' h1 h2 h3
  | succ d ih =>
    intro t ht hd
    refine EvP.step (fun k => coppicerref_Table.l2.eq_2 _ _ _ _ _ _ _ _ k) (EvP.pos rfl ?_)
    refine EvP.loop (σ := Tab3 × Bool) (L := fun k q s => coppicerref_Table.l3 K N st rs w ((w.length : Int) + 1) k s.1 s.2 q) (n := (rs.length : Int))
      (fun q s => TabInv K N rs w s.1 ∧ muT (w.length + 1) N.toNat t ≤ muT (w.length + 1) N.toNat s.1 ∧ (s.2 = true → muT (w.length + 1) N.toNat t < muT (w.length + 1) N.toNat s.1) ∧ (s.2 = false → ClT K N rs w s.1 q 0 0)) ?_ ?_ 0 (t, false) (Int.le_refl _) (by omega) ⟨ht, Nat.le_refl _, fun h => (by cases h), fun _ q' i' j' a b => by omega⟩
    · rintro ⟨t', more⟩ ⟨ht', h1, h2, h3⟩
      dsimp only at ht' h1 h2 h3 ⊢
      refine EvP.step (fun k => coppicerref_Table.l3.eq_2 _ _ _ _ _ _ _ _ _ k) (EvP.neg (by omega) ?_)
      cases more with
      | true => exact ih t' ht' (by have h2' := h2 rfl; omega)
      | false => exact EvP.step (fun k => coppicerref_Table.l2.eq_2 _ _ _ _ _ _ _ _ k) (EvP.neg (fun h => by cases h) (EvP.now (tab_done K N st rs w G hw ht' (h3 rfl))))
    · rintro q ⟨t', more⟩ q0 q1 ⟨ht', h1, h2, h3⟩ next
      dsimp only at ht' h1 h2 h3 ⊢
      refine EvP.step (fun k => coppicerref_Table.l3.eq_2 _ _ _ _ _ _ _ _ _ k) (EvP.pos q1 (EvP.pos q0 ?_))
      exact tab_l4 K N st rs w G hw t _ q q0 q1 (fun t more a b c d => next (t, more) ⟨a, b, c, d⟩) t' more ht' h1 h2 h3
theorem table_ev : EvP (fun k => coppicerref_Table.f k K N st rs w) (TabDone K N rs w) := by
  have hN0 := G.N0; have hN1 := G.N1
  unfold coppicerref_Table.f
  simp only [w64 (show -9223372036854775808 ≤ (w.length : Int) + 1 by omega) (by omega)]
  refine EvP.pos (by omega) (EvP.pos (by omega) ?_)
  -- rows a and up are not made yet
  refine EvP.loop (σ := Tab3) (L := fun k a t => coppicerref_Table.l0 K N st rs w ((w.length : Int) + 1) k t a) (n := N)
    (fun a t => (t.length : Int) = N ∧ (∀ a', 0 ≤ a' → a' < a → ((rd_L7 t a').length : Int) = w.length + 1) ∧ (∀ a' i : Int, 0 ≤ a' → a' < a → 0 ≤ i → i ≤ w.length → ((rd_L6 (rd_L7 t a') i).length : Int) = w.length + 1) ∧ NoneT t) ?_ ?_ 0 _ (Int.le_refl _) (by omega) ⟨by rw [List.length_replicate]; omega, fun a' x y => by omega, fun a' i x y => by omega, fun a i j _ _ => by unfold tellB; rw [rd3_rep]; exact rd1_nil _⟩
  · rintro t ⟨h1, h2, h3, h4⟩
    refine EvP.step (fun k => coppicerref_Table.l0.eq_2 _ _ _ _ _ _ _ _ k) (EvP.neg (by omega) ?_)
    refine tab_l2 K N st rs w G hw _ t ⟨⟨h1, h2, h3⟩, fun a i j h => ?_⟩ (Nat.le_refl _)
    have := h.2.2
    rw [h4 a i j h.1.1 h.2.1.1] at this; cases this
  · rintro a t a0 a1 ⟨h1, h2, h3, h4⟩ next
    refine EvP.step (fun k => coppicerref_Table.l0.eq_2 _ _ _ _ _ _ _ _ k) (EvP.pos a1 (EvP.pos (by omega) (EvP.pos (by omega) (EvP.pos a0 (EvP.pos (by omega) ?_)))))
    refine EvP.loop (σ := Tab3) (L := fun k i t => coppicerref_Table.l1 K N st rs w ((w.length : Int) + 1) k t a i) (n := (w.length : Int) + 1)
      (fun i t => (t.length : Int) = N ∧ (∀ a', 0 ≤ a' → a' < a → ((rd_L7 t a').length : Int) = w.length + 1) ∧ (∀ a' i : Int, 0 ≤ a' → a' < a → 0 ≤ i → i ≤ w.length → ((rd_L6 (rd_L7 t a') i).length : Int) = w.length + 1) ∧ NoneT t ∧ ((rd_L7 t a).length : Int) = w.length + 1 ∧ ∀ i' : Int, 0 ≤ i' → i' < i → ((rd_L6 (rd_L7 t a) i').length : Int) = w.length + 1) ?_ ?_ 0 _ (Int.le_refl _) (by omega) ⟨by rw [List.length_set]; exact h1, fun a' x y => by rw [rd3_set _ _ _ _ a0 (by omega) x, if_neg (by omega)]; exact h2 a' x y, fun a' i x y z u => by rw [rd3_set _ _ _ _ a0 (by omega) x, if_neg (by omega)]; exact h3 a' i x y z u, fun a' i j x y => ?_, by rw [rd3_set _ _ _ _ a0 (by omega) a0, if_pos rfl, List.length_replicate]; omega, fun i' x y => by omega⟩
    · rintro t ⟨h1, h2, h3, h4, h5, h6⟩
      refine EvP.step (fun k => coppicerref_Table.l1.eq_2 _ _ _ _ _ _ _ _ _ k) (EvP.neg (by omega) ?_)
      simp only [w64 (show -9223372036854775808 ≤ a + 1 by omega) (by omega)]
      refine next t ⟨h1, fun a' x y => ?_, fun a' i x y z u => ?_, h4⟩
      · by_cases c : a' = a
        · rw [c]; exact h5
        · exact h2 a' x (by omega)
      · by_cases c : a' = a
        · rw [c]; exact h6 i z (by omega)
        · exact h3 a' i x (by omega) z u
    · rintro i t i0 i1 ⟨h1, h2, h3, h4, h5, h6⟩ next2
      refine EvP.step (fun k => coppicerref_Table.l1.eq_2 _ _ _ _ _ _ _ _ _ k) ?_
      simp only [w64 (show -9223372036854775808 ≤ i + 1 by omega) (by omega)]
      refine EvP.pos i1 (EvP.pos a0 (EvP.pos (by omega) (EvP.pos (by omega) (EvP.pos (by omega) (EvP.pos i0 (EvP.pos (by omega) ?_))))))
      refine next2 _ ⟨by rw [List.length_set]; exact h1, fun a' x y => by rw [rd3_set _ _ _ _ a0 (by omega) x, if_neg (by omega)]; exact h2 a' x y, fun a' i x y z u => by rw [rd3_set _ _ _ _ a0 (by omega) x, if_neg (by omega)]; exact h3 a' i x y z u, fun a' i' j x y => ?_, by rw [rd3_set _ _ _ _ a0 (by omega) a0, if_pos rfl, List.length_set]; exact h5, fun i' x y => ?_⟩
      · unfold tellB
        rw [rd3_set _ _ _ _ a0 (by omega) x]
        split
        · rename_i c
          rw [rd2_set _ _ _ _ i0 (by omega) y]
          split
          · exact rd1_rep _ _
          · exact h4 a i' j a0 y
        · exact h4 a' i' j x y
      · rw [rd3_set _ _ _ _ a0 (by omega) a0, if_pos rfl, rd2_set _ _ _ _ i0 (by omega) x]
        split
        · rw [List.length_replicate]; omega
        · exact h6 i' x (by omega)
    · unfold tellB
      rw [rd3_set _ _ _ _ a0 (by omega) x]
      split
      · rw [rd2_rep]; exact rd1_nil _
      · exact h4 a' i j x y
end

-- IMPORT Derived.Laws.BitsAllLaws
theorem andNot_ne (a b : Nat) (ha : a < 2 ^ 32) (hb : b < 2 ^ 32) : (Go.bits .andNot .u32 (a : Int) (b : Int) != 0) = decide (b ||| a ≠ b) := by
  rw [Go.u32_andNot_nat a b (by omega) (by omega)]
  have e : 4294967295 - b = 2 ^ 32 - (b + 1) := by omega
  rw [e, Bool.eq_iff_iff, bne_iff_ne, decide_eq_true_eq]
  constructor
  · intro h q
    apply h
    have : a &&& (2 ^ 32 - (b + 1)) = 0 := by
      apply Nat.eq_of_testBit_eq
      intro i
      rw [Nat.testBit_and, Nat.testBit_two_pow_sub_succ hb, Nat.zero_testBit]
      have := congrArg (fun z => z.testBit i) q
      simp only [Nat.testBit_or] at this
      cases h1 : a.testBit i <;> cases h2 : b.testBit i <;> simp_all
    rw [this]; rfl
  · intro h q
    apply h
    have q : a &&& (2 ^ 32 - (b + 1)) = 0 := by omega
    apply Nat.eq_of_testBit_eq
    intro i
    have h3 := congrArg (fun z => z.testBit i) q
    simp only [Nat.testBit_and, Nat.testBit_two_pow_sub_succ hb, Nat.zero_testBit] at h3
    rw [Nat.testBit_or]
    cases h1 : a.testBit i with
    | false => simp
    | true =>
      have hi : i < 32 := by
        rcases Nat.lt_or_ge i 32 with c | c
        · exact c
        · rw [Nat.testBit_lt_two_pow (Nat.lt_of_lt_of_le ha (Nat.pow_le_pow_right (by omega) c))] at h1; cases h1
      rw [h1, decide_eq_true hi] at h3
      cases h2 : b.testBit i with
      | true => rfl
      | false => rw [h2] at h3; simp at h3

/-! ### the program's table: of each name and beginning the ends, as a word of bits -/
abbrev TabI := List (List Int)
theorem rdL_set (t : TabI) (a a' : Int) (r : List Int) (h0 : 0 ≤ a) (h1 : a < t.length) (h2 : 0 ≤ a') : rd_L4 (t.set a.toNat r) a' = if a' = a then r else rd_L4 t a' := by
  simp only [rd_L4, List.getD_eq_getElem?_getD]
  by_cases c : a' = a
  · subst c; rw [if_pos rfl, List.getElem?_set_self (by omega)]; rfl
  · rw [if_neg c, List.getElem?_set_ne (by omega)]
theorem rdL_rep (n : Nat) (a : Int) : rd_L4 (List.replicate n ([] : List Int)) a = [] := by
  simp only [rd_L4, List.getD_eq_getElem?_getD]
  rw [List.getElem?_replicate]; split <;> rfl
theorem rd_nil0 (a : Int) : rd ([] : List Int) a = 0 := by simp [rd]
theorem rd_rep0 (n : Nat) (a : Int) : rd (List.replicate n (0 : Int)) a = 0 := by
  simp only [rd, List.getD_eq_getElem?_getD]
  rw [List.getElem?_replicate]; split <;> rfl
theorem rdL_self (t : TabI) (a : Int) (h0 : 0 ≤ a) (h1 : a < t.length) : t.set a.toNat (rd_L4 t a) = t := by
  have h : a.toNat < t.length := by omega
  have e : rd_L4 t a = t[a.toNat] := by simp [rd_L4, List.getD_eq_getElem?_getD, List.getElem?_eq_getElem h]
  rw [e, List.set_getElem_self]
theorem rd_self (t : List Int) (a : Int) (h0 : 0 ≤ a) (h1 : a < t.length) : t.set a.toNat (rd t a) = t := by
  have h : a.toNat < t.length := by omega
  rw [rd_getElem h, List.set_getElem_self]
def ent (t : TabI) (a i : Int) : Nat := (rd (rd_L4 t a) i).toNat
def tellI (t : TabI) (a i j : Int) : Bool := (ent t a i).testBit j.toNat
structure RectI (N n : Int) (t : TabI) : Prop where
  l1 : (t.length : Int) = N
  l2 : ∀ a, 0 ≤ a → a < N → ((rd_L4 t a).length : Int) = n + 1
  l3 : ∀ a i, 0 ≤ a → a < N → 0 ≤ i → i ≤ n → rd (rd_L4 t a) i = ((ent t a i : Nat) : Int) ∧ ent t a i < 2 ^ (n.toNat + 1)
def Ti (N n : Int) (t : TabI) (a i j : Int) : Prop := (0 ≤ a ∧ a < N) ∧ (0 ≤ i ∧ i ≤ j ∧ j ≤ n) ∧ tellI t a i j = true
section
variable (K N st : Int) (rs : List S47) (w : List Int) (G : GOK K N st rs) (hw : w.length ≤ 12)
structure FillInv (t : TabI) : Prop where
  rect : RectI N (w.length : Int) t
  sound : ∀ a i : Int, ∀ j : Nat, 0 ≤ a → a < N → 0 ≤ i → i ≤ w.length → (ent t a i).testBit j = true → i ≤ j ∧ (j : Int) ≤ w.length ∧ Mk K rs w [K + a] i j
def ClI (t : TabI) (q i : Int) : Prop := ∀ q' i' j' : Int, 0 ≤ q' → (q' < q ∨ q' = q ∧ i' < i) → q' < rs.length → 0 ≤ i' → i' ≤ j' → j' ≤ w.length →
  Over K w (Ti N (w.length : Int) t) (rd_T47 rs q').f1 i' j' → Ti N (w.length : Int) t (rd_T47 rs q').f0 i' j'
def FillDone (t : TabI) : Prop := RectI N (w.length : Int) t ∧ ∀ a i j : Int, 0 ≤ a → a < N → 0 ≤ i → i ≤ j → j ≤ w.length → (tellI t a i j = true ↔ Mk K rs w [K + a] i j)
include G hw
theorem pow32 {x : Nat} (h : x < 2 ^ (((w.length : Nat) : Int).toNat + 1)) : x < 2 ^ 32 := Nat.lt_of_lt_of_le h (Nat.pow_le_pow_right (by omega) (by omega))
theorem ends_l0 (t : TabI) (ht : FillInv K N rs w t) (l : List Int) (hl : ∀ x ∈ l, 0 ≤ x ∧ x < K + N) (hl4 : l.length ≤ 4) : ∀ (d : Nat) (q : Int) (F : Nat), 0 ≤ q → q + d = l.length → F < 2 ^ (((w.length : Nat) : Int).toNat + 1) →
    EvP (fun k => table_spans_ends.l0 k t w (F : Int) l (l.length : Int) q K N st rs) (fun r => ∃ E : Nat, r = (E : Int) ∧ E < 2 ^ (((w.length : Nat) : Int).toNat + 1) ∧ ∀ j : Nat, E.testBit j = true ↔ ∃ i : Nat, F.testBit i = true ∧ Over K w (Ti N (w.length : Int) t) (l.drop q.toNat) i j) := by
  have hK0 := G.K0; have hK1 := G.K1; have hN0 := G.N0; have hN1 := G.N1
  intro d
  induction d with
  | zero =>
    intro q F q0 qd hF
    refine EvP.step (fun k => table_spans_ends.l0.eq_2 _ _ _ _ _ _ _ _ _ _ k) (EvP.neg (by omega) (EvP.now ⟨F, rfl, hF, fun j => ?_⟩))
    rw [List.drop_eq_nil_of_le (by omega)]
    constructor
    · intro h; exact ⟨j, h, rfl⟩
    · rintro ⟨i, h, e⟩
      have e : (i : Int) = j := e
      rwa [show j = i by omega]
  | succ d ih =>
    intro q F q0 qd hF
    have hx := hl _ (rd_mem q0 (show q < l.length by omega))
    have hF32 := pow32 K N st rs w G hw hF
    refine EvP.step (fun k => table_spans_ends.l0.eq_2 _ _ _ _ _ _ _ _ _ _ k) (EvP.pos (by omega) (EvP.pos q0 (EvP.pos (by omega) ?_)))
    simp only [w64 (show -9223372036854775808 ≤ (w.length : Int) + 1 by omega) (by omega)]
    rw [drop_rd q0 (by omega)]
    obtain ⟨x, ex⟩ : ∃ x, rd l q = x := ⟨_, rfl⟩
    rw [ex] at hx ⊢
    refine EvP.loop (σ := Nat) (L := fun k i tv => table_spans_ends.l1 k t w (F : Int) x (tv : Int) l (l.length : Int) q ((w.length : Int) + 1) i K N st rs) (n := (w.length : Int) + 1)
      (fun i tv => tv < 2 ^ (((w.length : Nat) : Int).toNat + 1) ∧ ∀ j : Nat, tv.testBit j = true ↔ ∃ i' : Nat, (i' : Int) < i ∧ F.testBit i' = true ∧ One K w (Ti N (w.length : Int) t) x i' j) ?_ ?_ 0 0 (Int.le_refl _) (by omega) ⟨Nat.two_pow_pos _, fun j => ⟨fun h => by simp at h, fun ⟨i', h, _⟩ => by omega⟩⟩
    · rintro tv ⟨h1, h2⟩
      refine EvP.step (fun k => table_spans_ends.l1.eq_2 _ _ _ _ _ _ _ _ _ _ _ _ _ _ k) (EvP.neg (by omega) ?_)
      simp only [w64 (show -9223372036854775808 ≤ q + 1 by omega) (by omega)]
      refine EvP.mono (ih (q + 1) tv (by omega) (by omega) h1) ?_
      rintro r ⟨E, e1, e2, e3⟩
      refine ⟨E, e1, e2, fun j => ?_⟩
      rw [e3 j]
      constructor
      · rintro ⟨m, hm, ho⟩
        obtain ⟨i', _, hi2, hi3⟩ := (h2 m).1 hm
        have hle : (i' : Int) ≤ m := by
          rcases hi3 with hi3 | hi3
          · exact hi3.2.2.1.2.1
          · omega
        exact ⟨i', hi2, (m : Int), hle, ho.le, hi3, ho⟩
      · rintro ⟨i, hi, m, hm1, hm2, hm3, hm4⟩
        obtain ⟨m', rfl⟩ := Int.eq_ofNat_of_zero_le (show 0 ≤ m by omega)
        refine ⟨m', (h2 m').2 ⟨i, ?_, hi, hm3⟩, hm4⟩
        have : ¬ ((w.length : Int) + 1 ≤ i) := by
          intro c
          have := Nat.testBit_lt_two_pow (Nat.lt_of_lt_of_le hF (Nat.pow_le_pow_right (by omega) (show ((w.length : Nat) : Int).toNat + 1 ≤ i by omega)))
          rw [hi] at this; cases this
        omega
    · rintro i tv i0 i1 ⟨h1, h2⟩ next
      obtain ⟨m, rfl⟩ := Int.eq_ofNat_of_zero_le i0
      have to32 := pow32 K N st rs w G hw h1
      refine EvP.step (fun k => table_spans_ends.l1.eq_2 _ _ _ _ _ _ _ _ _ _ _ _ _ _ k) (EvP.pos i1 (EvP.pos i0 ?_))
      simp only [w64 (show -9223372036854775808 ≤ (m : Int) + 1 by omega) (by omega)]
      have hb := bit_shr0 F m hF32 (by omega)
      have same : (∀ j : Nat, F.testBit m = true → One K w (Ti N (w.length : Int) t) x m j → tv.testBit j = true) → EvP (fun k => table_spans_ends.l1 k t w (F : Int) x (tv : Int) l (l.length : Int) q ((w.length : Int) + 1) ((m : Int) + 1) K N st rs) (fun r => ∃ E : Nat, r = (E : Int) ∧ E < 2 ^ (((w.length : Nat) : Int).toNat + 1) ∧ ∀ j : Nat, E.testBit j = true ↔ ∃ i : Nat, F.testBit i = true ∧ Over K w (Ti N (w.length : Int) t) (x :: l.drop (q + 1).toNat) i j) := by
        intro h
        refine next tv ⟨h1, fun j => ?_⟩
        rw [h2 j]
        constructor
        · rintro ⟨i', a, b⟩; exact ⟨i', by omega, b⟩
        · rintro ⟨i', a, b, c⟩
          by_cases e : i' = m
          · subst e; exact (h2 j).1 (h j b c)
          · exact ⟨i', by omega, b, c⟩
      have add : ∀ A : Nat, A < 2 ^ (((w.length : Nat) : Int).toNat + 1) → F.testBit m = true → (∀ j : Nat, A.testBit j = true ↔ One K w (Ti N (w.length : Int) t) x m j) → EvP (fun k => table_spans_ends.l1 k t w (F : Int) x ((tv ||| A : Nat) : Int) l (l.length : Int) q ((w.length : Int) + 1) ((m : Int) + 1) K N st rs) (fun r => ∃ E : Nat, r = (E : Int) ∧ E < 2 ^ (((w.length : Nat) : Int).toNat + 1) ∧ ∀ j : Nat, E.testBit j = true ↔ ∃ i : Nat, F.testBit i = true ∧ Over K w (Ti N (w.length : Int) t) (x :: l.drop (q + 1).toNat) i j) := by
        intro A hA hm hj
        refine next (tv ||| A) ⟨Nat.or_lt_two_pow h1 hA, fun j => ?_⟩
        rw [Nat.testBit_or, Bool.or_eq_true, h2 j, hj j]
        constructor
        · rintro (⟨i', a, b⟩ | c)
          · exact ⟨i', by omega, b⟩
          · exact ⟨m, by omega, hm, c⟩
        · rintro ⟨i', a, b, c⟩
          by_cases e : i' = m
          · subst e; exact .inr c
          · exact .inl ⟨i', by omega, b, c⟩
      cases hm : F.testBit m with
      | false =>
        rw [hm] at hb
        refine EvP.pos (by simpa using hb) (same (fun j h => by rw [hm] at h; cases h))
      | true =>
        rw [hm] at hb
        refine EvP.neg (by simpa using hb) ?_
        by_cases c : x ≥ K
        · have a0 : 0 ≤ x - K := by omega
          have a1 : x - K < N := by omega
          have e1 := ht.rect.l1
          have e2 := ht.rect.l2 _ a0 a1
          have e3 := ht.rect.l3 _ (m : Int) a0 a1 i0 (by omega)
          refine EvP.pos c ?_
          simp only [w64 (show -9223372036854775808 ≤ x - K by omega) (by omega)]
          refine EvP.pos a0 (EvP.pos (by omega) (EvP.pos (by omega) ?_))
          rw [e3.1, u32_or tv _ to32 (pow32 K N st rs w G hw e3.2)]
          refine add _ e3.2 hm (fun j => ?_)
          constructor
          · intro h
            have := ht.sound _ _ j a0 a1 i0 (by omega) h
            exact .inl ⟨c, ⟨a0, a1⟩, ⟨i0, this.1, this.2.1⟩, by unfold tellI; rw [Int.toNat_natCast]; exact h⟩
          · rintro (h | h)
            · have := h.2.2.2; unfold tellI at this; rwa [Int.toNat_natCast] at this
            · omega
        · refine EvP.neg c ?_
          by_cases c2 : (m : Int) < (w.length : Int)
          · refine EvP.pos c2 ?_
            by_cases c3 : rd w (m : Int) = x
            · refine EvP.pos c3 (EvP.pos (by omega) ?_)
              have eb := bit_or tv (m + 1) to32 (by omega)
              rw [show ((m + 1 : Nat) : Int) = (m : Int) + 1 by omega] at eb
              rw [eb]
              refine add (2 ^ (m + 1)) (Nat.pow_lt_pow_right (by omega) (by omega)) hm (fun j => ?_)
              rw [Nat.testBit_two_pow, decide_eq_true_eq]
              constructor
              · intro h; exact .inr ⟨by omega, by omega, c2, c3⟩
              · rintro (h | h)
                · omega
                · omega
            · refine EvP.neg c3 (same (fun j _ h => ?_))
              rcases h with h | h
              · omega
              · exact absurd h.2.2.2 c3
          · refine EvP.neg c2 (same (fun j _ h => ?_))
            rcases h with h | h
            · omega
            · omega
theorem ends_ev (t : TabI) (ht : FillInv K N rs w t) (l : List Int) (hl : ∀ x ∈ l, 0 ≤ x ∧ x < K + N) (hl4 : l.length ≤ 4) (i : Int) (i0 : 0 ≤ i) (i1 : i ≤ w.length) :
    EvP (fun k => table_spans_ends.f k t K N st rs w l (shl .u32 1 i)) (fun r => ∃ E : Nat, r = (E : Int) ∧ E < 2 ^ (((w.length : Nat) : Int).toNat + 1) ∧ ∀ j : Nat, E.testBit j = true ↔ Over K w (Ti N (w.length : Int) t) l i j) := by
  obtain ⟨m, rfl⟩ := Int.eq_ofNat_of_zero_le i0
  rw [shl1 m (by omega)]
  unfold table_spans_ends.f
  refine EvP.mono (ends_l0 K N st rs w G hw t ht l hl hl4 l.length 0 (2 ^ m) (Int.le_refl _) (by omega) (Nat.pow_lt_pow_right (by omega) (by omega))) ?_
  rintro r ⟨E, e1, e2, e3⟩
  refine ⟨E, e1, e2, fun j => ?_⟩
  rw [e3 j]
  constructor
  · rintro ⟨i, hi, ho⟩
    rw [Nat.testBit_two_pow, decide_eq_true_eq] at hi
    subst hi; exact ho
  · intro h; exact ⟨m, Nat.testBit_two_pow_self, h⟩
theorem fill_done {t : TabI} (h : FillInv K N rs w t) (hc : ClI K N rs w t rs.length 0) : FillDone K N rs w t := by
  refine ⟨h.rect, fun a i j a0 a1 i0 ij j1 => ⟨fun q => ?_, fun q => ?_⟩⟩
  · have := (h.sound a i j.toNat a0 a1 i0 (by omega) q).2.2
    rwa [show ((j.toNat : Nat) : Int) = j by omega] at this
  have hcl : ∀ r ∈ rs, ∀ i j : Int, 0 ≤ i → i ≤ j → j ≤ w.length → Over K w (Ti N (w.length : Int) t) r.f1 i j → Ti N (w.length : Int) t r.f0 i j := by
    intro r hr i j i0 ij j1 ho
    obtain ⟨m, hm, rfl⟩ := List.mem_iff_getElem.1 hr
    have e : rd_T47 rs (m : Int) = rs[m] := by simp [rd_T47, List.getD_eq_getElem?_getD, List.getElem?_eq_getElem hm]
    have := hc (m : Int) i j (by omega) (.inl (by omega)) (by omega) i0 ij j1
    rw [e] at this
    exact this ho
  have := Mk.over (T := Ti N (w.length : Int) t) hcl (fun r hr => G.r0 r hr) q i0 j1 (by omega)
  obtain ⟨m, _, _, h1, h2⟩ := this
  have h2 : m = j := h2
  subst h2
  rcases h1 with h1 | h1
  · rw [show K + a - K = a by omega] at h1; exact h1.2.2.2
  · omega
/-- What an element of the table becomes by more ends. -/
theorem ent_put {t : TabI} (ht : RectI N (w.length : Int) t) {a i : Int} (a0 : 0 ≤ a) (a1 : a < N) (i0 : 0 ≤ i) (i1 : i ≤ w.length) (E : Nat) {a' i' : Int} (a'0 : 0 ≤ a') (i'0 : 0 ≤ i') :
    rd (rd_L4 (t.set a.toNat ((rd_L4 t a).set i.toNat ((ent t a i ||| E : Nat) : Int))) a') i' = if a' = a ∧ i' = i then ((ent t a i ||| E : Nat) : Int) else rd (rd_L4 t a') i' := by
  have e1 := ht.l1
  have e2 := ht.l2 a a0 a1
  rw [rdL_set _ _ _ _ a0 (by omega) a'0]
  by_cases c : a' = a
  · subst c
    rw [if_pos rfl]
    by_cases d : i' = i
    · subst d; rw [rd_set_eq _ _ _ i0 (by omega), if_pos ⟨rfl, rfl⟩]
    · rw [rd_set_ne _ _ _ _ i0 i'0 d, if_neg (fun q => d q.2)]
  · rw [if_neg c, if_neg (fun q => c q.1)]
theorem inv_put {t : TabI} (ht : FillInv K N rs w t) {a i : Int} (a0 : 0 ≤ a) (a1 : a < N) (i0 : 0 ≤ i) (i1 : i ≤ w.length) (E : Nat) (hE : E < 2 ^ (((w.length : Nat) : Int).toNat + 1))
    (hs : ∀ j : Nat, E.testBit j = true → i ≤ j ∧ (j : Int) ≤ w.length ∧ Mk K rs w [K + a] i j) :
    FillInv K N rs w (t.set a.toNat ((rd_L4 t a).set i.toNat ((ent t a i ||| E : Nat) : Int))) := by
  have e1 := ht.rect.l1
  have e2 := ht.rect.l2 a a0 a1
  have e3 := ht.rect.l3 a i a0 a1 i0 i1
  have en : ∀ a' i', 0 ≤ a' → 0 ≤ i' → ent (t.set a.toNat ((rd_L4 t a).set i.toNat ((ent t a i ||| E : Nat) : Int))) a' i' = if a' = a ∧ i' = i then (ent t a i ||| E) else ent t a' i' := by
    intro a' i' x y
    show (rd (rd_L4 _ a') i').toNat = _
    rw [ent_put K N st rs w G hw ht.rect a0 a1 i0 i1 E x y]
    split
    · omega
    · rfl
  refine ⟨⟨by rw [List.length_set]; exact e1, fun a' x y => ?_, fun a' i' x y z u => ?_⟩, fun a' i' j x y z u h => ?_⟩
  · rw [rdL_set _ _ _ _ a0 (by omega) x]
    split
    · rw [List.length_set]; exact e2
    · exact ht.rect.l2 a' x y
  · rw [en a' i' x z, ent_put K N st rs w G hw ht.rect a0 a1 i0 i1 E x z]
    split
    · exact ⟨rfl, Nat.or_lt_two_pow e3.2 hE⟩
    · exact ht.rect.l3 a' i' x y z u
  · rw [en a' i' x z] at h
    split at h
    · rename_i c
      obtain ⟨rfl, rfl⟩ := c
      rw [Nat.testBit_or, Bool.or_eq_true] at h
      rcases h with h | h
      · exact ht.sound a' i' j x y z u h
      · exact hs j h
    · exact ht.sound a' i' j x y z u h
theorem mu_put {t : TabI} (ht : FillInv K N rs w t) {a i : Int} (a0 : 0 ≤ a) (a1 : a < N) (i0 : 0 ≤ i) (i1 : i ≤ w.length) (E : Nat) (hE : E < 2 ^ (((w.length : Nat) : Int).toNat + 1)) (hne : ent t a i ||| E ≠ ent t a i) :
    muF (w.length + 1) N.toNat (tellI t) < muF (w.length + 1) N.toNat (tellI (t.set a.toNat ((rd_L4 t a).set i.toNat ((ent t a i ||| E : Nat) : Int)))) := by
  have e3 := ht.rect.l3 a i a0 a1 i0 i1
  have en : ∀ a' i', 0 ≤ a' → 0 ≤ i' → ent (t.set a.toNat ((rd_L4 t a).set i.toNat ((ent t a i ||| E : Nat) : Int))) a' i' = if a' = a ∧ i' = i then (ent t a i ||| E) else ent t a' i' := by
    intro a' i' x y
    show (rd (rd_L4 _ a') i').toNat = _
    rw [ent_put K N st rs w G hw ht.rect a0 a1 i0 i1 E x y]
    split
    · omega
    · rfl
  obtain ⟨j, j1, j2, j3⟩ := bits_ne e3.2 (Nat.or_lt_two_pow e3.2 hE) (fun j h => by rw [Nat.testBit_or, h, Bool.true_or]) hne
  refine muF_lt (a := a.toNat) (i := i.toNat) (j := j) (fun a' i' j' x y z h => ?_) (by omega) (by omega) (by omega) ?_ ?_
  · unfold tellI at h ⊢
    rw [en a' i' x y]
    split
    · rename_i c
      obtain ⟨rfl, rfl⟩ := c
      rw [Nat.testBit_or, h, Bool.true_or]
    · exact h
  · unfold tellI
    rw [show (((a.toNat : Nat) : Int)) = a by omega, show ((i.toNat : Nat) : Int) = i by omega, Int.toNat_natCast]; exact j2
  · unfold tellI
    rw [show (((a.toNat : Nat) : Int)) = a by omega, show ((i.toNat : Nat) : Int) = i by omega, Int.toNat_natCast, en a i a0 i0, if_pos ⟨rfl, rfl⟩]; exact j3
theorem fill_l3 (t0 : TabI) (J : TabI → Prop) (q : Int) (q0 : 0 ≤ q) (q1 : q < rs.length)
    (hend : ∀ t more, FillInv K N rs w t → muF (w.length + 1) N.toNat (tellI t0) ≤ muF (w.length + 1) N.toNat (tellI t) → (more = true → muF (w.length + 1) N.toNat (tellI t0) < muF (w.length + 1) N.toNat (tellI t)) → (more = false → ClI K N rs w t (q + 1) 0) → EvP (fun k => table_fill.l2 k w t more rs (rs.length : Int) (q + 1) K N st rs) J) :
    ∀ t more, FillInv K N rs w t → muF (w.length + 1) N.toNat (tellI t0) ≤ muF (w.length + 1) N.toNat (tellI t) → (more = true → muF (w.length + 1) N.toNat (tellI t0) < muF (w.length + 1) N.toNat (tellI t)) → (more = false → ClI K N rs w t q 0) →
      EvP (fun k => table_fill.l3 k w t more rs (rs.length : Int) q ((w.length : Int) + 1) 0 K N st rs (rd_T47 rs q).f0 (rd_T47 rs q).f1) J := by
  have hlen := G.len
  have hm := rule_mem q0 q1
  have r0 := G.r0 _ hm
  have r1 := G.r1 _ hm
  intro t more ht h1 h2 h3
  refine EvP.loop (σ := TabI × Bool) (L := fun k i s => table_fill.l3 k w s.1 s.2 rs (rs.length : Int) q ((w.length : Int) + 1) i K N st rs (rd_T47 rs q).f0 (rd_T47 rs q).f1) (n := (w.length : Int) + 1)
    (fun i s => FillInv K N rs w s.1 ∧ muF (w.length + 1) N.toNat (tellI t0) ≤ muF (w.length + 1) N.toNat (tellI s.1) ∧ (s.2 = true → muF (w.length + 1) N.toNat (tellI t0) < muF (w.length + 1) N.toNat (tellI s.1)) ∧ (s.2 = false → ClI K N rs w s.1 q i)) ?_ ?_ 0 (t, more) (Int.le_refl _) (by omega) ⟨ht, h1, h2, h3⟩
  · rintro ⟨t, more⟩ ⟨ht, h1, h2, h3⟩
    dsimp only at ht h1 h2 h3 ⊢
    refine EvP.step (fun k => table_fill.l3.eq_2 _ _ _ _ _ _ _ _ _ _ _ _ _ _ k) (EvP.neg (by omega) ?_)
    simp only [w64 (show -9223372036854775808 ≤ q + 1 by omega) (by omega)]
    refine hend t more ht h1 h2 (fun hm => ?_)
    intro q' i' j' a b c d e f
    refine h3 hm q' i' j' a ?_ c d e f
    rcases b with b | ⟨b1, b⟩
    · by_cases x : q' = q
      · exact .inr ⟨x, by omega⟩
      · exact .inl (by omega)
    · omega
  · rintro i ⟨t, more⟩ i0 i1 ⟨ht, h1, h2, h3⟩ next
    dsimp only at ht h1 h2 h3 ⊢
    have e1 := ht.rect.l1
    have e2 := ht.rect.l2 _ r0 r1
    have e3 := ht.rect.l3 _ i r0 r1 i0 (by omega)
    refine EvP.step (fun k => table_fill.l3.eq_2 _ _ _ _ _ _ _ _ _ _ _ _ _ _ k) (EvP.pos i1 (EvP.pos i0 ?_))
    simp only [w64 (show -9223372036854775808 ≤ i + 1 by omega) (by omega)]
    refine EvP.bindP (ends_ev K N st rs w G hw t ht (rd_T47 rs q).f1 (fun x hx => ⟨G.x0 _ hm x hx, G.x1 _ hm x hx⟩) (G.rl _ hm) i i0 (by omega)) ?_
    rintro _ ⟨E, rfl, hE, hj⟩
    have e32 := pow32 K N st rs w G hw e3.2
    have E32 := pow32 K N st rs w G hw hE
    rw [e3.1, u32_or _ _ e32 E32, andNot_ne _ _ E32 e32]
    have over_mk : ∀ j : Nat, E.testBit j = true → i ≤ j ∧ (j : Int) ≤ w.length ∧ Mk K rs w [K + (rd_T47 rs q).f0] i j := by
      intro j h
      have ho := (hj j).1 h
      have : (j : Int) ≤ w.length := by
        rcases Int.lt_or_le (w.length : Int) j with c | c
        · have := Nat.testBit_lt_two_pow (Nat.lt_of_lt_of_le hE (Nat.pow_le_pow_right (by omega) (show ((w.length : Nat) : Int).toNat + 1 ≤ j by omega)))
          rw [h] at this; cases this
        · exact c
      refine ⟨ho.le, this, Mk.rule hm (Over.mk (fun a i j h => ?_) i0 ho)⟩
      have := (ht.sound a i j.toNat h.1.1 h.1.2 h.2.1.1 (by have := h.2.1; omega) h.2.2).2.2
      rwa [show ((j.toNat : Nat) : Int) = j by have := h.2.1; omega] at this
    have inv := inv_put K N st rs w G hw ht r0 r1 i0 (show i ≤ w.length by omega) E hE over_mk
    have up : ∀ more', (more' = true → more = true ∨ ent t (rd_T47 rs q).f0 i ||| E ≠ ent t (rd_T47 rs q).f0 i) → (more' = false → more = false ∧ ent t (rd_T47 rs q).f0 i ||| E = ent t (rd_T47 rs q).f0 i) →
        EvP (fun k => table_fill.l3 k w (t.set (rd_T47 rs q).f0.toNat ((rd_L4 t (rd_T47 rs q).f0).set i.toNat ((ent t (rd_T47 rs q).f0 i ||| E : Nat) : Int))) more' rs (rs.length : Int) q ((w.length : Int) + 1) (i + 1) K N st rs (rd_T47 rs q).f0 (rd_T47 rs q).f1) J := by
      intro more' hy hn
      by_cases c : ent t (rd_T47 rs q).f0 i ||| E = ent t (rd_T47 rs q).f0 i
      · have same : t.set (rd_T47 rs q).f0.toNat ((rd_L4 t (rd_T47 rs q).f0).set i.toNat ((ent t (rd_T47 rs q).f0 i ||| E : Nat) : Int)) = t := by
          rw [c, ← e3.1, rd_self _ _ i0 (by omega), rdL_self _ _ r0 (by omega)]
        rw [same]
        refine next (t, more') ⟨ht, h1, fun h => ?_, fun h => ?_⟩
        · rcases hy h with x | x
          · exact h2 x
          · exact absurd c x
        · have h3 := h3 (hn h).1
          intro q' i' j' a b c' d e f g
          by_cases x : q' = q ∧ i' = i
          · obtain ⟨rfl, rfl⟩ := x
            refine ⟨⟨r0, r1⟩, ⟨d, e, f⟩, ?_⟩
            unfold tellI
            have hb := (hj j'.toNat).2 (by rwa [show ((j'.toNat : Nat) : Int) = j' by omega])
            rw [← c, Nat.testBit_or, hb, Bool.or_true]
          · refine h3 q' i' j' a ?_ c' d e f g
            rcases b with b | ⟨b1, b⟩
            · exact .inl b
            · exact .inr ⟨b1, by omega⟩
      · have lt := mu_put K N st rs w G hw ht r0 r1 i0 (show i ≤ w.length by omega) E hE c
        refine next (_, more') ⟨inv, Nat.le_trans h1 (Nat.le_of_lt lt), fun _ => Nat.lt_of_le_of_lt h1 lt, fun h => absurd (hn h).2 c⟩
    cases more with
    | true =>
      refine EvP.pos rfl (EvP.pos r0 (EvP.pos (by omega) (EvP.pos (by omega) ?_)))
      exact up true (fun _ => .inl rfl) (fun h => by cases h)
    | false =>
      refine EvP.neg (fun h => by cases h) (EvP.pos r0 (EvP.pos (by omega) (EvP.pos (by omega) ?_)))
      exact up _ (fun h => .inr (by simpa using h)) (fun h => ⟨rfl, by simpa using h⟩)
theorem fill_l1 : ∀ (d : Nat) (t : TabI), FillInv K N rs w t → N.toNat * ((w.length + 1) * (w.length + 1)) - muF (w.length + 1) N.toNat (tellI t) ≤ d → EvP (fun k => table_fill.l1 k w t true K N st rs) (FillDone K N rs w) := by
  have hlen := G.len
  have pass : ∀ (t : TabI) (J : TabI → Prop), FillInv K N rs w t → (∀ t' more, FillInv K N rs w t' → (more = true → muF (w.length + 1) N.toNat (tellI t) < muF (w.length + 1) N.toNat (tellI t')) → (more = false → ClI K N rs w t' rs.length 0) → EvP (fun k => table_fill.l1 k w t' more K N st rs) J) → EvP (fun k => table_fill.l1 k w t true K N st rs) J := by
    intro t J ht hJ
    refine EvP.step (fun k => table_fill.l1.eq_2 _ _ _ _ _ _ _ k) (EvP.pos rfl ?_)
    refine EvP.loop (σ := TabI × Bool) (L := fun k q s => table_fill.l2 k w s.1 s.2 rs (rs.length : Int) q K N st rs) (n := (rs.length : Int))
      (fun q s => FillInv K N rs w s.1 ∧ muF (w.length + 1) N.toNat (tellI t) ≤ muF (w.length + 1) N.toNat (tellI s.1) ∧ (s.2 = true → muF (w.length + 1) N.toNat (tellI t) < muF (w.length + 1) N.toNat (tellI s.1)) ∧ (s.2 = false → ClI K N rs w s.1 q 0)) ?_ ?_ 0 (t, false) (Int.le_refl _) (by omega) ⟨ht, Nat.le_refl _, fun h => (by cases h), fun _ q' i' j' a b => by omega⟩
    · rintro ⟨t', more⟩ ⟨ht', h1, h2, h3⟩
      dsimp only at ht' h1 h2 h3 ⊢
      refine EvP.step (fun k => table_fill.l2.eq_2 _ _ _ _ _ _ _ _ _ _ k) (EvP.neg (by omega) ?_)
      exact hJ t' more ht' h2 h3
    · rintro q ⟨t', more⟩ q0 q1 ⟨ht', h1, h2, h3⟩ next
      dsimp only at ht' h1 h2 h3 ⊢
      refine EvP.step (fun k => table_fill.l2.eq_2 _ _ _ _ _ _ _ _ _ _ k) (EvP.pos q1 (EvP.pos q0 (EvP.pos q1 ?_)))
      simp only [w64 (show -9223372036854775808 ≤ (w.length : Int) + 1 by omega) (by omega)]
      exact fill_l3 K N st rs w G hw t _ q q0 q1 (fun t more a b c d => next (t, more) ⟨a, b, c, d⟩) t' more ht' h1 h2 h3
  intro d
  induction d with
  | zero =>
    intro t ht hd
    refine pass t _ ht (fun t' more ht' h2 h3 => ?_)
    cases more with
    | true => have h2' := h2 rfl; have := muF_le (w.length + 1) N.toNat (tellI t'); omega
    | false => exact EvP.step (fun k => table_fill.l1.eq_2 _ _ _ _ _ _ _ k) (EvP.neg (fun h => by cases h) (EvP.now (fill_done K N st rs w G hw ht' (h3 rfl))))
  | succ d ih =>
    intro t ht hd
    refine pass t _ ht (fun t' more ht' h2 h3 => ?_)
    cases more with
    | true => exact ih t' ht' (by have h2' := h2 rfl; omega)
    | false => exact EvP.step (fun k => table_fill.l1.eq_2 _ _ _ _ _ _ _ k) (EvP.neg (fun h => by cases h) (EvP.now (fill_done K N st rs w G hw ht' (h3 rfl))))
theorem fill_ev : EvP (fun k => table_fill.f k K N st rs w) (FillDone K N rs w) := by
  have hN0 := G.N0; have hN1 := G.N1
  unfold table_fill.f
  refine EvP.pos (by omega) (EvP.pos (by omega) (EvP.bind (Ev.now _) ?_))
  refine EvP.loop (σ := TabI) (L := fun k a t => table_fill.l0 k w t ((List.replicate N.toNat ([] : List Int)).length : Int) a K N st rs) (n := ((List.replicate N.toNat ([] : List Int)).length : Int))
    (fun a t => (t.length : Int) = N ∧ (∀ a', 0 ≤ a' → a' < a → ((rd_L4 t a').length : Int) = w.length + 1) ∧ ∀ a' i : Int, 0 ≤ a' → 0 ≤ i → rd (rd_L4 t a') i = 0) ?_ ?_ 0 _ (Int.le_refl _) (by omega) ⟨by rw [List.length_replicate]; omega, fun a' x y => by omega, fun a i _ _ => by rw [rdL_rep]; exact rd_nil0 _⟩
  · rintro t ⟨h1, h2, h3⟩
    rw [List.length_replicate] at h2
    refine EvP.step (fun k => table_fill.l0.eq_2 _ _ _ _ _ _ _ _ k) (EvP.neg (by omega) ?_)
    have z : ∀ a i : Int, 0 ≤ a → 0 ≤ i → ent t a i = 0 := fun a i x y => by unfold ent; rw [h3 a i x y]; rfl
    refine fill_l1 K N st rs w G hw _ t ⟨⟨h1, fun a x y => h2 a x (by omega), fun a i x y u v => ⟨by rw [h3 a i x u, z a i x u]; rfl, by rw [z a i x u]; exact Nat.two_pow_pos _⟩⟩, fun a i j x y u v h => ?_⟩ (Nat.le_refl _)
    rw [z a i x u] at h; simp at h
  · rintro a t a0 a1 ⟨h1, h2, h3⟩ next
    rw [List.length_replicate] at a1
    refine EvP.step (fun k => table_fill.l0.eq_2 _ _ _ _ _ _ _ _ k) ?_
    simp only [w64 (show -9223372036854775808 ≤ (w.length : Int) + 1 by omega) (by omega), w64 (show -9223372036854775808 ≤ a + 1 by omega) (by omega)]
    refine EvP.pos (by rw [List.length_replicate]; omega) (EvP.pos (by omega) (EvP.pos (by omega) (EvP.pos a0 (EvP.pos (by omega) ?_))))
    refine next _ ⟨by rw [List.length_set]; exact h1, fun a' x y => ?_, fun a' i x y => ?_⟩
    · rw [rdL_set _ _ _ _ a0 (by omega) x]
      split
      · rw [List.length_replicate]; omega
      · exact h2 a' x (by omega)
    · rw [rdL_set _ _ _ _ a0 (by omega) x]
      split
      · exact rd_rep0 _ _
      · exact h3 a' i x y
end

/-! ### the names that make the whole word -/
theorem maskB_congr {p q : Nat → Bool} : ∀ n, (∀ i, i < n → p i = q i) → maskB p n = maskB q n
  | 0, _ => rfl
  | n + 1, h => by rw [maskB_succ, maskB_succ, maskB_congr n (fun i hi => h i (by omega)), h n (by omega)]
theorem maskB_or (p : Nat → Bool) (j : Nat) (h : p j = true) : maskB p j ||| 2 ^ j = maskB p (j + 1) := by
  apply Nat.eq_of_testBit_eq
  intro i
  rw [Nat.testBit_or, maskB_bit, maskB_bit, Nat.testBit_two_pow]
  by_cases e : i = j
  · subst e; simp [h]
  · have : decide (i < j) = decide (i < j + 1) := by congr 1; apply propext; omega
    rw [this]; simp [show ¬ j = i from fun q => e q.symm]
theorem twrong_ev (K N st : Int) (rs : List S47) (w : List Int) : Ev (fun k => table_wrong.f k K N st rs w) (if gcode K N st rs = 0 then wordCode K w else gcode K N st rs) := by
  unfold table_wrong.f
  refine Ev.bind (gcheck_ev K N st rs) ?_
  by_cases h : gcode K N st rs = 0
  · refine Ev.pos h ?_
    rw [if_pos h, Words_eq]
    exact Ev.now _
  · refine Ev.neg h ?_
    rw [if_neg h]; exact Ev.now _
theorem wordOf_ev (K N st : Int) (rs : List S47) (w : List Int) : Ev (fun k => coppicerlaw_wordOf.f k K N st rs w) (if gcode K N st rs = 0 then wordCode K w else gcode K N st rs) := by
  unfold coppicerlaw_wordOf.f
  refine Ev.bind (rcheck_ev K N st rs) ?_
  by_cases h : gcode K N st rs = 0
  · rw [if_pos h]
    refine Ev.pos h (Ev.bind (WordCheck_ev K w) (Ev.now _))
  · rw [if_neg h]; exact Ev.neg h (Ev.now _)
section
variable (K N st : Int) (rs : List S47) (w : List Int) (G : GOK K N st rs) (hw : w.length ≤ 12)
include G hw
theorem names_l0 (t : TabI) (ht : RectI N (w.length : Int) t) : Ev (fun k => table_Names.l0 k w 0 t (t.length : Int) 0) (((maskB (fun i => tellI t (i : Int) 0 (w.length : Int)) N.toNat : Nat) : Int), (0 : Int)) := by
  have hN0 := G.N0; have hN1 := G.N1
  have e1 := ht.l1
  rw [e1]
  refine Ev.loopc (σ := Nat) (L := fun k i (s : Nat) => table_Names.l0 k w (s : Int) t N i) (n := N) (fun i s => s = maskB (fun i => tellI t (i : Int) 0 (w.length : Int)) i.toNat) ?_ ?_ 0 0 (Int.le_refl _) (by omega) rfl
  · rintro s rfl
    exact Ev.step (fun k => table_Names.l0.eq_2 _ _ _ _ _ k) (Ev.neg (by omega) (Ev.now _))
  · rintro i s i0 i1 hs next
    have e2 := ht.l2 i i0 i1
    have e3 := ht.l3 i 0 i0 i1 (Int.le_refl _) (by omega)
    obtain ⟨m, rfl⟩ := Int.eq_ofNat_of_zero_le i0
    rw [Int.toNat_natCast] at hs
    refine Ev.step (fun k => table_Names.l0.eq_2 _ _ _ _ _ k) (Ev.pos i1 (Ev.pos i0 (Ev.pos (by omega) (Ev.pos (by omega) ?_))))
    simp only [w64 (show -9223372036854775808 ≤ (m : Int) + 1 by omega) (by omega)]
    have e32 : ent t (m : Int) 0 < 2 ^ 32 := Nat.lt_of_lt_of_le e3.2 (Nat.pow_le_pow_right (by omega) (by omega))
    have s32 : s < 2 ^ 32 := by
      have := maskB_lt (fun i => tellI t (i : Int) 0 (w.length : Int)) m
      rw [← hs] at this
      exact Nat.lt_of_lt_of_le this (Nat.pow_le_pow_right (by omega) (by omega))
    rw [e3.1]
    cases c : tellI t (m : Int) 0 (w.length : Int) with
    | true =>
      have hb : (ent t (m : Int) 0).testBit w.length = true := by unfold tellI at c; rwa [Int.toNat_natCast] at c
      have e := (bit_shr (ent t (m : Int) 0) w.length e32 (by omega)).2 hb
      rw [e, bit_or s m s32 (by omega)]
      refine next _ ?_
      rw [hs, show ((m : Int) + 1).toNat = m + 1 by omega]
      exact maskB_or _ _ c
    | false =>
      have hb : (ent t (m : Int) 0).testBit w.length = false := by unfold tellI at c; rwa [Int.toNat_natCast] at c
      have e := bit_shr0 (ent t (m : Int) 0) w.length e32 (by omega)
      rw [hb] at e
      have e : Go.bits .and .u32 (shr .u32 ((ent t (m : Int) 0 : Nat) : Int) (w.length : Int)) 1 = 0 := by simpa using e
      have z : shl .u32 0 (m : Int) = ((0 : Nat) : Int) := by unfold shl; rw [Int.zero_mul]; rfl
      rw [e, z, u32_or s 0 s32 (by decide), Nat.or_zero]
      refine next _ ?_
      rw [hs, show ((m : Int) + 1).toNat = m + 1 by omega, maskB_succ]
      simp [c]
theorem tnames_ev : ∃ m : Nat, Ev (fun k => table_Names.f k K N st rs w) (if wordCode K w = 0 then ((m : Int), 0) else (0, wordCode K w)) ∧ (wordCode K w = 0 → m < 2 ^ N.toNat ∧ ∀ i : Nat, i < N.toNat → (m.testBit i = true ↔ Mk K rs w [K + (i : Int)] 0 (w.length : Int))) := by
  have hg : ∀ r, Ev (fun k => table_wrong.f k K N st rs w) r → True := fun _ _ => trivial
  obtain ⟨t, ht, et⟩ := fill_ev K N st rs w G hw
  refine ⟨maskB (fun i => tellI t (i : Int) 0 (w.length : Int)) N.toNat, ?_, fun _ => ⟨maskB_lt _ _, fun i hi => ?_⟩⟩
  · have h := twrong_ev K N st rs w
    unfold table_Names.f
    refine Ev.bind h ?_
    have g0 : gcode K N st rs = 0 := by
      unfold gcode
      have hany : (rs.any fun r => decide ((r.f1.length : Int) > 4)) = false := by
        rw [List.any_eq_false]; intro r hr; have := G.rl r hr; simp; omega
      rw [if_neg (by have := G.K0; have := G.K1; have := G.N0; have := G.N1; have := G.len; rw [hany]; simp; omega), if_neg (by have := G.s0; have := G.s1; omega), if_neg]
      rw [Bool.not_eq_true, List.any_eq_false]
      intro r hr
      unfold ruleBad
      have a := G.r0 r hr; have b := G.r1 r hr
      simp only [Bool.or_eq_true, decide_eq_true_eq, List.any_eq_true, not_or, not_exists, not_and]
      refine ⟨by omega, by omega, fun x hx => ?_⟩
      have c := G.x0 r hr x hx; have d := G.x1 r hr x hx
      unfold sgnBad
      simp only [Bool.or_eq_true, decide_eq_true_eq]; omega
    rw [if_pos g0]
    by_cases c : wordCode K w = 0
    · rw [if_pos c]
      refine Ev.pos c (Ev.bind et ?_)
      exact names_l0 K N st rs w G hw t ht.1
    · rw [if_neg c]
      exact Ev.neg c (Ev.now _)
  · rw [maskB_bit, decide_eq_true hi, Bool.true_and]
    exact ht.2 (i : Int) 0 (w.length : Int) (by omega) (by omega) (Int.le_refl _) (by omega) (Int.le_refl _)
end

theorem bit_of_max (m st : Nat) (hN : st < 32) (hm : m < 2 ^ 32) : (Go.bits .and .u32 (shr .u32 (m : Int) (mx (st : Int) 0)) 1 == 1) = m.testBit st := by
  have e : mx (st : Int) 0 = (st : Int) := by unfold mx; rw [if_neg (by omega)]
  rw [e]
  have := bit_shr m st hm hN
  rw [Bool.eq_iff_iff, beq_iff_eq]; exact this
theorem bit_of_none (x : Int) : (Go.bits .and .u32 (shr .u32 0 x) 1 == 1) = false := by
  have e : shr .u32 0 x = ((0 : Nat) : Int) := by unfold shr; simp
  have h := u32_and 0 1 (by decide) (by decide)
  have h3 : ((1 : Nat) : Int) = 1 := rfl
  rw [h3] at h
  rw [e, h]; rfl
theorem TableTakes : coppicerlaw_TableTakes.Pure := by
  unfold coppicerlaw_TableTakes.Pure
  intro K N st rs w _ _ _ _ _ _
  apply Ev.rounds
  unfold coppicerlaw_TableTakes.f table_Takes.f
  have bad : ∀ c : Int, c ≠ 0 → Ev (fun k => table_Names.f k K N st rs w) ((0 : Int), c) → Ev (fun k => coppicerlaw_wordOf.f k K N st rs w) c →
      Ev (fun k => ((table_Names.f k K N st rs w).bind fun bt164 => (some (((Go.bits .and .u32 (shr .u32 bt164.1 (mx st 0)) 1) == 1), bt164.2))).bind fun bt196 => ((coppicerlaw_wordOf.f k K N st rs w).bind fun t198 => (if t198 = 0 then (if bt196.2 = 0 then ((coppicerref_TakesWord.f k K N st rs w).bind fun t199 => (some (bt196.1 == t199))) else (some false)) else (if bt196.2 = t198 then (some (!bt196.1)) else (some false))))) true := by
    intro c hc h1 h2
    refine Ev.bind (Ev.bind h1 (Ev.now _)) (Ev.bind h2 (Ev.neg hc (Ev.pos rfl (Ev.val ?_))))
    simp only [bit_of_none]; rfl
  by_cases g : gcode K N st rs = 0
  · have G := gcode_ok g
    have hN0 := G.N0; have hN1 := G.N1
    have h2 := wordOf_ev K N st rs w
    rw [if_pos g] at h2
    by_cases c : wordCode K w = 0
    · have hw := (wordCode_0 c).1
      obtain ⟨m, e1, e2⟩ := tnames_ev K N st rs w G hw
      rw [if_pos c] at e1
      obtain ⟨hm, hb⟩ := e2 c
      rw [c] at h2
      refine Ev.bind (Ev.bind e1 (Ev.now _)) (Ev.bind h2 (Ev.pos rfl (Ev.pos rfl ?_)))
      obtain ⟨t, ht, et⟩ := table_ev K N st rs w G hw
      have s0 := G.s0; have s1 := G.s1
      have l1 := ht.1.l1
      have l2 := ht.1.l2 st s0 s1
      have l3 := ht.1.l3 st 0 s0 s1 (Int.le_refl _) (by omega)
      unfold coppicerref_TakesWord.f
      refine Ev.bind (Ev.bind et (Ev.pos s0 (Ev.pos (by omega) (Ev.pos (by omega) (Ev.pos (by omega) (Ev.now _)))))) (Ev.val ?_)
      obtain ⟨j, rfl⟩ := Int.eq_ofNat_of_zero_le s0
      rw [bit_of_max m j (by omega) (Nat.lt_of_lt_of_le hm (Nat.pow_le_pow_right (by omega) (by omega)))]
      have h3 := hb j (by omega)
      have h4 := ht.2 (j : Int) 0 (w.length : Int) (by omega) (by omega) (Int.le_refl _) (by omega) (Int.le_refl _)
      rw [beq_iff_eq, Bool.eq_iff_iff, h3]; exact h4.symm
    · have e1 : Ev (fun k => table_Names.f k K N st rs w) ((0 : Int), wordCode K w) := by
        unfold table_Names.f
        refine Ev.bind (twrong_ev K N st rs w) ?_
        rw [if_pos g]
        exact Ev.neg c (Ev.now _)
      exact bad _ c e1 h2
  · have h2 := wordOf_ev K N st rs w
    rw [if_neg g] at h2
    have e1 : Ev (fun k => table_Names.f k K N st rs w) ((0 : Int), gcode K N st rs) := by
      unfold table_Names.f
      refine Ev.bind (twrong_ev K N st rs w) ?_
      rw [if_neg g]
      exact Ev.neg g (Ev.now _)
    exact bad _ g e1 h2

end Go.Proofs.Ytbehbngcofonmaa.Pure
