/- The law TallyWords as a statement over numbers and lists alone: it holds under the bounds that the statement names. -/
import Derived.Test.YtidjihmlkaeemaaStatTallyWords
set_option linter.unusedVariables false
set_option linter.unusedSimpArgs false
set_option linter.unusedSectionVars false
namespace Go.Proofs.Ytidjihmlkaeemaa.Pure
open Go.RowKit Go.Proofs.Ytidjihmlkaeemaa.PTallyWords Go.Proofs.YtidjihmlkaeemaaW.PrintWords Go.Proofs.YtidjihmlkaeemaaW.PrintLast Go.Proofs.YtidjihmlkaeemaaW.PrintMore

/-! ### base: words for every pure text -/
theorem w64 {x : Int} (h0 : -9223372036854775808 ≤ x) (h1 : x ≤ 9223372036854775807) : wrap64 x = x := by unfold wrap64; omega
theorem Ev.pos {α : Type} {c : Prop} [Decidable c] {g f : Nat → Option α} {r : α} (h : c) (e : Ev g r) : Ev (fun k => if c then g k else f k) r := Ev.congr (fun k => by rw [if_pos h]) e
theorem Ev.neg {α : Type} {c : Prop} [Decidable c] {g f : Nat → Option α} {r : α} (h : ¬ c) (e : Ev f r) : Ev (fun k => if c then g k else f k) r := Ev.congr (fun k => by rw [if_neg h]) e
theorem Ev.val {α : Type} {r q : α} (h : r = q) : Ev (fun _ => some r) q := by subst h; exact Ev.now r
theorem rd_getElem {l : List Int} {i : Int} (h1 : i.toNat < l.length) : rd l i = l[i.toNat] := by simp [rd, List.getD_eq_getElem?_getD, List.getElem?_eq_getElem h1]
theorem drop_rd {l : List Int} {i : Int} (h0 : 0 ≤ i) (h1 : i < l.length) : l.drop i.toNat = rd l i :: l.drop (i + 1).toNat := by
  have h : i.toNat < l.length := by omega
  rw [rd_getElem h, List.drop_eq_getElem_cons h]; congr 2; omega
theorem take_rd {l : List Int} {i : Int} (h0 : 0 ≤ i) (h1 : i < l.length) : l.take (i + 1).toNat = l.take i.toNat ++ [rd l i] := by
  have h : i.toNat < l.length := by omega
  have e : (i + 1).toNat = i.toNat + 1 := by omega
  rw [rd_getElem h, e, List.take_succ_eq_append_getElem h]
theorem rd_drop (l : List Int) (n : Nat) (i : Int) (h0 : 0 ≤ i) : rd (l.drop n) i = rd l (i + n) := by
  have e : (i + n).toNat = n + i.toNat := by omega
  simp only [rd, List.getD_eq_getElem?_getD, List.getElem?_drop, e]
theorem rd_take (l : List Int) (n : Nat) (i : Int) (h0 : 0 ≤ i) (h1 : i < n) : rd (l.take n) i = rd l i := by
  simp only [rd, List.getD_eq_getElem?_getD]; rw [List.getElem?_take_of_lt (by omega)]
theorem drop_all {α : Type} (l : List α) (n : Nat) (h : l.length ≤ n) : l.drop n = [] := List.drop_eq_nil_of_le h
theorem dec_ne {a b : Int} {l m : List Int} (h : a ≠ b) : decide (a :: l = b :: m) = false := decide_eq_false (fun q => h (List.cons.inj q).1)
theorem Ev.no {p : Prop} [Decidable p] (h : ¬ p) : Ev (fun _ => some false) (decide p) := Ev.val (decide_eq_false h).symm
theorem Ev.yes {p : Prop} [Decidable p] (h : p) : Ev (fun _ => some true) (decide p) := Ev.val (decide_eq_true h).symm
theorem ext_rd {a b : List Int} (hl : a.length = b.length) (h : ∀ i : Int, 0 ≤ i → i < a.length → rd a i = rd b i) : a = b := by
  apply List.ext_getElem hl
  intro i h1 h2
  have := h i (by omega) (by omega)
  rwa [rd_getElem (by simpa using h1), rd_getElem (by simpa using h2)] at this
theorem wf_u8 {x : Int} (h : (Lit.int .u8 x).wf = true) : 0 ≤ x ∧ x ≤ 255 := by simpa [Lit.wf, IntKind.min, IntKind.max, IntKind.signed, IntKind.bits] using h
theorem wf_u32 {x : Int} (h : (Lit.int .u32 x).wf = true) : 0 ≤ x ∧ x ≤ 4294967295 := by simpa [Lit.wf, IntKind.min, IntKind.max, IntKind.signed, IntKind.bits] using h
theorem wf_i64 {x : Int} (h : (Lit.int .i64 x).wf = true) : -9223372036854775808 ≤ x ∧ x ≤ 9223372036854775807 := by simpa [Lit.wf, IntKind.min, IntKind.max, IntKind.signed, IntKind.bits] using h
theorem rd_mem {l : List Int} {i : Int} (h0 : 0 ≤ i) (h1 : i < l.length) : rd l i ∈ l := by
  rw [rd_getElem (by omega)]; exact List.getElem_mem _
theorem rd_u8 {l : List Int} (hw : ∀ x ∈ l, (Lit.int .u8 x).wf = true) {i : Int} (h0 : 0 ≤ i) (h1 : i < l.length) : 0 ≤ rd l i ∧ rd l i ≤ 255 := wf_u8 (hw _ (rd_mem h0 h1))
theorem tm {a b : Int} (h : 0 ≤ a) : Int.tmod a b = a % b := Int.tmod_eq_emod_of_nonneg h
theorem td {a b : Int} (h : 0 ≤ a) : Int.tdiv a b = a / b := Int.tdiv_eq_ediv_of_nonneg h

/-! ### words of 32 bits as natural numbers -/
theorem u32_id {x : Int} (h0 : 0 ≤ x) (h1 : x ≤ 4294967295) : IntKind.u32.wrap x = x := by rw [IntKind.wrap_u32]; omega
theorem u64_id {x : Int} (h0 : 0 ≤ x) (h1 : x ≤ 18446744073709551615) : IntKind.u64.wrap x = x := by simp [IntKind.wrap, IntKind.bits, IntKind.signed]; omega
theorem u32_or (a b : Nat) (ha : a < 2 ^ 32) (hb : b < 2 ^ 32) : Go.bits .or .u32 a b = ((a ||| b : Nat) : Int) :=
  (bits_nat .u32 32 (by decide) (fun n h0 h1 => u32_id h0 (by omega)) a b ha hb).2
theorem u32_and (a b : Nat) (ha : a < 2 ^ 32) (hb : b < 2 ^ 32) : Go.bits .and .u32 a b = ((a &&& b : Nat) : Int) :=
  (bits_nat .u32 32 (by decide) (fun n h0 h1 => u32_id h0 (by omega)) a b ha hb).1
theorem shl1 (n : Nat) (h : n < 32) : shl .u32 1 (n : Int) = ((2 ^ n : Nat) : Int) := by
  unfold shl
  have e : min ((n : Int)).toNat IntKind.u32.bits = n := by simp [IntKind.bits]; omega
  have h2 : 2 ^ n ≤ 2 ^ 31 := Nat.pow_le_pow_right (by omega) (by omega)
  rw [e, Int.one_mul, u32_id (by exact_mod_cast Nat.zero_le _) (by have : ((2 ^ n : Nat) : Int) ≤ 2 ^ 31 := by exact_mod_cast h2
                                                                   have e2 : ((2 : Int) ^ n) = ((2 ^ n : Nat) : Int) := by simp
                                                                   omega)]
  simp
theorem shrn (a n : Nat) (h : n < 32) : shr .u32 (a : Int) (n : Int) = ((a / 2 ^ n : Nat) : Int) := by
  unfold shr
  have e : min ((n : Int)).toNat IntKind.u32.bits = n := by simp [IntKind.bits]; omega
  rw [e]; simp

/-! ### sets of small numbers: bits of a natural number -/
theorem bit_shr (a i : Nat) (ha : a < 2 ^ 32) (hi : i < 32) : (Go.bits .and .u32 (shr .u32 (a : Int) (i : Int)) 1 = 1) ↔ a.testBit i = true := by
  rw [shrn a i hi]
  have h1 : a / 2 ^ i < 2 ^ 32 := Nat.lt_of_le_of_lt (Nat.div_le_self _ _) ha
  have h2 := u32_and (a / 2 ^ i) 1 h1 (by decide)
  have h3 : ((1 : Nat) : Int) = 1 := rfl
  rw [h3] at h2
  rw [h2, Nat.and_one_is_mod, Nat.testBit_eq_decide_div_mod_eq]
  simp only [decide_eq_true_eq]; omega
theorem bit_and (a i : Nat) (ha : a < 2 ^ 32) (hi : i < 32) : (Go.bits .and .u32 (a : Int) (shl .u32 1 (i : Int)) != 0) = a.testBit i := by
  have h0 : 2 ^ i < 2 ^ 32 := Nat.pow_lt_pow_right (by omega) hi
  rw [shl1 i hi, u32_and a (2 ^ i) ha h0]
  cases h : a.testBit i with
  | true =>
    have : a &&& 2 ^ i ≠ 0 := fun e => by
      have q := congrArg (fun x => Nat.testBit x i) e
      simp [Nat.testBit_and, Nat.testBit_two_pow_self, h] at q
    simp; omega
  | false =>
    have : a &&& 2 ^ i = 0 := by
      apply Nat.eq_of_testBit_eq
      intro j
      by_cases e : i = j
      · subst e; simp [Nat.testBit_and, h]
      · simp [Nat.testBit_and, Nat.testBit_two_pow, e]
    rw [this]; rfl
theorem bit_or (a i : Nat) (ha : a < 2 ^ 32) (hi : i < 32) : Go.bits .or .u32 (a : Int) (shl .u32 1 (i : Int)) = ((a ||| 2 ^ i : Nat) : Int) := by
  have h0 : 2 ^ i < 2 ^ 32 := Nat.pow_lt_pow_right (by omega) hi
  rw [shl1 i hi, u32_or a (2 ^ i) ha h0]
def cnt : Nat → Nat → Nat
  | 0, _ => 0
  | n + 1, s => cnt n s + (s.testBit n).toNat
theorem cnt_le : ∀ n s, cnt n s ≤ n
  | 0, _ => Nat.le_refl _
  | n + 1, s => by
    have := cnt_le n s
    unfold cnt
    cases s.testBit n <;> simp <;> omega
theorem cnt_mono (s t : Nat) (h : ∀ i, s.testBit i = true → t.testBit i = true) : ∀ n, cnt n s ≤ cnt n t
  | 0 => Nat.le_refl _
  | n + 1 => by
    have := cnt_mono s t h n
    have h1 := h n
    unfold cnt
    cases q : s.testBit n
    · simp; omega
    · rw [h1 q]; simp; omega
theorem cnt_lt (s t : Nat) (h : ∀ i, s.testBit i = true → t.testBit i = true) (i : Nat) (hs : s.testBit i = false) (ht : t.testBit i = true) : ∀ n, i < n → cnt n s < cnt n t
  | 0, hi => by omega
  | n + 1, hi => by
    have h1 := h n
    have h2 := cnt_mono s t h n
    unfold cnt
    by_cases e : i = n
    · subst e; rw [hs, ht]; simp; omega
    · have := cnt_lt s t h i hs ht n (by omega)
      cases q : s.testBit n
      · simp; omega
      · rw [h1 q]; simp; omega
theorem bits_ne {s t n : Nat} (hs : s < 2 ^ n) (ht : t < 2 ^ n) (h : ∀ i, s.testBit i = true → t.testBit i = true) (hne : t ≠ s) : ∃ i, i < n ∧ s.testBit i = false ∧ t.testBit i = true := by
  rcases Classical.em (∃ i, i < n ∧ s.testBit i = false ∧ t.testBit i = true) with q | q
  · exact q
  · exfalso; apply hne
    apply Nat.eq_of_testBit_eq
    intro i
    by_cases hi : i < n
    · cases e : s.testBit i with
      | true => exact h i e
      | false =>
        cases e2 : t.testBit i with
        | false => rfl
        | true => exact absurd ⟨i, hi, e, e2⟩ q
    · have h2 : 2 ^ n ≤ 2 ^ i := Nat.pow_le_pow_right (by omega) (by omega)
      rw [Nat.testBit_lt_two_pow (Nat.lt_of_lt_of_le hs h2), Nat.testBit_lt_two_pow (Nat.lt_of_lt_of_le ht h2)]
/-! a step that only adds, again and again -/
def rep (P : Nat → Nat) : Nat → Nat → Nat
  | 0, s => s
  | n + 1, s => rep P n (P s)
theorem rep_fix (P : Nat → Nat) (s : Nat) (h : P s = s) : ∀ n, rep P n s = s
  | 0 => rfl
  | n + 1 => by unfold rep; rw [h]; exact rep_fix P s h n
theorem rep_succ (P : Nat → Nat) : ∀ n s, rep P (n + 1) s = P (rep P n s)
  | 0, _ => rfl
  | n + 1, s => by
    show rep P (n + 1) (P s) = P (rep P n (P s))
    exact rep_succ P n (P s)
theorem rep_lt (P : Nat → Nat) (b : Nat) (h : ∀ s, s < b → P s < b) : ∀ n s, s < b → rep P n s < b
  | 0, _, hs => hs
  | n + 1, s, hs => rep_lt P b h n (P s) (h s hs)

/-! ### rows of rows -/
theorem drop_rdL {l : List (List Int)} {i : Int} (h0 : 0 ≤ i) (h1 : i < l.length) : l.drop i.toNat = rd_L1 l i :: l.drop (i + 1).toNat := by
  have h : i.toNat < l.length := by omega
  have e : rd_L1 l i = l[i.toNat] := by simp [rd_L1, List.getD_eq_getElem?_getD, List.getElem?_eq_getElem h]
  rw [e, List.drop_eq_getElem_cons h]; congr 2; omega
theorem rdL_mem {l : List (List Int)} {i : Int} (h0 : 0 ≤ i) (h1 : i < l.length) : rd_L1 l i ∈ l := by
  have h : i.toNat < l.length := by omega
  have e : rd_L1 l i = l[i.toNat] := by simp [rd_L1, List.getD_eq_getElem?_getD, List.getElem?_eq_getElem h]
  rw [e]; exact List.getElem_mem _

/-! ### loops, round by round -/
theorem anyO_some {α : Type} (p : α → Bool) : ∀ l : List α, anyO (fun x => some (p x)) l = some (l.any p)
  | [] => rfl
  | x :: l => by
    unfold anyO
    rw [Option.bind_some, anyO_some p l, List.any_cons]
    cases p x <;> simp
theorem anyO_of {α : Type} {f : α → Option Bool} {p : α → Bool} {l : List α} (h : ∀ x ∈ l, f x = some (p x)) : anyO f l = some (l.any p) := by
  induction l with
  | nil => rfl
  | cons x l ih =>
    unfold anyO
    rw [h x (by simp), Option.bind_some, ih (fun y hy => h y (by simp [hy])), List.any_cons]
    cases p x <;> simp
theorem Ev.loop {σ ρ : Type} {L : Nat → Int → σ → Option ρ} {n : Int} {r : ρ} (I : Int → σ → Prop)
    (hend : ∀ s, I n s → Ev (fun k => L k n s) r)
    (hstep : ∀ i s, 0 ≤ i → i < n → I i s → Ev (fun k => L k i s) r ∨ ∃ s', I (i + 1) s' ∧ (Ev (fun k => L k (i + 1) s') r → Ev (fun k => L k i s) r)) :
    ∀ (i : Int) (s : σ), 0 ≤ i → i ≤ n → I i s → Ev (fun k => L k i s) r := by
  have key : ∀ (d : Nat) (i : Int) (s : σ), 0 ≤ i → i + d = n → I i s → Ev (fun k => L k i s) r := by
    intro d
    induction d with
    | zero => intro i s h0 h1 hI; obtain rfl : i = n := by omega
              exact hend s hI
    | succ d ih =>
      intro i s h0 h1 hI
      rcases hstep i s h0 (by omega) hI with h | ⟨s', h', h⟩
      · exact h
      · exact h (ih (i + 1) s' (by omega) (by omega) h')
  intro i s h0 h1 hI
  exact key (n - i).toNat i s h0 (by omega) hI
/-- The first element that is bad ends a loop. -/
theorem Ev.firstBad {α ρ : Type} {L : Nat → Int → Option ρ} {l : List α} {rdf : Int → α} {bad : α → Bool} {c fin : ρ}
    (hrd : ∀ i : Int, 0 ≤ i → i < l.length → l.drop i.toNat = rdf i :: l.drop (i + 1).toNat)
    (hend : l.any bad = false → Ev (fun k => L k l.length) fin)
    (hbad : ∀ i : Int, 0 ≤ i → i < l.length → bad (rdf i) = true → Ev (fun k => L k i) c)
    (hgood : ∀ (i : Int) (r : ρ), 0 ≤ i → i < l.length → bad (rdf i) = false → Ev (fun k => L k (i + 1)) r → Ev (fun k => L k i) r) :
    Ev (fun k => L k 0) (if l.any bad = true then c else fin) := by
  refine Ev.loop (σ := Unit) (L := fun k i _ => L k i) (n := l.length) (fun i _ => l.any bad = (l.drop i.toNat).any bad) ?_ ?_ 0 () (Int.le_refl _) (by omega) rfl
  · intro _ h
    rw [Int.toNat_natCast, List.drop_length] at h
    have h : l.any bad = false := h
    rw [h]; exact hend h
  · intro i _ h0 h1 h
    rw [hrd i h0 h1, List.any_cons] at h
    cases hb : bad (rdf i) with
    | true => left; rw [h, hb]; exact hbad i h0 h1 hb
    | false => right; refine ⟨(), by rw [h, hb]; rfl, hgood i _ h0 h1 hb⟩
theorem rd_cons {l : List Int} {i : Int} (h0 : 0 ≤ i) (h1 : i < l.length) : l.drop i.toNat = rd l i :: l.drop (i + 1).toNat := drop_rd h0 h1

/-! ### slices.Concat -/
theorem Concat_l1 (l : List (List Int)) (hl : l.length ≤ 4611686018427387904) (R : List Int) (hR : R.length < 17592186044416) (d : Nat) : ∀ (i : Int) (acc : List Int), 0 ≤ i → i + d = l.length → acc ++ (l.drop i.toNat).flatten = R →
    Ev (fun k => slices_Concat_Sint_int.l1 k acc l (l.length : Int) i) R := by
  induction d with
  | zero =>
    intro i acc h0 hd h
    refine Ev.step (fun k => slices_Concat_Sint_int.l1.eq_2 _ _ _ _ k) ?_
    simp (disch := omega) only [if_neg]
    rw [List.drop_eq_nil_of_le (by omega)] at h
    exact Ev.val (by simpa using h)
  | succ d ih =>
    intro i acc h0 hd h
    refine Ev.step (fun k => slices_Concat_Sint_int.l1.eq_2 _ _ _ _ k) ?_
    rw [drop_rdL h0 (by omega), List.flatten_cons, ← List.append_assoc] at h
    have hlen : acc.length + (rd_L1 l i).length ≤ R.length := by
      rw [← h]; simp only [List.length_append]; omega
    simp (disch := omega) only [if_pos, w64]
    exact ih (i + 1) _ (by omega) (by omega) h
theorem Concat_l0 (l : List (List Int)) (hl : l.length ≤ 4611686018427387904) (hR : l.flatten.length < 17592186044416) (d : Nat) : ∀ (i s : Int), 0 ≤ i → i + d = l.length → 0 ≤ s → s + (l.drop i.toNat).flatten.length = l.flatten.length →
    Ev (fun k => slices_Concat_Sint_int.l0 k l s l (l.length : Int) i) l.flatten := by
  induction d with
  | zero =>
    intro i s h0 hd hs h
    refine Ev.step (fun k => slices_Concat_Sint_int.l0.eq_2 _ _ _ _ _ k) ?_
    rw [List.drop_eq_nil_of_le (by omega)] at h
    simp only [List.flatten_nil, List.length_nil] at h
    simp (disch := omega) only [if_neg, slices_Grow_Sint_int.f, if_pos, Option.bind_some]
    exact Concat_l1 l hl _ hR l.length 0 [] (by omega) (by omega) (by simp)
  | succ d ih =>
    intro i s h0 hd hs h
    refine Ev.step (fun k => slices_Concat_Sint_int.l0.eq_2 _ _ _ _ _ k) ?_
    rw [drop_rdL h0 (by omega), List.flatten_cons, List.length_append] at h
    simp (disch := omega) only [if_pos, if_neg, w64]
    exact ih (i + 1) _ (by omega) (by omega) (by omega) (by omega)
theorem Concat_ev (l : List (List Int)) (hl : l.length ≤ 4611686018427387904) (hR : l.flatten.length < 17592186044416) : Ev (fun k => slices_Concat_Sint_int.f k l) l.flatten := by
  unfold slices_Concat_Sint_int.f
  exact Concat_l0 l hl hR l.length 0 0 (by omega) (by omega) (by omega) (by simp)

/-! ### machine.Check and coppicerref.MachineCheck: one answer -/
abbrev bad (N x : Int) : Prop := x < 0 ∨ x ≥ N
def machCode (N K : Int) (next : List (List Int)) (st f : Int) : Int :=
  if N < 1 ∨ N > 7 ∨ K < 1 ∨ K > 3 then 1 else if (next.length : Int) ≠ N ∨ (next.any fun l => decide ((l.length : Int) ≠ K)) = true then 3
  else if (next.flatten.any fun x => decide (bad N x)) = true ∨ bad N st then 2 else if f ≥ 2 ^ N.toNat then 4 else 0
theorem flat_len (K : Int) (hK : 0 ≤ K) : ∀ l : List (List Int), (∀ x ∈ l, (x.length : Int) = K) → (l.flatten.length : Int) = l.length * K
  | [], _ => by simp
  | x :: l, h => by
    have := flat_len K hK l (fun y hy => h y (by simp [hy]))
    have hx := h x (by simp)
    rw [List.flatten_cons, List.length_append, List.length_cons]
    push_cast
    rw [this, hx, Int.add_mul]; omega
theorem check_l0 (N K : Int) (next : List (List Int)) (st f : Int) (hN0 : 1 ≤ N) (hN1 : N ≤ 7) (hf0 : 0 ≤ f) (all : List Int) (hl : all.length ≤ 4611686018427387904) (d : Nat) : ∀ i : Int, 0 ≤ i → i + d = all.length →
    Ev (fun k => machine_Check.l0 k all (all.length : Int) i N K next st f) (if ((all.drop i.toNat).any fun x => decide (bad N x)) = true then 2 else if f ≥ 2 ^ N.toNat then 4 else 0) := by
  induction d with
  | zero =>
    intro i h0 hd
    refine Ev.step (fun k => machine_Check.l0.eq_2 _ _ _ _ _ _ _ _ k) ?_
    obtain ⟨a, rfl⟩ := Int.eq_ofNat_of_zero_le hf0
    obtain ⟨n, rfl⟩ := Int.eq_ofNat_of_zero_le (show 0 ≤ N by omega)
    have e : ((2 : Int) ^ n) = ((2 ^ n : Nat) : Int) := by simp
    simp (disch := omega) only [if_neg (show ¬ i < (all.length : Int) by omega), if_pos (show 0 ≤ (n : Int) by omega), shrn a n (by omega)]
    rw [List.drop_eq_nil_of_le (by omega), Int.toNat_natCast, e]
    have key : a / 2 ^ n = 0 ↔ a < 2 ^ n := by
      rw [Nat.div_eq_zero_iff]
      have := Nat.two_pow_pos n
      omega
    by_cases q : a < 2 ^ n
    · have q' : ((a / 2 ^ n : Nat) : Int) = 0 := by have := key.2 q; omega
      simp only [if_pos q']; exact Ev.val (by rw [if_neg (by simp), if_neg (by omega)])
    · have q' : ¬ ((a / 2 ^ n : Nat) : Int) = 0 := by have := mt key.1 q; omega
      simp only [if_neg q']; exact Ev.val (by rw [if_neg (by simp), if_pos (by omega)])
  | succ d ih =>
    intro i h0 hd
    refine Ev.step (fun k => machine_Check.l0.eq_2 _ _ _ _ _ _ _ _ k) ?_
    rw [drop_rd h0 (by omega)]
    simp (disch := omega) only [if_pos (show i < (all.length : Int) by omega), if_pos h0, w64]
    by_cases a : rd all i < 0
    · simp only [if_pos a]; exact Ev.val (by rw [if_pos (by simp [a])])
    · by_cases b : rd all i ≥ N
      · simp only [if_neg a, if_pos b]; exact Ev.val (by rw [if_pos (by simp [b])])
      · simp only [if_neg a, if_neg b]
        have := ih (i + 1) (by omega) (by omega)
        simpa [a, b] using this
theorem mchk1 (N K : Int) (next l : List (List Int)) (st f : Int) : machine_Check_1_any.f l N K next st f = some (l.any fun l => decide ((l.length : Int) ≠ K)) := by
  unfold machine_Check_1_any.f
  exact anyO_of (fun x _ => by unfold machine_Check_1.f; congr 1; by_cases h : (x.length : Int) = K <;> simp [h])
theorem machCheck_ev (N K : Int) (next : List (List Int)) (st f : Int) (hf0 : 0 ≤ f) : Ev (fun k => machine_Check.f k N K next st f) (machCode N K next st f) := by
  unfold machine_Check.f
  have wrong : (N < 1 ∨ N > 7 ∨ K < 1 ∨ K > 3) → Ev (fun k => machine_Check.j0 k true N K next st f) (machCode N K next st f) := by
    intro h
    unfold machCode; rw [if_pos h]
    refine Ev.step (fun k => machine_Check.j0.eq_2 _ _ _ _ _ _ k) ?_
    simp only [if_true]; exact Ev.now _
  by_cases c1 : N < 1
  · simp only [if_pos c1]; exact wrong (by omega)
  by_cases c2 : N > 7
  · simp only [if_neg c1, if_pos c2]; exact wrong (by omega)
  by_cases c3 : K < 1
  · simp only [if_neg c1, if_neg c2, if_pos c3]; exact wrong (by omega)
  simp only [if_neg c1, if_neg c2, if_neg c3]
  by_cases c4 : K > 3
  · simp only [c4, decide_true]; exact wrong (by omega)
  · simp only [c4, decide_false]
    unfold machCode; rw [if_neg (by omega)]
    refine Ev.step (fun k => machine_Check.j0.eq_2 _ _ _ _ _ _ k) ?_
    simp only [Bool.false_eq_true, if_false]
    by_cases c5 : (next.length : Int) = N
    · simp only [if_pos c5, mchk1, Option.bind_some]
      refine Ev.step (fun k => machine_Check.j1.eq_2 _ _ _ _ _ _ k) ?_
      by_cases c6 : (next.any fun l => decide ((l.length : Int) ≠ K)) = true
      · simp only [if_pos c6]; exact Ev.val (by rw [if_pos (.inr c6)])
      · simp only [if_neg c6]
        have hrows : ∀ x ∈ next, (x.length : Int) = K := by
          intro x hx
          simp only [List.any_eq_true, not_exists, not_and, decide_eq_true_eq, Classical.not_not] at c6
          exact c6 x hx
        have hfl := flat_len K (by omega) next hrows
        have h21 : next.flatten.length ≤ 21 := by
          have : (next.length : Int) * K ≤ 7 * 3 := Int.mul_le_mul (by omega) (by omega) (by omega) (by omega)
          omega
        refine Ev.bind (Concat_ev next (by omega) (by omega)) ?_
        have hlim : next.flatten.length + ([st] : List Int).length < 17592186044416 := by simp only [List.length_singleton]; omega
        simp only [Option.bind_some, if_pos hlim]
        have := check_l0 N K next st f (by omega) (by omega) hf0 (next.flatten ++ [st]) (by simp only [List.length_append, List.length_singleton]; omega) (next.flatten ++ [st]).length 0 (by omega) (by omega)
        rw [Int.toNat_zero, List.drop_zero] at this
        refine Ev.congr (fun _ => rfl) ?_
        have e : ((next.flatten ++ [st]).any fun x => decide (bad N x)) = true ↔ ((next.flatten.any fun x => decide (bad N x)) = true ∨ bad N st) := by simp [List.any_append]
        rw [if_neg (fun h => h.elim (fun a => a c5) c6)]
        simp only [e] at this
        exact this
    · simp only [if_neg c5]
      refine Ev.step (fun k => machine_Check.j1.eq_2 _ _ _ _ _ _ k) ?_
      simp only [if_true]
      exact Ev.val (by rw [if_pos (.inl c5)])
/-! the document's -/
theorem rmach_j4 (N K : Int) (next : List (List Int)) (st f : Int) (hN0 : 1 ≤ N) (hN1 : N ≤ 7) (b : Bool) : Ev (fun k => coppicerref_MachineCheck.j4 k b N K next st f) (if b = true then 2 else if f ≥ 2 ^ N.toNat then 4 else 0) := by
  refine Ev.step (fun k => coppicerref_MachineCheck.j4.eq_2 _ _ _ _ _ _ k) ?_
  cases b with
  | true => simp only [if_true]; exact Ev.now _
  | false =>
    obtain ⟨n, rfl⟩ := Int.eq_ofNat_of_zero_le (show 0 ≤ N by omega)
    have e : ((2 : Int) ^ n) = ((2 ^ n : Nat) : Int) := by simp
    simp (disch := omega) only [Bool.false_eq_true, if_false, u64_id, if_pos (show 0 ≤ (n : Int) by omega), shl1 n (by omega), Int.toNat_natCast, e]
    by_cases q : f ≥ ((2 ^ n : Nat) : Int)
    · simp only [if_pos q]; exact Ev.now _
    · simp only [if_neg q]; exact Ev.now _
theorem rmach_l2 (N K : Int) (next : List (List Int)) (st f : Int) (R : Int) (all : List (List Int)) (n j : Int) (row : List Int) (hl : row.length ≤ 60) (hbad : (row.any fun x => decide (bad N x)) = true → R = 2) (hok : ¬ (row.any fun x => decide (bad N x)) = true → Ev (fun k => coppicerref_MachineCheck.l1 k all n (wrap64 (j + 1)) N K next st f) R) (d : Nat) : ∀ i : Int, 0 ≤ i → i + d = row.length → ((row.any fun x => decide (bad N x)) = true ↔ ((row.drop i.toNat).any fun x => decide (bad N x)) = true) →
    Ev (fun k => coppicerref_MachineCheck.l2 k all n j row (row.length : Int) i N K next st f) R := by
  induction d with
  | zero =>
    intro i h0 hd he
    refine Ev.step (fun k => coppicerref_MachineCheck.l2.eq_2 _ _ _ _ _ _ _ _ _ _ _ k) ?_
    simp (disch := omega) only [if_neg (show ¬ i < (row.length : Int) by omega)]
    rw [drop_all row _ (by omega)] at he
    exact hok (fun h => by simpa using he.1 h)
  | succ d ih =>
    intro i h0 hd he
    refine Ev.step (fun k => coppicerref_MachineCheck.l2.eq_2 _ _ _ _ _ _ _ _ _ _ _ k) ?_
    rw [drop_rd h0 (by omega)] at he
    simp (disch := omega) only [if_pos (show i < (row.length : Int) by omega), if_pos h0, w64]
    by_cases a : rd row i < 0
    · simp only [if_pos a]; exact Ev.val (hbad (he.2 (by simp [a]))).symm
    · by_cases b : rd row i ≥ N
      · simp only [if_neg a, if_pos b]; exact Ev.val (hbad (he.2 (by simp [b]))).symm
      · simp only [if_neg a, if_neg b]
        exact ih (i + 1) (by omega) (by omega) (by rw [he]; simp [a, b])
theorem rmach_l1 (N K : Int) (next : List (List Int)) (st f : Int) (hN0 : 1 ≤ N) (hN1 : N ≤ 7) (all : List (List Int)) (ha : all.length ≤ 60) (hrow : ∀ x ∈ all, x.length ≤ 60) (d : Nat) : ∀ i : Int, 0 ≤ i → i + d = all.length →
    Ev (fun k => coppicerref_MachineCheck.l1 k all (all.length : Int) i N K next st f) (if ((all.drop i.toNat).flatten.any fun x => decide (bad N x)) = true ∨ bad N st then 2 else if f ≥ 2 ^ N.toNat then 4 else 0) := by
  induction d with
  | zero =>
    intro i h0 hd
    refine Ev.step (fun k => coppicerref_MachineCheck.l1.eq_2 _ _ _ _ _ _ _ _ k) ?_
    simp (disch := omega) only [if_neg (show ¬ i < (all.length : Int) by omega)]
    rw [List.drop_eq_nil_of_le (by omega)]
    by_cases a : st < 0
    · simp only [if_pos a]
      have := rmach_j4 N K next st f hN0 hN1 true
      rw [if_pos rfl] at this
      rw [if_pos (.inr (.inl a))]; exact this
    · simp only [if_neg a]
      have := rmach_j4 N K next st f hN0 hN1 (decide (st ≥ N))
      by_cases b : st ≥ N
      · rw [if_pos (decide_eq_true b)] at this
        rw [if_pos (.inr (.inr b))]; exact this
      · rw [if_neg (by simpa using b)] at this
        rw [if_neg (by simp [bad]; omega)]; exact this
  | succ d ih =>
    intro i h0 hd
    refine Ev.step (fun k => coppicerref_MachineCheck.l1.eq_2 _ _ _ _ _ _ _ _ k) ?_
    rw [drop_rdL h0 (by omega), List.flatten_cons]
    simp (disch := omega) only [if_pos (show i < (all.length : Int) by omega), if_pos h0]
    refine rmach_l2 N K next st f _ all _ i _ (hrow _ (rdL_mem h0 (by omega))) ?_ ?_ (rd_L1 all i).length 0 (by omega) (by omega) (by simp)
    · intro h
      rw [if_pos (.inl (by rw [List.any_append, h]; rfl))]
    · intro h
      have h' : ((rd_L1 all i).any fun x => decide (bad N x)) = false := by simpa using h
      rw [List.any_append, h', Bool.false_or, w64 (by omega) (by omega)]
      exact ih (i + 1) (by omega) (by omega)
theorem rmach_l0 (N K : Int) (st f : Int) (hN0 : 1 ≤ N) (hN1 : N ≤ 7) (hK : 1 ≤ K ∧ K ≤ 3) (next : List (List Int)) (hn : next.length ≤ 60) (d : Nat) : ∀ i : Int, 0 ≤ i → i + d = next.length → (∀ x ∈ next, ((x.length : Int) = K ∨ x ∈ next.drop i.toNat)) →
    Ev (fun k => coppicerref_MachineCheck.l0 k next (next.length : Int) i N K next st f) (if ((next.drop i.toNat).any fun l => decide ((l.length : Int) ≠ K)) = true then 3 else if (next.flatten.any fun x => decide (bad N x)) = true ∨ bad N st then 2 else if f ≥ 2 ^ N.toNat then 4 else 0) := by
  induction d with
  | zero =>
    intro i h0 hd hr
    refine Ev.step (fun k => coppicerref_MachineCheck.l0.eq_2 _ _ _ _ _ _ _ _ k) ?_
    simp (disch := omega) only [if_neg (show ¬ i < (next.length : Int) by omega)]
    rw [List.drop_eq_nil_of_le (by omega)] at hr ⊢
    rw [if_neg (by simp)]
    have := rmach_l1 N K next st f hN0 hN1 next hn (fun x hx => by
      rcases hr x hx with q | q
      · omega
      · simp at q) next.length 0 (by omega) (by omega)
    simpa using this
  | succ d ih =>
    intro i h0 hd hr
    refine Ev.step (fun k => coppicerref_MachineCheck.l0.eq_2 _ _ _ _ _ _ _ _ k) ?_
    rw [drop_rdL h0 (by omega)] at hr ⊢
    simp (disch := omega) only [if_pos (show i < (next.length : Int) by omega), if_pos h0, w64]
    by_cases c : ((rd_L1 next i).length : Int) = K
    · simp only [if_pos c]
      have := ih (i + 1) (by omega) (by omega) (fun x hx => by
        rcases hr x hx with q | q
        · exact .inl q
        · rcases List.mem_cons.1 q with q | q
          · rw [q]; exact .inl c
          · exact .inr q)
      rw [List.any_cons, show decide (((rd_L1 next i).length : Int) ≠ K) = false from by simp [c], Bool.false_or]
      exact this
    · simp only [if_neg c]
      exact Ev.val (by rw [if_pos (by simp [c])])
theorem rmach_ev (N K : Int) (next : List (List Int)) (st f : Int) : Ev (fun k => coppicerref_MachineCheck.f k N K next st f) (machCode N K next st f) := by
  unfold coppicerref_MachineCheck.f
  have wrong : (N < 1 ∨ N > 7 ∨ K < 1 ∨ K > 3) → Ev (fun k => coppicerref_MachineCheck.j0 k true N K next st f) (machCode N K next st f) := by
    intro h
    unfold machCode; rw [if_pos h]
    refine Ev.step (fun k => coppicerref_MachineCheck.j0.eq_2 _ _ _ _ _ _ k) ?_
    simp only [if_true]; exact Ev.now _
  by_cases c1 : N < 1
  · simp only [if_pos c1]; exact wrong (by omega)
  by_cases c2 : N > 7
  · simp only [if_neg c1, if_pos c2]; exact wrong (by omega)
  by_cases c3 : K < 1
  · simp only [if_neg c1, if_neg c2, if_pos c3]; exact wrong (by omega)
  simp only [if_neg c1, if_neg c2, if_neg c3]
  by_cases c4 : K > 3
  · simp only [c4, decide_true]; exact wrong (by omega)
  · simp only [c4, decide_false]
    unfold machCode; rw [if_neg (by omega)]
    refine Ev.step (fun k => coppicerref_MachineCheck.j0.eq_2 _ _ _ _ _ _ k) ?_
    simp only [Bool.false_eq_true, if_false]
    by_cases c5 : (next.length : Int) = N
    · simp only [if_pos c5]
      have := rmach_l0 N K st f (by omega) (by omega) ⟨by omega, by omega⟩ next (by omega) next.length 0 (by omega) (by omega) (fun x hx => .inr (by simpa using hx))
      rw [Int.toNat_zero, List.drop_zero] at this
      by_cases c6 : (next.any fun l => decide ((l.length : Int) ≠ K)) = true
      · rw [if_pos c6] at this
        rw [if_pos (.inr c6)]; exact this
      · rw [if_neg c6] at this
        rw [if_neg (fun h => h.elim (fun a => a c5) c6)]; exact this
    · simp only [if_neg c5]
      exact Ev.val (by rw [if_pos (.inl c5)])

/-! ### words: machine.Words and coppicerref.WordCheck -/
def wordCode (K : Int) (w : List Int) : Int := if (w.length : Int) > 12 then 1 else if (w.any fun s => decide (s < 0) || decide (s ≥ K)) = true then 2 else 0
theorem WordCheck_l0 (K : Int) (w : List Int) (hl : w.length ≤ 12) (d : Nat) : ∀ i : Int, 0 ≤ i → i + d = w.length →
    Ev (fun k => coppicerref_WordCheck.l0 k K w (w.length : Int) i) (if ((w.drop i.toNat).any fun s => decide (s < 0) || decide (s ≥ K)) = true then 2 else 0) := by
  induction d with
  | zero =>
    intro i h0 hd
    refine Ev.step (fun k => coppicerref_WordCheck.l0.eq_2 _ _ _ _ k) ?_
    simp (disch := omega) only [if_neg (show ¬ i < (w.length : Int) by omega)]
    rw [List.drop_eq_nil_of_le (by omega)]; exact Ev.now _
  | succ d ih =>
    intro i h0 hd
    refine Ev.step (fun k => coppicerref_WordCheck.l0.eq_2 _ _ _ _ k) ?_
    rw [drop_rd h0 (by omega)]
    simp (disch := omega) only [if_pos (show i < (w.length : Int) by omega), if_pos h0, w64]
    by_cases a : rd w i < 0
    · simp only [if_pos a]; exact Ev.val (by simp [a])
    · by_cases b : rd w i ≥ K
      · simp only [if_neg a, if_pos b]; exact Ev.val (by simp [b])
      · simp only [if_neg a, if_neg b]
        have := ih (i + 1) (by omega) (by omega)
        simpa [a, b] using this
theorem WordCheck_ev (K : Int) (w : List Int) : Ev (fun k => coppicerref_WordCheck.f k K w) (wordCode K w) := by
  unfold coppicerref_WordCheck.f wordCode
  by_cases c : (w.length : Int) > 12
  · simp only [if_pos c]; exact Ev.now _
  · simp only [if_neg c]
    simpa using WordCheck_l0 K w (by omega) w.length 0 (by omega) (by omega)
theorem wordCode_0 {K : Int} {w : List Int} (h : wordCode K w = 0) : w.length ≤ 12 ∧ ∀ s ∈ w, 0 ≤ s ∧ s < K := by
  unfold wordCode at h
  by_cases c : (w.length : Int) > 12
  · rw [if_pos c] at h; omega
  · rw [if_neg c] at h
    refine ⟨by omega, ?_⟩
    by_cases e : (w.any fun s => decide (s < 0) || decide (s ≥ K)) = true
    · rw [if_pos e] at h; omega
    · intro s hs
      simp only [List.any_eq_true, not_exists, not_and, Bool.or_eq_true, decide_eq_true_eq, not_or] at e
      have := e s hs
      omega

/-! ### a machine that may be, and its runs -/
def okMach (N K : Int) (next : List (List Int)) : Prop := (next.length : Int) = N ∧ ∀ row ∈ next, (row.length : Int) = K ∧ ∀ x ∈ row, 0 ≤ x ∧ x < N
theorem machCode_0 {N K : Int} {next : List (List Int)} {st f : Int} (h : machCode N K next st f = 0) : 1 ≤ N ∧ N ≤ 7 ∧ 1 ≤ K ∧ K ≤ 3 ∧ okMach N K next ∧ 0 ≤ st ∧ st < N ∧ f < 2 ^ N.toNat := by
  unfold machCode at h
  by_cases c : N < 1 ∨ N > 7 ∨ K < 1 ∨ K > 3
  · rw [if_pos c] at h; omega
  rw [if_neg c] at h
  by_cases c2 : (next.length : Int) ≠ N ∨ (next.any fun l => decide ((l.length : Int) ≠ K)) = true
  · rw [if_pos c2] at h; omega
  rw [if_neg c2] at h
  by_cases c3 : (next.flatten.any fun x => decide (bad N x)) = true ∨ bad N st
  · rw [if_pos c3] at h; omega
  rw [if_neg c3] at h
  by_cases c4 : f ≥ 2 ^ N.toNat
  · rw [if_pos c4] at h; omega
  simp only [not_or, Classical.not_not, List.any_eq_true, not_exists, not_and, decide_eq_true_eq] at c2 c3
  refine ⟨by omega, by omega, by omega, by omega, ⟨c2.1, fun row hr => ⟨c2.2 row hr, fun x hx => ?_⟩⟩, ?_, ?_, by omega⟩
  · have := c3.1 x (List.mem_flatten.2 ⟨row, hr, hx⟩)
    omega
  · have := c3.2; omega
  · have := c3.2; omega
def mto (next : List (List Int)) (s c : Int) : Int := rd (rd_L1 next s) c
def mrun (next : List (List Int)) : Int → List Int → Int
  | s, [] => s
  | s, c :: w => mrun next (mto next s c) w
theorem okMach.row {N K : Int} {next : List (List Int)} (h : okMach N K next) {s : Int} (h0 : 0 ≤ s) (h1 : s < N) : ((rd_L1 next s).length : Int) = K ∧ s < next.length := by
  have hl : s < next.length := by have := h.1; omega
  exact ⟨(h.2 _ (rdL_mem h0 hl)).1, hl⟩
theorem okMach.to {N K : Int} {next : List (List Int)} (h : okMach N K next) {s c : Int} (h0 : 0 ≤ s) (h1 : s < N) (c0 : 0 ≤ c) (c1 : c < K) : 0 ≤ mto next s c ∧ mto next s c < N := by
  have hl : s < next.length := by have := h.1; omega
  have hr := h.2 _ (rdL_mem h0 hl)
  exact hr.2 _ (rd_mem c0 (by omega))
theorem okMach.run {N K : Int} {next : List (List Int)} (h : okMach N K next) : ∀ (w : List Int) (s : Int), 0 ≤ s → s < N → (∀ c ∈ w, 0 ≤ c ∧ c < K) → 0 ≤ mrun next s w ∧ mrun next s w < N
  | [], s, h0, h1, _ => ⟨h0, h1⟩
  | c :: w, s, h0, h1, hw => by
    have hc := hw c (by simp)
    have := h.to h0 h1 hc.1 hc.2
    exact h.run w _ this.1 this.2 (fun x hx => hw x (by simp [hx]))

/-! the document's -/
theorem Bit_mach (a i : Nat) (ha : a < 2 ^ 32) (hi : i < 32) : coppicerref_Bit.f (a : Int) (i : Int) = some (a.testBit i) := by
  unfold coppicerref_Bit.f
  simp (disch := omega) only [if_pos, u64_id, bit_and a i ha hi]
theorem Leads_l0 (N K : Int) (next : List (List Int)) (st f : Int) (ho : okMach N K next) (w : List Int) (hw : w.length ≤ 12) (hk : ∀ c ∈ w, 0 ≤ c ∧ c < K) (d : Nat) : ∀ (i s : Int), 0 ≤ i → i + d = w.length → 0 ≤ s → s < N →
    Ev (fun k => coppicerref_Leads.l0 k s w (w.length : Int) i N K next st f) (mrun next s (w.drop i.toNat)) := by
  induction d with
  | zero =>
    intro i s h0 hd s0 s1
    refine Ev.step (fun k => coppicerref_Leads.l0.eq_2 _ _ _ _ _ _ _ _ _ k) ?_
    rw [List.drop_eq_nil_of_le (by omega)]
    simp (disch := omega) only [if_neg (show ¬ i < (w.length : Int) by omega)]
    exact Ev.now _
  | succ d ih =>
    intro i s h0 hd s0 s1
    refine Ev.step (fun k => coppicerref_Leads.l0.eq_2 _ _ _ _ _ _ _ _ _ k) ?_
    have hc := hk _ (rd_mem h0 (show i < w.length by omega))
    have hr := ho.row s0 s1
    have ht := ho.to s0 s1 hc.1 hc.2
    rw [drop_rd h0 (by omega)]
    simp (disch := omega) only [if_pos, w64]
    exact ih (i + 1) _ (by omega) (by omega) ht.1 ht.2
theorem Leads_ev (N K : Int) (next : List (List Int)) (st f : Int) (ho : okMach N K next) (w : List Int) (hw : w.length ≤ 12) (hk : ∀ c ∈ w, 0 ≤ c ∧ c < K) (s : Int) (s0 : 0 ≤ s) (s1 : s < N) : Ev (fun k => coppicerref_Leads.f k N K next st f s w) (mrun next s w) := by
  unfold coppicerref_Leads.f
  simpa using Leads_l0 N K next st f ho w hw hk w.length 0 s (by omega) (by omega) s0 s1

theorem Takes_ev (N K : Int) (next : List (List Int)) (st : Int) (f : Nat) (hN : N ≤ 7) (hf : f < 2 ^ 32) (ho : okMach N K next) (w : List Int) (hw : w.length ≤ 12) (hk : ∀ c ∈ w, 0 ≤ c ∧ c < K) (s0 : 0 ≤ st) (s1 : st < N) : Ev (fun k => coppicerref_Takes.f k N K next st (f : Int) w) (f.testBit (mrun next st w).toNat) := by
  unfold coppicerref_Takes.f
  refine Ev.bind (Leads_ev N K next st f ho w hw hk st s0 s1) ?_
  have hr := ho.run w st s0 s1 hk
  obtain ⟨n, hn⟩ := Int.eq_ofNat_of_zero_le hr.1
  rw [hn, Bit_mach f n hf (by omega)]
  exact Ev.now _

/-! ### how many words of a length -/
theorem bit_shr01 (a i : Nat) (ha : a < 2 ^ 32) (hi : i < 32) : Go.bits .and .u32 (shr .u32 (a : Int) (i : Int)) 1 = if a.testBit i = true then 1 else 0 := by
  rw [shrn a i hi]
  have h1 : a / 2 ^ i < 2 ^ 32 := Nat.lt_of_le_of_lt (Nat.div_le_self _ _) ha
  have h2 := u32_and (a / 2 ^ i) 1 h1 (by decide)
  have h3 : ((1 : Nat) : Int) = 1 := rfl
  rw [h3] at h2
  rw [h2, Nat.and_one_is_mod, Nat.testBit_eq_decide_div_mod_eq]
  rcases Nat.mod_two_eq_zero_or_one (a / 2 ^ i) with h | h <;> rw [h] <;> rfl
theorem Bit_eq (a i : Nat) (ha : a < 2 ^ 32) (hi : i < 32) : coppicerref_Bit.f (a : Int) (i : Int) = some (a.testBit i) := by
  unfold coppicerref_Bit.f
  simp (disch := omega) only [if_pos, u64_id, bit_and a i ha hi]
theorem rdF (F : List Nat) (i : Int) : rd (F.map fun n : Nat => (n : Int)) i = ((F.getD i.toNat 0 : Nat) : Int) := by
  unfold rd
  rw [List.getD_eq_getElem?_getD, List.getD_eq_getElem?_getD, List.getElem?_map]
  cases F[i.toNat]? <;> rfl
theorem setF (F : List Nat) (i v : Nat) : (F.map fun n : Nat => (n : Int)).set i (v : Int) = (F.set i v).map fun n : Nat => (n : Int) := by rw [List.map_set]
theorem getD_set (F : List Nat) (i j v : Nat) (h : i < F.length) : (F.set i v).getD j 0 = if i = j then v else F.getD j 0 := by
  rw [List.getD_eq_getElem?_getD, List.getD_eq_getElem?_getD, List.getElem?_set]
  by_cases c : i = j
  · subst c; simp [h]
  · simp [c]
def stepW (next : List (List Int)) (w : Int → Nat) (s : Int) : Nat := ((rd_L1 next s).map w).sum
def iterW (next : List (List Int)) : Nat → (Int → Nat) → Int → Nat
  | 0, w => w
  | n + 1, w => iterW next n (stepW next w)
theorem iterW_succ (next : List (List Int)) : ∀ (n : Nat) (w : Int → Nat), iterW next (n + 1) w = stepW next (iterW next n w)
  | 0, w => rfl
  | n + 1, w => by
    show iterW next (n + 1) (stepW next w) = stepW next (iterW next n (stepW next w))
    exact iterW_succ next n (stepW next w)
def accW (f : Nat) (s : Int) : Nat := if f.testBit s.toNat = true then 1 else 0
def wayW (next : List (List Int)) (f n : Nat) : Int → Nat := iterW next n (accW f)
theorem sum_le {l : List Int} {w : Int → Nat} {B : Nat} (h : ∀ x ∈ l, w x ≤ B) : (l.map w).sum ≤ l.length * B := by
  induction l with
  | nil => simp
  | cons x l ih =>
    have h1 := h x (by simp)
    have h2 := ih (fun y hy => h y (by simp [hy]))
    rw [List.map_cons, List.sum_cons, List.length_cons, Nat.succ_mul]; omega
theorem stepW_le {N K : Int} {next : List (List Int)} (hm : okMach N K next) (hK : K ≤ 3) {w : Int → Nat} {B : Nat} (h : ∀ s, 0 ≤ s → s < N → w s ≤ B) (s : Int) (h0 : 0 ≤ s) (h1 : s < N) : stepW next w s ≤ 3 * B := by
  have hr := hm.row h0 h1
  have hx := (hm.2 _ (rdL_mem h0 hr.2)).2
  unfold stepW
  have := sum_le (l := rd_L1 next s) (w := w) (B := B) (fun x hx2 => h x (hx x hx2).1 (hx x hx2).2)
  have h3 : (rd_L1 next s).length * B ≤ 3 * B := Nat.mul_le_mul_right B (by omega)
  omega
theorem iterW_le {N K : Int} {next : List (List Int)} (hm : okMach N K next) (hK : K ≤ 3) : ∀ (n : Nat) (w : Int → Nat) (B : Nat), (∀ s, 0 ≤ s → s < N → w s ≤ B) → ∀ s, 0 ≤ s → s < N → iterW next n w s ≤ 3 ^ n * B
  | 0, w, B, h, s, h0, h1 => by simpa [iterW] using h s h0 h1
  | n + 1, w, B, h, s, h0, h1 => by
    have := iterW_le hm hK n (stepW next w) (3 * B) (fun s h0 h1 => stepW_le hm hK h s h0 h1) s h0 h1
    rw [Nat.pow_succ, Nat.mul_assoc]; exact this
theorem pow3_le {n : Nat} (h : n ≤ 12) : 3 ^ n ≤ 531441 := by
  have := Nat.pow_le_pow_right (show 0 < 3 by omega) h
  exact this
theorem wayW_le {N K : Int} {next : List (List Int)} (hm : okMach N K next) (hK : K ≤ 3) {n : Nat} (hn : n ≤ 12) (f : Nat) {s : Int} (h0 : 0 ≤ s) (h1 : s < N) : wayW next f n s ≤ 531441 := by
  have := iterW_le hm hK n (accW f) 1 (fun s _ _ => by unfold accW; split <;> omega) s h0 h1
  have h3 := pow3_le hn
  unfold wayW; omega
def vecW (N : Nat) (w : Int → Nat) : List Nat := (List.range N).map fun s : Nat => w (s : Int)
theorem vecW_len (N : Nat) (w : Int → Nat) : (vecW N w).length = N := by simp [vecW]
theorem vecW_get {N : Nat} {w : Int → Nat} {s : Nat} (h : s < N) : (vecW N w).getD s 0 = w (s : Int) := by
  simp [vecW, List.getD_eq_getElem?_getD, List.getElem?_range h]
theorem vecW_ext {N : Nat} {w : Int → Nat} {X : List Nat} (h : X.length = N) (hx : ∀ s, s < N → X.getD s 0 = w (s : Int)) : X = vecW N w := by
  apply List.ext_getElem
  · rw [h, vecW_len]
  · intro i h1 h2
    have := hx i (by omega)
    rw [List.getD_eq_getElem?_getD, List.getElem?_eq_getElem h1] at this
    simp [vecW]; simpa using this
section
variable (A : Nat) (K : Int) (next : List (List Int)) (st : Int) (f : Nat) (hA0 : 1 ≤ A) (hA : A ≤ 7) (hK0 : 1 ≤ K) (hK : K ≤ 3) (hm : okMach (A : Int) K next) (hf : f < 2 ^ 32)
include hA0 hA hK0 hK hm hf
theorem ways_l1 (n : Nat) (hn : n ≤ 12) : Ev (fun k => tally_ways.l1 k ((vecW A (accW f)).map fun n : Nat => (n : Int)) (n : Int) 0 A K next st f) ((vecW A (wayW next f n)).map fun n : Nat => (n : Int)) := by
  have hnl : (next.length : Int) = A := hm.1
  refine Ev.loop (L := fun k m (X : List Nat) => tally_ways.l1 k (X.map fun n : Nat => (n : Int)) (n : Int) m A K next st f) (n := n) (fun m X => X = vecW A (wayW next f m.toNat)) ?_ ?_ 0 _ (Int.le_refl _) (by omega) rfl
  · intro X hX
    rw [Int.toNat_natCast] at hX
    refine Ev.step (fun k => tally_ways.l1.eq_2 _ _ _ _ _ _ _ _ k) ?_
    refine Ev.neg (by omega) ?_
    rw [hX]; exact Ev.now _
  · intro m X h0 h1 hX
    right
    obtain ⟨m, rfl⟩ := Int.eq_ofNat_of_zero_le h0
    rw [Int.toNat_natCast] at hX
    refine ⟨vecW A (wayW next f (m + 1)), by rw [show ((m : Int) + 1).toNat = m + 1 by omega], ?_⟩
    intro hk
    have hXl : X.length = A := by rw [hX, vecW_len]
    have hXr : ∀ s : Int, 0 ≤ s → s < A → rd (X.map fun n : Nat => (n : Int)) s = ((wayW next f m s : Nat) : Int) := by
      intro s s0 s1
      obtain ⟨s, rfl⟩ := Int.eq_ofNat_of_zero_le s0
      rw [rdF, hX, Int.toNat_natCast, vecW_get (by omega)]
    refine Ev.step (fun k => tally_ways.l1.eq_2 _ _ _ _ _ _ _ _ k) ?_
    refine Ev.pos (by omega) (Ev.pos (by omega) (Ev.pos (by omega) ?_))
    have e0 : List.replicate ((A : Int)).toNat (0 : Int) = (List.replicate A 0).map fun n : Nat => (n : Int) := by rw [List.map_replicate, Int.toNat_natCast]; rfl
    rw [e0]
    refine Ev.loop (L := fun k s (Y : List Nat) => tally_ways.l2 k (X.map fun n : Nat => (n : Int)) (Y.map fun n : Nat => (n : Int)) (n : Int) (m : Int) next (next.length : Int) s A K next st f) (n := next.length) (fun s Y => Y.length = A ∧ (∀ j : Nat, (j : Int) < s → Y.getD j 0 = wayW next f (m + 1) j) ∧ ∀ j : Nat, s ≤ (j : Int) → Y.getD j 0 = 0) ?_ ?_ 0 (List.replicate A 0) (Int.le_refl _) (by omega) ⟨by simp, fun j hj => by omega, fun j _ => by simp [List.getD_eq_getElem?_getD, List.getElem?_replicate]; split <;> rfl⟩
    · rintro Y ⟨g1, g2, _⟩
      refine Ev.step (fun k => tally_ways.l2.eq_2 _ _ _ _ _ _ _ _ _ _ _ _ k) ?_
      refine Ev.neg (by omega) ?_
      rw [vecW_ext g1 (fun s hs => g2 s (by omega)), w64 (by omega) (by omega)]; exact hk
    · rintro s Y h2 h3 ⟨g1, g2, g3⟩
      right
      obtain ⟨s, rfl⟩ := Int.eq_ofNat_of_zero_le h2
      have hr := hm.row (s := (s : Int)) (by omega) (by omega)
      have hx := (hm.2 _ (rdL_mem (l := next) h2 h3)).2
      refine ⟨Y.set s (wayW next f (m + 1) s), ⟨by rw [List.length_set]; exact g1, ?_, ?_⟩, ?_⟩
      · intro j hj
        rw [getD_set _ _ _ _ (by omega)]
        split
        · rename_i e; rw [e]
        · rename_i e; exact g2 j (by omega)
      · intro j hj
        rw [getD_set _ _ _ _ (by omega), if_neg (by omega)]; exact g3 j (by omega)
      · intro h4
        refine Ev.step (fun k => tally_ways.l2.eq_2 _ _ _ _ _ _ _ _ _ _ _ _ k) ?_
        refine Ev.pos h3 (Ev.pos h2 (Ev.pos h3 ?_))
        refine Ev.loop (L := fun k j (Z : List Nat) => tally_ways.l3 k (X.map fun n : Nat => (n : Int)) (Z.map fun n : Nat => (n : Int)) (s : Int) (n : Int) (m : Int) next (next.length : Int) (s : Int) (rd_L1 next s) ((rd_L1 next s).length : Int) j A K next st f) (n := (rd_L1 next s).length) (fun j Z => Z.length = A ∧ (∃ v, Z = Y.set s v) ∧ Z.getD s 0 + (((rd_L1 next s).drop j.toNat).map (wayW next f m)).sum = wayW next f (m + 1) s) ?_ ?_ 0 Y (Int.le_refl _) (by omega) ⟨g1, ⟨0, ?_⟩, ?_⟩
        · rintro Z ⟨z1, ⟨v, z2⟩, z3⟩
          rw [Int.toNat_natCast, List.drop_length] at z3
          have z3 : Z.getD s 0 = wayW next f (m + 1) s := z3
          refine Ev.step (fun k => tally_ways.l3.eq_2 _ _ _ _ _ _ _ _ _ _ _ _ _ _ _ _ k) ?_
          refine Ev.neg (by omega) ?_
          rw [z2, getD_set _ _ _ _ (by omega), if_pos rfl] at z3
          rw [z2, z3, w64 (by omega) (by omega)]; exact h4
        · rintro j Z h5 h6 ⟨z1, ⟨v, z2⟩, z3⟩
          right
          have hxj := hx _ (rd_mem h5 h6)
          rw [rd_cons h5 h6, List.map_cons, List.sum_cons] at z3
          have hb := wayW_le hm hK (show m + 1 ≤ 12 by omega) f (s := (s : Int)) (by omega) (by omega)
          refine ⟨Z.set s (Z.getD s 0 + wayW next f m (rd (rd_L1 next s) j)), ⟨by rw [List.length_set]; exact z1, ⟨Z.getD s 0 + wayW next f m (rd (rd_L1 next s) j), ?_⟩, ?_⟩, ?_⟩
          · rw [z2, List.set_set]
          · rw [getD_set _ _ _ _ (by omega), if_pos rfl]; omega
          · intro h7
            refine Ev.step (fun k => tally_ways.l3.eq_2 _ _ _ _ _ _ _ _ _ _ _ _ _ _ _ _ k) ?_
            refine Ev.pos h6 (Ev.pos h5 (Ev.pos h6 (Ev.pos (by omega) (Ev.pos (by rw [List.length_map]; omega) (Ev.pos hxj.1 (Ev.pos (by rw [List.length_map]; omega) ?_))))))
            rw [hXr _ hxj.1 hxj.2, rdF, Int.toNat_natCast, w64 (by omega) (by omega), w64 (by omega) (by omega)]
            have e : ((Z.getD s 0 : Nat) : Int) + ((wayW next f m (rd (rd_L1 next s) j) : Nat) : Int) = ((Z.getD s 0 + wayW next f m (rd (rd_L1 next s) j) : Nat) : Int) := by omega
            rw [e, setF]; exact h7
        · have := g3 s (by omega)
          apply List.ext_getElem?
          intro i
          rw [List.getElem?_set]
          split
          · rename_i e; subst e
            rw [if_pos (by omega)]
            rw [List.getD_eq_getElem?_getD, List.getElem?_eq_getElem (by omega)] at this
            rw [List.getElem?_eq_getElem (by omega)]; simpa using this
          · rfl
        · rw [g3 s (by omega), Int.toNat_zero, List.drop_zero, Nat.zero_add]
          unfold wayW
          rw [iterW_succ]; rfl
theorem ways_ev (n : Nat) (hn : n ≤ 12) : Ev (fun k => tally_ways.f k A K next st f (n : Int)) ((vecW A (wayW next f n)).map fun n : Nat => (n : Int)) := by
  unfold tally_ways.f
  refine Ev.pos (by omega) (Ev.pos (by omega) ?_)
  simp only [Option.bind_some]
  have e0 : List.replicate ((A : Int)).toNat (0 : Int) = (List.replicate A 0).map fun n : Nat => (n : Int) := by rw [List.map_replicate, Int.toNat_natCast]; rfl
  rw [e0, List.length_map, List.length_replicate]
  refine Ev.loop (L := fun k i (Y : List Nat) => tally_ways.l0 k (n : Int) (Y.map fun n : Nat => (n : Int)) (A : Int) i A K next st f) (n := A) (fun i Y => Y.length = A ∧ ∀ j : Nat, (j : Int) < i → Y.getD j 0 = accW f j) ?_ ?_ 0 (List.replicate A 0) (Int.le_refl _) (by omega) ⟨by simp, fun j hj => by omega⟩
  · rintro Y ⟨g1, g2⟩
    refine Ev.step (fun k => tally_ways.l0.eq_2 _ _ _ _ _ _ _ _ _ k) ?_
    refine Ev.neg (by omega) ?_
    rw [vecW_ext g1 (fun s hs => g2 s (by omega))]
    exact ways_l1 A K next st f hA0 hA hK0 hK hm hf n hn
  · rintro i Y h0 h1 ⟨g1, g2⟩
    right
    obtain ⟨i, rfl⟩ := Int.eq_ofNat_of_zero_le h0
    refine ⟨Y.set i (accW f i), ⟨by rw [List.length_set]; exact g1, ?_⟩, ?_⟩
    · intro j hj
      rw [getD_set _ _ _ _ (by omega)]
      split
      · rename_i e; rw [e]
      · exact g2 j (by omega)
    · intro hk
      refine Ev.step (fun k => tally_ways.l0.eq_2 _ _ _ _ _ _ _ _ _ k) ?_
      refine Ev.pos (by omega) (Ev.pos (by omega) (Ev.pos (by rw [List.length_map]; omega) ?_))
      rw [bit_shr01 f i hf (by omega), w64 (show -9223372036854775808 ≤ (i : Int) + 1 by omega) (by omega)]
      have e : wrap64 (if f.testBit i = true then (1 : Int) else 0) = ((accW f i : Nat) : Int) := by
        unfold accW
        rw [Int.toNat_natCast]
        by_cases c : f.testBit i = true
        · simp only [if_pos c]; exact w64 (by omega) (by omega)
        · simp only [if_neg c]; exact w64 (by omega) (by omega)
      rw [e, Int.toNat_natCast, setF]; exact hk
end

/-! ### the same number, counted from the start on -/
def ipw (w : Int → Nat) : Nat → List Nat → Nat
  | _, [] => 0
  | i, x :: l => x * w (i : Int) + ipw w (i + 1) l
theorem ipw_set (w : Int → Nat) (v : Nat) : ∀ (l : List Nat) (i j : Nat), j < l.length → ipw w i (l.set j v) + l.getD j 0 * w ((i + j : Nat) : Int) = ipw w i l + v * w ((i + j : Nat) : Int)
  | [], _, _, h => by simp at h
  | x :: l, i, 0, _ => by simp [ipw]; omega
  | x :: l, i, j + 1, h => by
    have := ipw_set w v l (i + 1) j (by simpa using h)
    rw [show i + 1 + j = i + (j + 1) by omega] at this
    simp only [List.set_cons_succ, ipw, List.getD_cons_succ]; omega
theorem ipw_add (w : Int → Nat) (v : Nat) (l : List Nat) (j : Nat) (h : j < l.length) : ipw w 0 (l.set j (l.getD j 0 + v)) = ipw w 0 l + v * w (j : Int) := by
  have := ipw_set w (l.getD j 0 + v) l 0 j h
  rw [Nat.zero_add, Nat.add_mul] at this; omega
theorem ipw_le : ∀ (l : List Nat) (i j : Nat), l.getD j 0 ≤ ipw (fun _ => 1) i l
  | [], _, _ => by simp
  | x :: l, i, 0 => by simp [ipw]
  | x :: l, i, j + 1 => by
    have := ipw_le l (i + 1) j
    simp only [ipw, List.getD_cons_succ]; omega
theorem ipw_zero (w : Int → Nat) : ∀ (n i : Nat), ipw w i (List.replicate n 0) = 0
  | 0, _ => rfl
  | n + 1, i => by rw [List.replicate_succ]; simp [ipw, ipw_zero w n (i + 1)]
theorem ipw_drop (w : Int → Nat) (l : List Nat) (s : Nat) (h : s < l.length) : ipw w s (l.drop s) = l.getD s 0 * w (s : Int) + ipw w (s + 1) (l.drop (s + 1)) := by
  rw [List.drop_eq_getElem_cons h, ipw, List.getD_eq_getElem?_getD, List.getElem?_eq_getElem h]; rfl
def rowAdd (v : Nat) (Y : List Nat) (row : List Int) : List Nat := row.foldl (fun Y t => Y.set t.toNat (Y.getD t.toNat 0 + v)) Y
theorem rowAdd_len (v : Nat) : ∀ (row : List Int) (Y : List Nat), (rowAdd v Y row).length = Y.length
  | [], _ => rfl
  | t :: row, Y => by
    have := rowAdd_len v row (Y.set t.toNat (Y.getD t.toNat 0 + v))
    rw [List.length_set] at this
    unfold rowAdd at this ⊢
    rw [List.foldl_cons]; exact this
theorem ipw_row (w : Int → Nat) (v : Nat) : ∀ (row : List Int) (Y : List Nat), (∀ x ∈ row, 0 ≤ x ∧ x < (Y.length : Nat)) → ipw w 0 (rowAdd v Y row) = ipw w 0 Y + v * (row.map w).sum
  | [], Y, _ => by simp [rowAdd]
  | t :: row, Y, h => by
    have ht := h t (by simp)
    have ih := ipw_row w v row (Y.set t.toNat (Y.getD t.toNat 0 + v)) (fun x hx => by rw [List.length_set]; exact h x (by simp [hx]))
    have ha := ipw_add w v Y t.toNat (by omega)
    rw [show ((t.toNat : Nat) : Int) = t by omega] at ha
    have e : rowAdd v Y (t :: row) = rowAdd v (Y.set t.toNat (Y.getD t.toNat 0 + v)) row := rfl
    rw [e, ih, ha, List.map_cons, List.sum_cons, Nat.mul_add]; omega
section
variable (A : Nat) (K : Int) (next : List (List Int)) (st : Int) (f : Nat) (hA0 : 1 ≤ A) (hA : A ≤ 7) (hK0 : 1 ≤ K) (hK : K ≤ 3) (hm : okMach (A : Int) K next) (hf : f < 2 ^ 32)
include hA0 hA hK0 hK hm hf
theorem one_le (n : Nat) (hn : n ≤ 12) (s : Int) (h0 : 0 ≤ s) (h1 : s < A) : iterW next n (fun _ => 1) s ≤ 531441 := by
  have := iterW_le hm hK n (fun _ => 1) 1 (fun s _ _ => Nat.le_refl _) s h0 h1
  have h3 := pow3_le hn
  omega
theorem many_l3 (X : List Nat) (hX : X.length = A) (hB : ipw (fun _ => 1) 0 X ≤ 531441) : Ev (fun k => coppicerref_Many.l3 k (X.map fun n : Nat => (n : Int)) 0 0 A K next st f) ((ipw (accW f) 0 X : Nat) : Int) := by
  have hle : ∀ (l : List Nat) (i : Nat), ipw (accW f) i l ≤ ipw (fun _ => 1) i l := by
    intro l
    induction l with
    | nil => intro i; exact Nat.le_refl _
    | cons x l ih =>
      intro i
      have h1 := ih (i + 1)
      have h2 : x * accW f (i : Int) ≤ x * 1 := Nat.mul_le_mul_left x (by unfold accW; split <;> omega)
      simp only [ipw]; omega
  have htot := hle X 0
  refine Ev.loop (L := fun k s (a : Nat) => coppicerref_Many.l3 k (X.map fun n : Nat => (n : Int)) (a : Int) s A K next st f) (n := A) (fun s a => a + ipw (accW f) s.toNat (X.drop s.toNat) = ipw (accW f) 0 X) ?_ ?_ 0 0 (Int.le_refl _) (by omega) (by simp)
  · intro a ha
    rw [Int.toNat_natCast, List.drop_eq_nil_of_le (by omega)] at ha
    have ha : a = ipw (accW f) 0 X := ha
    refine Ev.step (fun k => coppicerref_Many.l3.eq_2 _ _ _ _ _ _ _ _ k) ?_
    refine Ev.neg (by omega) ?_
    rw [ha]; exact Ev.now _
  · intro s a h0 h1 ha
    right
    obtain ⟨s, rfl⟩ := Int.eq_ofNat_of_zero_le h0
    rw [Int.toNat_natCast, ipw_drop _ _ _ (by omega)] at ha
    refine ⟨a + X.getD s 0 * accW f (s : Int), by rw [show ((s : Int) + 1).toNat = s + 1 by omega]; omega, ?_⟩
    intro h
    refine Ev.step (fun k => coppicerref_Many.l3.eq_2 _ _ _ _ _ _ _ _ k) ?_
    refine Ev.pos h1 ?_
    rw [Bit_eq f s hf (by omega), w64 (show -9223372036854775808 ≤ (s : Int) + 1 by omega) (by omega)]
    simp only [Option.bind_some]
    have ea : accW f (s : Int) = if f.testBit s = true then 1 else 0 := by unfold accW; rw [Int.toNat_natCast]
    by_cases c : f.testBit s = true
    · rw [ea, if_pos c, Nat.mul_one] at ha h
      refine Ev.pos c (Ev.pos h0 (Ev.pos (by rw [List.length_map]; omega) ?_))
      rw [rdF, Int.toNat_natCast, w64 (by omega) (by omega)]
      have e : (a : Int) + ((X.getD s 0 : Nat) : Int) = ((a + X.getD s 0 : Nat) : Int) := by omega
      rw [e]; exact h
    · rw [ea, if_neg c, Nat.mul_zero, Nat.add_zero] at h
      exact Ev.neg c h
theorem many_l1 (n m : Int) (hm0 : 0 ≤ m) (hm1 : m < 13) (X : List Nat) (hX : X.length = A) (hB : ipw (stepW next fun _ => 1) 0 X ≤ 531441) (R : Int)
    (hk : ∀ Y : List Nat, Y.length = A → (∀ w, ipw w 0 Y = ipw (stepW next w) 0 X) → Ev (fun k => coppicerref_Many.l0 k n (Y.map fun n : Nat => (n : Int)) (m + 1) A K next st f) R) :
    Ev (fun k => coppicerref_Many.l1 k n (X.map fun n : Nat => (n : Int)) m ((List.replicate A 0).map fun n : Nat => (n : Int)) 0 A K next st f) R := by
  have hnl : (next.length : Int) = A := hm.1
  refine Ev.loop (L := fun k s (Y : List Nat) => coppicerref_Many.l1 k n (X.map fun n : Nat => (n : Int)) m (Y.map fun n : Nat => (n : Int)) s A K next st f) (n := A) (fun s Y => Y.length = A ∧ ∀ w, ipw w 0 Y + ipw (stepW next w) s.toNat (X.drop s.toNat) = ipw (stepW next w) 0 X) ?_ ?_ 0 (List.replicate A 0) (Int.le_refl _) (by omega) ⟨by simp, fun w => by rw [ipw_zero]; simp⟩
  · rintro Y ⟨g1, g2⟩
    refine Ev.step (fun k => coppicerref_Many.l1.eq_2 _ _ _ _ _ _ _ _ _ _ k) ?_
    refine Ev.neg (by omega) ?_
    rw [w64 (by omega) (by omega)]
    refine hk Y g1 (fun w => ?_)
    have := g2 w
    rw [Int.toNat_natCast, List.drop_eq_nil_of_le (by omega)] at this
    exact this
  · rintro s Y h0 h1 ⟨g1, g2⟩
    right
    obtain ⟨s, rfl⟩ := Int.eq_ofNat_of_zero_le h0
    have hr := hm.row (s := (s : Int)) (by omega) (by omega)
    have hx := (hm.2 _ (rdL_mem (l := next) h0 (by omega))).2
    obtain ⟨row, hrow⟩ : ∃ row, rd_L1 next s = row := ⟨_, rfl⟩
    have hstep : ∀ w, stepW next w s = (row.map w).sum := fun w => by unfold stepW; rw [hrow]
    rw [hrow] at hr hx
    have g2' : ∀ w, ipw w 0 (rowAdd (X.getD s 0) Y row) + ipw (stepW next w) (s + 1) (X.drop (s + 1)) = ipw (stepW next w) 0 X := by
      intro w
      have := g2 w
      rw [Int.toNat_natCast, ipw_drop _ _ _ (by omega), hstep] at this
      rw [ipw_row w _ row Y (by rw [g1]; exact hx)]; omega
    refine ⟨rowAdd (X.getD s 0) Y row, ⟨by rw [rowAdd_len]; exact g1, fun w => by rw [show ((s : Int) + 1).toNat = s + 1 by omega]; exact g2' w⟩, ?_⟩
    intro h4
    have htot : ipw (fun _ => 1) 0 (rowAdd (X.getD s 0) Y row) ≤ 531441 := by have := g2' (fun _ => 1); omega
    refine Ev.step (fun k => coppicerref_Many.l1.eq_2 _ _ _ _ _ _ _ _ _ _ k) ?_
    refine Ev.pos h1 ?_
    refine Ev.loop (L := fun k c (Z : List Nat) => coppicerref_Many.l2 k n (X.map fun n : Nat => (n : Int)) m (Z.map fun n : Nat => (n : Int)) (s : Int) c A K next st f) (n := K) (fun c Z => Z.length = A ∧ rowAdd (X.getD s 0) Z (row.drop c.toNat) = rowAdd (X.getD s 0) Y row) ?_ ?_ 0 Y (Int.le_refl _) (by omega) ⟨g1, rfl⟩
    · rintro Z ⟨z1, z2⟩
      rw [List.drop_eq_nil_of_le (by omega)] at z2
      have z2 : Z = rowAdd (X.getD s 0) Y row := z2
      refine Ev.step (fun k => coppicerref_Many.l2.eq_2 _ _ _ _ _ _ _ _ _ _ _ k) ?_
      refine Ev.neg (by omega) ?_
      rw [z2, w64 (by omega) (by omega)]; exact h4
    · rintro c Z h5 h6 ⟨z1, z2⟩
      right
      have hc : c < row.length := by omega
      have hxc := hx _ (rd_mem h5 hc)
      rw [rd_cons h5 hc] at z2
      obtain ⟨t, ht⟩ := Int.eq_ofNat_of_zero_le hxc.1
      have z3 : rowAdd (X.getD s 0) (Z.set t (Z.getD t 0 + X.getD s 0)) (row.drop (c + 1).toNat) = rowAdd (X.getD s 0) Y row := by
        rw [← z2]; unfold rowAdd; rw [List.foldl_cons, ht, Int.toNat_natCast]
      have hbound : Z.getD t 0 + X.getD s 0 ≤ 531441 := by
        have a1 := ipw_row (fun _ => 1) (X.getD s 0) (row.drop (c + 1).toNat) (Z.set t (Z.getD t 0 + X.getD s 0)) (fun x hx2 => by rw [List.length_set, z1]; exact hx x (List.mem_of_mem_drop hx2))
        rw [z3] at a1
        have a2 := ipw_le (Z.set t (Z.getD t 0 + X.getD s 0)) 0 t
        rw [getD_set _ _ _ _ (by omega), if_pos rfl] at a2
        omega
      refine ⟨Z.set t (Z.getD t 0 + X.getD s 0), ⟨by rw [List.length_set]; exact z1, z3⟩, ?_⟩
      intro h7
      refine Ev.step (fun k => coppicerref_Many.l2.eq_2 _ _ _ _ _ _ _ _ _ _ _ k) ?_
      rw [hrow, ht]
      refine Ev.pos h6 (Ev.pos h0 (Ev.pos (by omega) (Ev.pos h5 (Ev.pos hc (Ev.pos (by omega) (Ev.pos (by rw [List.length_map]; omega) (Ev.pos (by rw [List.length_map]; omega) ?_)))))))
      rw [rdF, rdF, Int.toNat_natCast, Int.toNat_natCast, w64 (show -9223372036854775808 ≤ c + 1 by omega) (by omega), w64 (by omega) (by omega)]
      have e : ((Z.getD t 0 : Nat) : Int) + ((X.getD s 0 : Nat) : Int) = ((Z.getD t 0 + X.getD s 0 : Nat) : Int) := by omega
      rw [e, setF]; exact h7
theorem many_l0 (n : Nat) (hn : n ≤ 12) (s0 : Int) (hs0 : 0 ≤ s0) (hs1 : s0 < A) (d : Nat) : ∀ (m : Nat) (X : List Nat), m + d = n → X.length = A → (∀ w, ipw w 0 X = iterW next m w s0) → Ev (fun k => coppicerref_Many.l0 k (n : Int) (X.map fun n : Nat => (n : Int)) (m : Int) A K next st f) ((wayW next f n s0 : Nat) : Int) := by
  induction d with
  | zero =>
    intro m X hd hX hw
    refine Ev.step (fun k => coppicerref_Many.l0.eq_2 _ _ _ _ _ _ _ _ k) ?_
    refine Ev.neg (by omega) ?_
    have e : wayW next f n s0 = ipw (accW f) 0 X := by rw [hw, show m = n by omega]; rfl
    rw [e]
    exact many_l3 A K next st f hA0 hA hK0 hK hm hf X hX (by rw [hw]; exact one_le A K next f hA0 hA hK0 hK hm hf m (by omega) s0 hs0 hs1)
  | succ d ih =>
    intro m X hd hX hw
    refine Ev.step (fun k => coppicerref_Many.l0.eq_2 _ _ _ _ _ _ _ _ k) ?_
    refine Ev.pos (by omega) (Ev.pos (by omega) (Ev.pos (by omega) ?_))
    have e0 : List.replicate ((A : Int)).toNat (0 : Int) = (List.replicate A 0).map fun n : Nat => (n : Int) := by rw [List.map_replicate, Int.toNat_natCast]; rfl
    rw [e0]
    refine many_l1 A K next st f hA0 hA hK0 hK hm hf (n : Int) (m : Int) (by omega) (by omega) X hX ?_ _ ?_
    · rw [hw]
      exact one_le A K next f hA0 hA hK0 hK hm hf (m + 1) (by omega) s0 hs0 hs1
    · intro Y hY hYw
      have := ih (m + 1) Y (by omega) hY (fun w => by rw [hYw w, hw]; rfl)
      rw [show ((m : Int) + 1) = ((m + 1 : Nat) : Int) by omega]; exact this
theorem many_ev (n : Nat) (hn : n ≤ 12) (s0 : Int) (hs0 : 0 ≤ s0) (hs1 : s0 < A) : Ev (fun k => coppicerref_Many.f k A K next st f s0 (n : Int)) ((wayW next f n s0 : Nat) : Int) := by
  unfold coppicerref_Many.f
  refine Ev.pos (by omega) (Ev.pos (by omega) ?_)
  simp only [Option.bind_some, List.length_replicate]
  refine Ev.pos hs0 (Ev.pos (by omega) ?_)
  have e0 : (List.replicate ((A : Int)).toNat (0 : Int)).set s0.toNat 1 = ((List.replicate A 0).set s0.toNat 1).map fun n : Nat => (n : Int) := by rw [List.map_set, List.map_replicate, Int.toNat_natCast]; rfl
  rw [e0]
  refine many_l0 A K next st f hA0 hA hK0 hK hm hf n hn s0 hs0 hs1 n 0 _ (by omega) (by simp) (fun w => ?_)
  have := ipw_set w 1 (List.replicate A 0) 0 s0.toNat (by simp; omega)
  rw [ipw_zero, Nat.zero_add, Nat.one_mul, show ((s0.toNat : Nat) : Int) = s0 by omega] at this
  have h0 : (List.replicate A 0).getD s0.toNat 0 = 0 := by
    rw [List.getD_eq_getElem?_getD, List.getElem?_replicate]; split <;> rfl
  rw [h0] at this
  show _ = w s0
  omega
end

def tallyC (mc n : Int) : Int := if mc = 0 then (if n < 0 ∨ n > 12 then 1 else 0) else mc
theorem wrong_ev (N K : Int) (next : List (List Int)) (st f n : Int) (hf : 0 ≤ f) : Ev (fun k => tally_wrong.f k N K next st f n) (tallyC (machCode N K next st f) n) := by
  unfold tally_wrong.f
  refine Ev.bind (machCheck_ev N K next st f hf) ?_
  unfold tallyC
  by_cases c : machCode N K next st f = 0
  · simp only [if_pos c]
    by_cases c1 : n < 0
    · simp only [if_pos c1, if_pos (show n < 0 ∨ n > 12 from .inl c1)]; exact Ev.now _
    · by_cases c2 : n > 12
      · simp only [if_neg c1, if_pos c2, if_pos (show n < 0 ∨ n > 12 from .inr c2)]; exact Ev.now _
      · simp only [if_neg c1, if_neg c2, if_neg (show ¬ (n < 0 ∨ n > 12) by omega)]; exact Ev.now _
  · simp only [if_neg c]; exact Ev.now _
theorem tallyCode_ev (N K : Int) (next : List (List Int)) (st f n : Int) : Ev (fun k => coppicerlaw_tallyCode.f k N K next st f n) (tallyC (machCode N K next st f) n) := by
  unfold coppicerlaw_tallyCode.f
  refine Ev.bind (rmach_ev N K next st f) ?_
  unfold tallyC
  by_cases c : machCode N K next st f = 0
  · simp only [if_pos c]
    by_cases c1 : n < 0
    · simp only [if_pos c1, if_pos (show n < 0 ∨ n > 12 from .inl c1)]; exact Ev.now _
    · by_cases c2 : n > 12
      · simp only [if_neg c1, if_pos c2, if_pos (show n < 0 ∨ n > 12 from .inr c2)]; exact Ev.now _
      · simp only [if_neg c1, if_neg c2, if_neg (show ¬ (n < 0 ∨ n > 12) by omega)]
        rw [c]; exact Ev.now _
  · simp only [if_neg c]; exact Ev.now _
theorem tallyC_0 {mc n : Int} (h : tallyC mc n = 0) : mc = 0 ∧ 0 ≤ n ∧ n ≤ 12 := by
  unfold tallyC at h
  split at h
  · split at h
    · omega
    · exact ⟨by assumption, by omega, by omega⟩
  · omega

/-! ### a word's place -/
def skipS (next : List (List Int)) (f n : Nat) (q : Int) : Nat → Nat
  | 0 => 0
  | c + 1 => skipS next f n q c + wayW next f n (mto next q (c : Int))
def placeR (next : List (List Int)) (f : Nat) : Int → List Int → Nat
  | _, [] => 0
  | q, x :: w => skipS next f w.length q x.toNat + placeR next f (mto next q x) w
theorem mrun_app (next : List (List Int)) : ∀ (a b : List Int) (s : Int), mrun next s (a ++ b) = mrun next (mrun next s a) b
  | [], _, _ => rfl
  | x :: a, b, s => by simp only [List.cons_append, mrun]; exact mrun_app next a b _
section
variable (A : Nat) (K : Int) (next : List (List Int)) (st : Int) (f : Nat) (hA0 : 1 ≤ A) (hA : A ≤ 7) (hK0 : 1 ≤ K) (hK : K ≤ 3) (hm : okMach (A : Int) K next) (hf : f < 2 ^ 32)
include hA0 hA hK0 hK hm hf
theorem skip_le {n : Nat} (hn : n ≤ 12) {q : Int} (q0 : 0 ≤ q) (q1 : q < A) : ∀ c : Nat, (c : Int) ≤ K → skipS next f n q c ≤ c * 531441
  | 0, _ => by simp [skipS]
  | c + 1, h => by
    have := skip_le hn q0 q1 c (by omega)
    have ht := hm.to q0 q1 (c := (c : Int)) (by omega) (by omega)
    have := wayW_le hm hK hn f ht.1 ht.2
    simp only [skipS, Nat.succ_mul]; omega
theorem place_le : ∀ (w : List Int) (q : Int), w.length ≤ 12 → 0 ≤ q → q < A → (∀ c ∈ w, 0 ≤ c ∧ c < K) → placeR next f q w ≤ w.length * 1594323
  | [], _, _, _, _, _ => by simp [placeR]
  | x :: w, q, hl, q0, q1, hw => by
    have hx := hw x (by simp)
    have ht := hm.to q0 q1 hx.1 hx.2
    rw [List.length_cons] at hl
    have h1 := place_le w (mto next q x) (by omega) ht.1 ht.2 (fun c hc => hw c (by simp [hc]))
    have h2 := skip_le A K next f hA0 hA hK0 hK hm hf (n := w.length) (by omega) q0 q1 x.toNat (by omega)
    have h3 : x.toNat * 531441 ≤ 3 * 531441 := Nat.mul_le_mul_right _ (by omega)
    simp only [placeR, List.length_cons, Nat.succ_mul]; omega
theorem rplace_ev (w : List Int) (hl : w.length ≤ 12) (hw : ∀ c ∈ w, 0 ≤ c ∧ c < K) (s0 : 0 ≤ st) (s1 : st < A) : Ev (fun k => coppicerref_Place.f k A K next st f w) ((placeR next f st w : Nat) : Int) := by
  have htot := place_le A K next f hA0 hA hK0 hK hm hf w st hl s0 s1 hw
  unfold coppicerref_Place.f
  refine Ev.loop (L := fun k i (a : Nat) => coppicerref_Place.l0 k w (a : Int) w (w.length : Int) i A K next st f) (n := w.length) (fun i a => a + placeR next f (mrun next st (w.take i.toNat)) (w.drop i.toNat) = placeR next f st w) ?_ ?_ 0 0 (Int.le_refl _) (by omega) (by simp [mrun])
  · intro a g
    rw [Int.toNat_natCast, List.drop_length] at g
    have g : a = placeR next f st w := g
    refine Ev.step (fun k => coppicerref_Place.l0.eq_2 _ _ _ _ _ _ _ _ _ _ k) ?_
    refine Ev.neg (by omega) ?_
    rw [← g]; exact Ev.now _
  · intro i a h0 h1 g
    right
    have hx := hw _ (rd_mem h0 h1)
    have hq := hm.run (w.take i.toNat) st s0 s1 (fun c hc => hw c (List.mem_of_mem_take hc))
    rw [rd_cons h0 h1] at g
    have hdl : (w.drop (i + 1).toNat).length = w.length - (i + 1).toNat := List.length_drop
    obtain ⟨q, hqe⟩ : ∃ q, mrun next st (w.take i.toNat) = q := ⟨_, rfl⟩
    have hq2 : mrun next st (w.take (i + 1).toNat) = mto next q (rd w i) := by rw [take_rd h0 h1, mrun_app, hqe]; rfl
    have hlead := Leads_ev A K next st f hm (w.take i.toNat) (by rw [List.length_take]; omega) (fun c hc => hw c (List.mem_of_mem_take hc)) st s0 s1
    rw [hqe] at g hq hlead
    have g : a + (skipS next f (w.drop (i + 1).toNat).length q (rd w i).toNat + placeR next f (mto next q (rd w i)) (w.drop (i + 1).toNat)) = placeR next f st w := g
    rw [hdl] at g
    obtain ⟨x, hxe⟩ := Int.eq_ofNat_of_zero_le hx.1
    rw [hxe, Int.toNat_natCast] at g
    have hr := hm.row hq.1 hq.2
    refine ⟨a + skipS next f (w.length - (i + 1).toNat) q x, by rw [hq2, hxe]; omega, ?_⟩
    intro hk
    have hmany := fun s0 s1 s2 => many_ev A K next st f hA0 hA hK0 hK hm hf (w.length - (i + 1).toNat) (by omega) s0 s1 s2
    have hne : (w.length : Int) - i - 1 = ((w.length - (i + 1).toNat : Nat) : Int) := by omega
    refine Ev.step (fun k => coppicerref_Place.l0.eq_2 _ _ _ _ _ _ _ _ _ _ k) ?_
    refine Ev.pos h1 (Ev.pos h0 (Ev.pos h1 ?_))
    generalize w.length - (i + 1).toNat = n at hk g hmany hne
    have mono : ∀ c : Nat, c ≤ x → skipS next f n q c ≤ skipS next f n q x := by
      intro c hc
      have key : ∀ d, skipS next f n q c ≤ skipS next f n q (c + d) := by
        intro d
        induction d with
        | zero => exact Nat.le_refl _
        | succ d ih => have : skipS next f n q (c + (d + 1)) = skipS next f n q (c + d) + wayW next f n (mto next q ((c + d : Nat) : Int)) := rfl
                       omega
      have := key (x - c)
      rwa [show c + (x - c) = x by omega] at this
    refine Ev.loop (L := fun k c (b : Nat) => coppicerref_Place.l1 k w (b : Int) i (rd w i) c w (w.length : Int) i A K next st f) (n := rd w i) (fun c b => b = a + skipS next f n q c.toNat) ?_ ?_ 0 a (Int.le_refl _) hx.1 (by simp [skipS])
    · intro b hb
      rw [hxe, Int.toNat_natCast] at hb
      refine Ev.step (fun k => coppicerref_Place.l1.eq_2 _ _ _ _ _ _ _ _ _ _ _ _ _ k) ?_
      refine Ev.neg (by omega) ?_
      rw [hb, w64 (by omega) (by omega)]; exact hk
    · intro c b c0 c1 hb
      right
      obtain ⟨c, rfl⟩ := Int.eq_ofNat_of_zero_le c0
      rw [Int.toNat_natCast] at hb
      have htc := hm.to hq.1 hq.2 (c := (c : Int)) c0 (by omega)
      have hmo := mono (c + 1) (by omega)
      have hs : skipS next f n q (c + 1) = skipS next f n q c + wayW next f n (mto next q (c : Int)) := rfl
      refine ⟨a + skipS next f n q (c + 1), by rw [show ((c : Int) + 1).toNat = c + 1 by omega], ?_⟩
      intro h4
      refine Ev.step (fun k => coppicerref_Place.l1.eq_2 _ _ _ _ _ _ _ _ _ _ _ _ _ k) ?_
      refine Ev.pos c1 (Ev.pos h0 (Ev.pos (by omega) ?_))
      refine Ev.bind hlead ?_
      have em : rd (rd_L1 next q) (c : Int) = mto next q (c : Int) := rfl
      rw [em, w64 (show -9223372036854775808 ≤ (w.length : Int) - i by omega) (by omega), w64 (show -9223372036854775808 ≤ (w.length : Int) - i - 1 by omega) (by omega), hne]
      refine Ev.pos hq.1 (Ev.pos (by omega) (Ev.pos c0 (Ev.pos (by omega) ?_)))
      refine Ev.bind (hmany _ htc.1 htc.2) ?_
      rw [w64 (show -9223372036854775808 ≤ (c : Int) + 1 by omega) (by omega), w64 (by omega) (by omega)]
      have e : ((b : Nat) : Int) + ((wayW next f n (mto next q (c : Int)) : Nat) : Int) = ((a + skipS next f n q (c + 1) : Nat) : Int) := by omega
      rw [e]; exact h4
end

theorem skipS_mono (next : List (List Int)) (f n : Nat) (q : Int) {a b : Nat} (h : a ≤ b) : skipS next f n q a ≤ skipS next f n q b := by
  have key : ∀ d, skipS next f n q a ≤ skipS next f n q (a + d) := by
    intro d
    induction d with
    | zero => exact Nat.le_refl _
    | succ d ih => have : skipS next f n q (a + (d + 1)) = skipS next f n q (a + d) + wayW next f n (mto next q ((a + d : Nat) : Int)) := rfl
                   omega
  have := key (b - a)
  rwa [show a + (b - a) = b by omega] at this
theorem skipS_take (next : List (List Int)) (f n : Nat) (q : Int) : ∀ c : Nat, c ≤ (rd_L1 next q).length → skipS next f n q c = (((rd_L1 next q).take c).map (wayW next f n)).sum
  | 0, _ => by simp [skipS]
  | c + 1, h => by
    have e := take_rd (l := rd_L1 next q) (i := (c : Int)) (by omega) (by omega)
    rw [show ((c : Int) + 1).toNat = c + 1 by omega, Int.toNat_natCast] at e
    rw [e, List.map_append, List.sum_append_nat, ← skipS_take next f n q c (by omega)]
    simp [skipS, mto]
theorem skipS_all {N K : Int} {next : List (List Int)} (hm : okMach N K next) (f n : Nat) {q : Int} (q0 : 0 ≤ q) (q1 : q < N) : wayW next f (n + 1) q = skipS next f n q K.toNat := by
  have hr := hm.row q0 q1
  rw [skipS_take next f n q _ (by omega), List.take_of_length_le (by omega)]
  unfold wayW
  rw [iterW_succ]; rfl
theorem find_c {next : List (List Int)} {f n : Nat} {q : Int} {r : Nat} : ∀ k : Nat, r < skipS next f n q k → ∃ c, c < k ∧ skipS next f n q c ≤ r ∧ r < skipS next f n q (c + 1)
  | 0, h => by simp [skipS] at h
  | k + 1, h => by
    by_cases c : r < skipS next f n q k
    · obtain ⟨c, h1, h2⟩ := find_c k c
      exact ⟨c, by omega, h2⟩
    · exact ⟨k, by omega, by omega, h⟩
theorem wordCode_ok {K : Int} {w : List Int} (hl : w.length ≤ 12) (hw : ∀ s ∈ w, 0 ≤ s ∧ s < K) : wordCode K w = 0 := by
  unfold wordCode
  rw [if_neg (by omega), if_neg]
  rw [List.any_eq_true]
  rintro ⟨x, hx, h⟩
  have := hw x hx
  simp only [Bool.or_eq_true, decide_eq_true_eq] at h
  omega
section
variable (A : Nat) (K : Int) (next : List (List Int)) (st : Int) (f : Nat) (hA0 : 1 ≤ A) (hA : A ≤ 7) (hK0 : 1 ≤ K) (hK : K ≤ 3) (hm : okMach (A : Int) K next) (hf : f < 2 ^ 32)
include hA0 hA hK0 hK hm hf
theorem word_l0 (n : Nat) (hn : n ≤ 12) : ∀ (m : Nat) (q : Int) (r : Nat), 0 ≤ q → q < A → r < wayW next f m q → ∃ u : List Int, u.length = m ∧ (∀ c ∈ u, 0 ≤ c ∧ c < K) ∧ f.testBit (mrun next q u).toNat = true ∧ placeR next f q u = r ∧
    ∀ w : List Int, w.length + m = n → Ev (fun k => tally_Word.l0 k (n : Int) (r : Int) w q A K next st f) (w ++ u, 0)
  | 0, q, r, q0, q1, h => by
    unfold wayW iterW accW at h
    refine ⟨[], rfl, by simp, ?_, ?_, ?_⟩
    · by_cases c : f.testBit q.toNat = true
      · exact c
      · rw [if_neg c] at h; omega
    · have : (if f.testBit q.toNat = true then 1 else 0) ≤ 1 := by split <;> omega
      show 0 = r
      omega
    · intro w hw
      refine Ev.step (fun k => tally_Word.l0.eq_2 _ _ _ _ _ _ _ _ _ k) ?_
      refine Ev.neg (by omega) ?_
      rw [List.append_nil]; exact Ev.now _
  | m + 1, q, r, q0, q1, h => by
    rw [skipS_all hm f m q0 q1] at h
    obtain ⟨c, c1, c2, c3⟩ := find_c K.toNat h
    have ht := hm.to q0 q1 (c := (c : Int)) (by omega) (by omega)
    have hr := hm.row q0 q1
    have hs : skipS next f m q (c + 1) = skipS next f m q c + wayW next f m (mto next q (c : Int)) := rfl
    obtain ⟨u, u1, u2, u3, u4, u5⟩ := word_l0 n hn m (mto next q (c : Int)) (r - skipS next f m q c) ht.1 ht.2 (by omega)
    refine ⟨(c : Int) :: u, by simp [u1], ?_, u3, ?_, ?_⟩
    · intro x hx
      rcases List.mem_cons.1 hx with rfl | hx
      · omega
      · exact u2 x hx
    · simp only [placeR, u1, u4, Int.toNat_natCast]; omega
    · intro w hw
      have hbig := skip_le A K next f hA0 hA hK0 hK hm hf (n := m) (by omega) q0 q1 K.toNat (by omega)
      have h3 : K.toNat * 531441 ≤ 3 * 531441 := Nat.mul_le_mul_right _ (by omega)
      have hways := ways_ev A K next st f hA0 hA hK0 hK hm hf m (by omega)
      refine Ev.step (fun k => tally_Word.l0.eq_2 _ _ _ _ _ _ _ _ _ k) ?_
      refine Ev.pos (by omega) ?_
      rw [w64 (show -9223372036854775808 ≤ (n : Int) - 1 by omega) (by omega), w64 (show -9223372036854775808 ≤ (n : Int) - 1 - (w.length : Int) by omega) (by omega), show (n : Int) - 1 - (w.length : Int) = (m : Int) by omega]
      refine Ev.bind hways ?_
      have hV : ∀ t : Int, 0 ≤ t → t < A → rd ((vecW A (wayW next f m)).map fun n : Nat => (n : Int)) t = ((wayW next f m t : Nat) : Int) := by
        intro t t0 t1
        obtain ⟨t, rfl⟩ := Int.eq_ofNat_of_zero_le t0
        rw [rdF, Int.toNat_natCast, vecW_get (by omega)]
      have hVl : ((vecW A (wayW next f m)).map fun n : Nat => (n : Int)).length = A := by rw [List.length_map, vecW_len]
      generalize (vecW A (wayW next f m)).map (fun n : Nat => (n : Int)) = V at hV hVl
      refine Ev.loop (L := fun k i (b : Nat) => tally_Word.l1 k (n : Int) (b : Int) w q V i A K next st f) (n := (c : Int)) (fun i b => b = r - skipS next f m q i.toNat) ?_ ?_ 0 r (Int.le_refl _) (by omega) (by simp [skipS])
      · intro b hb
        rw [Int.toNat_natCast] at hb
        refine Ev.step (fun k => tally_Word.l1.eq_2 _ _ _ _ _ _ _ _ _ _ _ k) ?_
        have em : rd (rd_L1 next q) (c : Int) = mto next q (c : Int) := rfl
        rw [em, hV _ ht.1 ht.2]
        refine Ev.pos q0 (Ev.pos (by omega) (Ev.pos (by omega) (Ev.pos (by omega) (Ev.pos ht.1 (Ev.pos (by omega) (Ev.neg (by omega) (Ev.pos (by omega) ?_)))))))
        have := u5 (w ++ [(c : Int)]) (by rw [List.length_append, List.length_singleton]; omega)
        rw [List.append_assoc, ← hb] at this
        exact this
      · intro i b i0 i1 hb
        right
        obtain ⟨i, rfl⟩ := Int.eq_ofNat_of_zero_le i0
        rw [Int.toNat_natCast] at hb
        have hti := hm.to q0 q1 (c := (i : Int)) i0 (by omega)
        have hmo := skipS_mono next f m q (show i + 1 ≤ c by omega)
        have hsi : skipS next f m q (i + 1) = skipS next f m q i + wayW next f m (mto next q (i : Int)) := rfl
        refine ⟨r - skipS next f m q (i + 1), by rw [show ((i : Int) + 1).toNat = i + 1 by omega], ?_⟩
        intro h4
        refine Ev.step (fun k => tally_Word.l1.eq_2 _ _ _ _ _ _ _ _ _ _ _ k) ?_
        have em : rd (rd_L1 next q) (i : Int) = mto next q (i : Int) := rfl
        rw [em, hV _ hti.1 hti.2, w64 (show -9223372036854775808 ≤ (i : Int) + 1 by omega) (by omega), w64 (show -9223372036854775808 ≤ (b : Int) - ((wayW next f m (mto next q (i : Int)) : Nat) : Int) by omega) (by omega)]
        refine Ev.pos q0 (Ev.pos (by omega) (Ev.pos i0 (Ev.pos (by omega) (Ev.pos hti.1 (Ev.pos (by omega) (Ev.pos (by omega) ?_))))))
        have e : ((b : Nat) : Int) - ((wayW next f m (mto next q (i : Int)) : Nat) : Int) = ((r - skipS next f m q (i + 1) : Nat) : Int) := by omega
        rw [e]; exact h4
end
theorem TallyWords : coppicerlaw_TallyWords.Pure := by
  unfold coppicerlaw_TallyWords.Pure
  intro N K next st f n r _ _ _ _ hf _ _
  have hf := wf_u32 hf
  apply Ev.rounds
  unfold coppicerlaw_TallyWords.f tally_Word.f
  have h1 := wrong_ev N K next st f n hf.1
  have h2 := tallyCode_ev N K next st f n
  have j1w : ∀ c : Int, c ≠ 0 → Ev (fun k => coppicerlaw_TallyWords.j1 k n r [] c c N K next st f) true := by
    intro c hc
    refine Ev.step (fun k => coppicerlaw_TallyWords.j1.eq_2 _ _ _ _ _ _ _ _ _ _ k) ?_
    simp only [if_neg hc, if_true]; exact Ev.now _
  by_cases c : tallyC (machCode N K next st f) n = 0
  · obtain ⟨c1, n0, n1⟩ := tallyC_0 c
    obtain ⟨N0, N1, K0, K1, hm, s0, s1, _⟩ := machCode_0 c1
    rw [c] at h1 h2
    obtain ⟨A, rfl⟩ := Int.eq_ofNat_of_zero_le (show 0 ≤ N by omega)
    obtain ⟨m, rfl⟩ := Int.eq_ofNat_of_zero_le n0
    obtain ⟨f, rfl⟩ := Int.eq_ofNat_of_zero_le hf.1
    have hw := ways_ev A K next st f (by omega) (by omega) K0 K1 hm (by omega) m (by omega)
    have hy := many_ev A K next st f (by omega) (by omega) K0 K1 hm (by omega) m (by omega) st s0 s1
    have no : Ev (fun k => tally_Word.j0 k (m : Int) r true A K next st f) (([] : List Int), 5) := by
      refine Ev.step (fun k => tally_Word.j0.eq_2 _ _ _ _ _ _ _ _ k) ?_
      simp only [if_true]; exact Ev.now _
    have no2 : Ev (fun k => coppicerlaw_TallyWords.j0 k (m : Int) r [] 5 0 true A K next st f) true := by
      refine Ev.step (fun k => coppicerlaw_TallyWords.j0.eq_2 _ _ _ _ _ _ _ _ _ _ _ k) ?_
      simp only [if_true]; exact j1w 5 (by omega)
    by_cases r0 : r < 0
    · refine Ev.bind (Ev.bind h1 (a := 0) (r := (([] : List Int), (5 : Int))) ?_) ?_
      · simp only [if_true, if_pos r0]; exact no
      refine Ev.bind h2 ?_
      simp only [if_true, if_pos r0]; exact no2
    · obtain ⟨ρ, rfl⟩ := Int.eq_ofNat_of_zero_le (show 0 ≤ r by omega)
      have hrd : rd ((vecW A (wayW next f m)).map fun n : Nat => (n : Int)) st = ((wayW next f m st : Nat) : Int) := by
        rw [rdF, vecW_get (by omega), Int.toNat_of_nonneg s0]
      have hVl : ((vecW A (wayW next f m)).map fun n : Nat => (n : Int)).length = A := by rw [List.length_map, vecW_len]
      by_cases r1 : (ρ : Int) ≥ ((wayW next f m st : Nat) : Int)
      · refine Ev.bind (Ev.bind h1 (a := 0) (r := (([] : List Int), (5 : Int))) ?_) ?_
        · simp only [if_true, if_neg r0]
          refine Ev.bind hw (Ev.pos s0 (Ev.pos (by omega) ?_))
          rw [hrd, decide_eq_true r1]; exact no
        refine Ev.bind h2 ?_
        simp only [if_true, if_neg r0]
        refine Ev.bind hy ?_
        rw [decide_eq_true r1]; exact no2
      · obtain ⟨u, u1, u2, u3, u4, u5⟩ := word_l0 A K next st f (by omega) (by omega) K0 K1 hm (by omega) m (by omega) m st ρ s0 s1 (by omega)
        have hu := u5 [] (by simp)
        rw [List.nil_append] at hu
        refine Ev.bind (Ev.bind h1 (a := 0) (r := (u, (0 : Int))) ?_) ?_
        · simp only [if_true, if_neg r0]
          refine Ev.bind hw (Ev.pos s0 (Ev.pos (by omega) ?_))
          rw [hrd, decide_eq_false r1]
          refine Ev.step (fun k => tally_Word.j0.eq_2 _ _ _ _ _ _ _ _ k) ?_
          simp only [Bool.false_eq_true, if_false]
          exact hu
        refine Ev.bind h2 ?_
        simp only [if_true, if_neg r0]
        refine Ev.bind hy ?_
        rw [decide_eq_false r1]
        refine Ev.step (fun k => coppicerlaw_TallyWords.j0.eq_2 _ _ _ _ _ _ _ _ _ _ _ k) ?_
        simp only [Bool.false_eq_true, if_false]
        refine Ev.step (fun k => coppicerlaw_TallyWords.j1.eq_2 _ _ _ _ _ _ _ _ _ _ k) ?_
        have hwc := WordCheck_ev K u
        rw [wordCode_ok (by omega) u2] at hwc
        simp only [if_true, u1]
        refine Ev.bind hwc ?_
        simp only [if_true]
        refine Ev.bind (Takes_ev A K next st f (by omega) (by omega) hm u (by omega) u2 s0 s1) ?_
        simp only [u3, if_true]
        refine Ev.bind (rplace_ev A K next st f (by omega) (by omega) K0 K1 hm (by omega) u (by omega) u2 s0 s1) ?_
        rw [u4]
        simp only [beq_self_eq_true]; exact Ev.now _
  · refine Ev.bind (Ev.bind h1 (r := (([] : List Int), tallyC (machCode N K next st f) n)) ?_) ?_
    · simp only [if_neg c]; exact Ev.now _
    refine Ev.bind h2 ?_
    simp only [if_neg c]
    refine Ev.step (fun k => coppicerlaw_TallyWords.j0.eq_2 _ _ _ _ _ _ _ _ _ _ _ k) ?_
    simp only [Bool.false_eq_true, if_false]; exact j1w _ c

end Go.Proofs.Ytidjihmlkaeemaa.Pure
