/- The law TallyPumps as a statement over numbers and lists alone: it holds under the bounds that the statement names. -/
import Derived.Test.YtejmnldedkllnaaStatTallyPumps
set_option linter.unusedVariables false
set_option linter.unusedSimpArgs false
set_option linter.unusedSectionVars false
namespace Go.Proofs.Ytejmnldedkllnaa.Pure
open Go.RowKit Go.Proofs.Ytejmnldedkllnaa.PTallyPumps Go.Proofs.YtejmnldedkllnaaW.PrintWords Go.Proofs.YtejmnldedkllnaaW.PrintLast Go.Proofs.YtejmnldedkllnaaW.PrintMore

/-! ### base: words for every pure text -/
theorem w64 {x : Int} (h0 : -9223372036854775808 ≤ x) (h1 : x ≤ 9223372036854775807) : wrap64 x = x := by unfold wrap64; omega
theorem Ev.pos {α : Type} {c : Prop} [Decidable c] {g f : Nat → Option α} {r : α} (h : c) (e : Ev g r) : Ev (fun k => if c then g k else f k) r := Ev.congr (fun k => by rw [if_pos h]) e
theorem Ev.neg {α : Type} {c : Prop} [Decidable c] {g f : Nat → Option α} {r : α} (h : ¬ c) (e : Ev f r) : Ev (fun k => if c then g k else f k) r := Ev.congr (fun k => by rw [if_neg h]) e
theorem Ev.val {α : Type} {r q : α} (h : r = q) : Ev (fun _ => some r) q := by subst h; exact Ev.now r
theorem rd_getElem {l : List Int} {i : Int} (h1 : i.toNat < l.length) : rd l i = l[i.toNat] := by simp [rd, List.getD_eq_getElem?_getD, List.getElem?_eq_getElem h1]
theorem drop_rd {l : List Int} {i : Int} (h0 : 0 ≤ i) (h1 : i < l.length) : l.drop i.toNat = rd l i :: l.drop (i + 1).toNat := by
  have h : i.toNat < l.length := by omega
  rw [rd_getElem h, List.drop_eq_getElem_cons h]; congr 2; omega
theorem take_rd {l : List Int} {i : Int} (h0 : 0 ≤ i) (h1 : i < l.length) : l.take (i + 1).toNat = l.take i.toNat ++ [rd l i] := by
  have h : i.toNat < l.length := by omega
  have e : (i + 1).toNat = i.toNat + 1 := by omega
  rw [rd_getElem h, e, List.take_succ_eq_append_getElem h]
theorem rd_drop (l : List Int) (n : Nat) (i : Int) (h0 : 0 ≤ i) : rd (l.drop n) i = rd l (i + n) := by
  have e : (i + n).toNat = n + i.toNat := by omega
  simp only [rd, List.getD_eq_getElem?_getD, List.getElem?_drop, e]
theorem rd_take (l : List Int) (n : Nat) (i : Int) (h0 : 0 ≤ i) (h1 : i < n) : rd (l.take n) i = rd l i := by
  simp only [rd, List.getD_eq_getElem?_getD]; rw [List.getElem?_take_of_lt (by omega)]
theorem drop_all {α : Type} (l : List α) (n : Nat) (h : l.length ≤ n) : l.drop n = [] := List.drop_eq_nil_of_le h
theorem dec_ne {a b : Int} {l m : List Int} (h : a ≠ b) : decide (a :: l = b :: m) = false := decide_eq_false (fun q => h (List.cons.inj q).1)
theorem Ev.no {p : Prop} [Decidable p] (h : ¬ p) : Ev (fun _ => some false) (decide p) := Ev.val (decide_eq_false h).symm
theorem Ev.yes {p : Prop} [Decidable p] (h : p) : Ev (fun _ => some true) (decide p) := Ev.val (decide_eq_true h).symm
theorem ext_rd {a b : List Int} (hl : a.length = b.length) (h : ∀ i : Int, 0 ≤ i → i < a.length → rd a i = rd b i) : a = b := by
  apply List.ext_getElem hl
  intro i h1 h2
  have := h i (by omega) (by omega)
  rwa [rd_getElem (by simpa using h1), rd_getElem (by simpa using h2)] at this
theorem wf_u8 {x : Int} (h : (Lit.int .u8 x).wf = true) : 0 ≤ x ∧ x ≤ 255 := by simpa [Lit.wf, IntKind.min, IntKind.max, IntKind.signed, IntKind.bits] using h
theorem wf_u32 {x : Int} (h : (Lit.int .u32 x).wf = true) : 0 ≤ x ∧ x ≤ 4294967295 := by simpa [Lit.wf, IntKind.min, IntKind.max, IntKind.signed, IntKind.bits] using h
theorem wf_i64 {x : Int} (h : (Lit.int .i64 x).wf = true) : -9223372036854775808 ≤ x ∧ x ≤ 9223372036854775807 := by simpa [Lit.wf, IntKind.min, IntKind.max, IntKind.signed, IntKind.bits] using h
theorem rd_mem {l : List Int} {i : Int} (h0 : 0 ≤ i) (h1 : i < l.length) : rd l i ∈ l := by
  rw [rd_getElem (by omega)]; exact List.getElem_mem _
theorem rd_u8 {l : List Int} (hw : ∀ x ∈ l, (Lit.int .u8 x).wf = true) {i : Int} (h0 : 0 ≤ i) (h1 : i < l.length) : 0 ≤ rd l i ∧ rd l i ≤ 255 := wf_u8 (hw _ (rd_mem h0 h1))
theorem tm {a b : Int} (h : 0 ≤ a) : Int.tmod a b = a % b := Int.tmod_eq_emod_of_nonneg h
theorem td {a b : Int} (h : 0 ≤ a) : Int.tdiv a b = a / b := Int.tdiv_eq_ediv_of_nonneg h

/-! ### words of 32 bits as natural numbers -/
theorem u32_id {x : Int} (h0 : 0 ≤ x) (h1 : x ≤ 4294967295) : IntKind.u32.wrap x = x := by rw [IntKind.wrap_u32]; omega
theorem u64_id {x : Int} (h0 : 0 ≤ x) (h1 : x ≤ 18446744073709551615) : IntKind.u64.wrap x = x := by simp [IntKind.wrap, IntKind.bits, IntKind.signed]; omega
theorem u32_or (a b : Nat) (ha : a < 2 ^ 32) (hb : b < 2 ^ 32) : Go.bits .or .u32 a b = ((a ||| b : Nat) : Int) :=
  (bits_nat .u32 32 (by decide) (fun n h0 h1 => u32_id h0 (by omega)) a b ha hb).2
theorem u32_and (a b : Nat) (ha : a < 2 ^ 32) (hb : b < 2 ^ 32) : Go.bits .and .u32 a b = ((a &&& b : Nat) : Int) :=
  (bits_nat .u32 32 (by decide) (fun n h0 h1 => u32_id h0 (by omega)) a b ha hb).1
theorem shl1 (n : Nat) (h : n < 32) : shl .u32 1 (n : Int) = ((2 ^ n : Nat) : Int) := by
  unfold shl
  have e : min ((n : Int)).toNat IntKind.u32.bits = n := by simp [IntKind.bits]; omega
  have h2 : 2 ^ n ≤ 2 ^ 31 := Nat.pow_le_pow_right (by omega) (by omega)
  rw [e, Int.one_mul, u32_id (by exact_mod_cast Nat.zero_le _) (by have : ((2 ^ n : Nat) : Int) ≤ 2 ^ 31 := by exact_mod_cast h2
                                                                   have e2 : ((2 : Int) ^ n) = ((2 ^ n : Nat) : Int) := by simp
                                                                   omega)]
  simp
theorem shrn (a n : Nat) (h : n < 32) : shr .u32 (a : Int) (n : Int) = ((a / 2 ^ n : Nat) : Int) := by
  unfold shr
  have e : min ((n : Int)).toNat IntKind.u32.bits = n := by simp [IntKind.bits]; omega
  rw [e]; simp

/-! ### sets of small numbers: bits of a natural number -/
theorem bit_shr (a i : Nat) (ha : a < 2 ^ 32) (hi : i < 32) : (Go.bits .and .u32 (shr .u32 (a : Int) (i : Int)) 1 = 1) ↔ a.testBit i = true := by
  rw [shrn a i hi]
  have h1 : a / 2 ^ i < 2 ^ 32 := Nat.lt_of_le_of_lt (Nat.div_le_self _ _) ha
  have h2 := u32_and (a / 2 ^ i) 1 h1 (by decide)
  have h3 : ((1 : Nat) : Int) = 1 := rfl
  rw [h3] at h2
  rw [h2, Nat.and_one_is_mod, Nat.testBit_eq_decide_div_mod_eq]
  simp only [decide_eq_true_eq]; omega
theorem bit_and (a i : Nat) (ha : a < 2 ^ 32) (hi : i < 32) : (Go.bits .and .u32 (a : Int) (shl .u32 1 (i : Int)) != 0) = a.testBit i := by
  have h0 : 2 ^ i < 2 ^ 32 := Nat.pow_lt_pow_right (by omega) hi
  rw [shl1 i hi, u32_and a (2 ^ i) ha h0]
  cases h : a.testBit i with
  | true =>
    have : a &&& 2 ^ i ≠ 0 := fun e => by
      have q := congrArg (fun x => Nat.testBit x i) e
      simp [Nat.testBit_and, Nat.testBit_two_pow_self, h] at q
    simp; omega
  | false =>
    have : a &&& 2 ^ i = 0 := by
      apply Nat.eq_of_testBit_eq
      intro j
      by_cases e : i = j
      · subst e; simp [Nat.testBit_and, h]
      · simp [Nat.testBit_and, Nat.testBit_two_pow, e]
    rw [this]; rfl
theorem bit_or (a i : Nat) (ha : a < 2 ^ 32) (hi : i < 32) : Go.bits .or .u32 (a : Int) (shl .u32 1 (i : Int)) = ((a ||| 2 ^ i : Nat) : Int) := by
  have h0 : 2 ^ i < 2 ^ 32 := Nat.pow_lt_pow_right (by omega) hi
  rw [shl1 i hi, u32_or a (2 ^ i) ha h0]
def cnt : Nat → Nat → Nat
  | 0, _ => 0
  | n + 1, s => cnt n s + (s.testBit n).toNat
theorem cnt_le : ∀ n s, cnt n s ≤ n
  | 0, _ => Nat.le_refl _
  | n + 1, s => by
    have := cnt_le n s
    unfold cnt
    cases s.testBit n <;> simp <;> omega
theorem cnt_mono (s t : Nat) (h : ∀ i, s.testBit i = true → t.testBit i = true) : ∀ n, cnt n s ≤ cnt n t
  | 0 => Nat.le_refl _
  | n + 1 => by
    have := cnt_mono s t h n
    have h1 := h n
    unfold cnt
    cases q : s.testBit n
    · simp; omega
    · rw [h1 q]; simp; omega
theorem cnt_lt (s t : Nat) (h : ∀ i, s.testBit i = true → t.testBit i = true) (i : Nat) (hs : s.testBit i = false) (ht : t.testBit i = true) : ∀ n, i < n → cnt n s < cnt n t
  | 0, hi => by omega
  | n + 1, hi => by
    have h1 := h n
    have h2 := cnt_mono s t h n
    unfold cnt
    by_cases e : i = n
    · subst e; rw [hs, ht]; simp; omega
    · have := cnt_lt s t h i hs ht n (by omega)
      cases q : s.testBit n
      · simp; omega
      · rw [h1 q]; simp; omega
theorem bits_ne {s t n : Nat} (hs : s < 2 ^ n) (ht : t < 2 ^ n) (h : ∀ i, s.testBit i = true → t.testBit i = true) (hne : t ≠ s) : ∃ i, i < n ∧ s.testBit i = false ∧ t.testBit i = true := by
  rcases Classical.em (∃ i, i < n ∧ s.testBit i = false ∧ t.testBit i = true) with q | q
  · exact q
  · exfalso; apply hne
    apply Nat.eq_of_testBit_eq
    intro i
    by_cases hi : i < n
    · cases e : s.testBit i with
      | true => exact h i e
      | false =>
        cases e2 : t.testBit i with
        | false => rfl
        | true => exact absurd ⟨i, hi, e, e2⟩ q
    · have h2 : 2 ^ n ≤ 2 ^ i := Nat.pow_le_pow_right (by omega) (by omega)
      rw [Nat.testBit_lt_two_pow (Nat.lt_of_lt_of_le hs h2), Nat.testBit_lt_two_pow (Nat.lt_of_lt_of_le ht h2)]
/-! a step that only adds, again and again -/
def rep (P : Nat → Nat) : Nat → Nat → Nat
  | 0, s => s
  | n + 1, s => rep P n (P s)
theorem rep_fix (P : Nat → Nat) (s : Nat) (h : P s = s) : ∀ n, rep P n s = s
  | 0 => rfl
  | n + 1 => by unfold rep; rw [h]; exact rep_fix P s h n
theorem rep_succ (P : Nat → Nat) : ∀ n s, rep P (n + 1) s = P (rep P n s)
  | 0, _ => rfl
  | n + 1, s => by
    show rep P (n + 1) (P s) = P (rep P n (P s))
    exact rep_succ P n (P s)
theorem rep_lt (P : Nat → Nat) (b : Nat) (h : ∀ s, s < b → P s < b) : ∀ n s, s < b → rep P n s < b
  | 0, _, hs => hs
  | n + 1, s, hs => rep_lt P b h n (P s) (h s hs)

/-! ### rows of rows -/
theorem drop_rdL {l : List (List Int)} {i : Int} (h0 : 0 ≤ i) (h1 : i < l.length) : l.drop i.toNat = rd_L1 l i :: l.drop (i + 1).toNat := by
  have h : i.toNat < l.length := by omega
  have e : rd_L1 l i = l[i.toNat] := by simp [rd_L1, List.getD_eq_getElem?_getD, List.getElem?_eq_getElem h]
  rw [e, List.drop_eq_getElem_cons h]; congr 2; omega
theorem rdL_mem {l : List (List Int)} {i : Int} (h0 : 0 ≤ i) (h1 : i < l.length) : rd_L1 l i ∈ l := by
  have h : i.toNat < l.length := by omega
  have e : rd_L1 l i = l[i.toNat] := by simp [rd_L1, List.getD_eq_getElem?_getD, List.getElem?_eq_getElem h]
  rw [e]; exact List.getElem_mem _

/-! ### loops, round by round -/
theorem anyO_some {α : Type} (p : α → Bool) : ∀ l : List α, anyO (fun x => some (p x)) l = some (l.any p)
  | [] => rfl
  | x :: l => by
    unfold anyO
    rw [Option.bind_some, anyO_some p l, List.any_cons]
    cases p x <;> simp
theorem anyO_of {α : Type} {f : α → Option Bool} {p : α → Bool} {l : List α} (h : ∀ x ∈ l, f x = some (p x)) : anyO f l = some (l.any p) := by
  induction l with
  | nil => rfl
  | cons x l ih =>
    unfold anyO
    rw [h x (by simp), Option.bind_some, ih (fun y hy => h y (by simp [hy])), List.any_cons]
    cases p x <;> simp
theorem Ev.loop {σ ρ : Type} {L : Nat → Int → σ → Option ρ} {n : Int} {r : ρ} (I : Int → σ → Prop)
    (hend : ∀ s, I n s → Ev (fun k => L k n s) r)
    (hstep : ∀ i s, 0 ≤ i → i < n → I i s → Ev (fun k => L k i s) r ∨ ∃ s', I (i + 1) s' ∧ (Ev (fun k => L k (i + 1) s') r → Ev (fun k => L k i s) r)) :
    ∀ (i : Int) (s : σ), 0 ≤ i → i ≤ n → I i s → Ev (fun k => L k i s) r := by
  have key : ∀ (d : Nat) (i : Int) (s : σ), 0 ≤ i → i + d = n → I i s → Ev (fun k => L k i s) r := by
    intro d
    induction d with
    | zero => intro i s h0 h1 hI; obtain rfl : i = n := by omega
              exact hend s hI
    | succ d ih =>
      intro i s h0 h1 hI
      rcases hstep i s h0 (by omega) hI with h | ⟨s', h', h⟩
      · exact h
      · exact h (ih (i + 1) s' (by omega) (by omega) h')
  intro i s h0 h1 hI
  exact key (n - i).toNat i s h0 (by omega) hI
/-- The first element that is bad ends a loop. -/
theorem Ev.firstBad {α ρ : Type} {L : Nat → Int → Option ρ} {l : List α} {rdf : Int → α} {bad : α → Bool} {c fin : ρ}
    (hrd : ∀ i : Int, 0 ≤ i → i < l.length → l.drop i.toNat = rdf i :: l.drop (i + 1).toNat)
    (hend : l.any bad = false → Ev (fun k => L k l.length) fin)
    (hbad : ∀ i : Int, 0 ≤ i → i < l.length → bad (rdf i) = true → Ev (fun k => L k i) c)
    (hgood : ∀ (i : Int) (r : ρ), 0 ≤ i → i < l.length → bad (rdf i) = false → Ev (fun k => L k (i + 1)) r → Ev (fun k => L k i) r) :
    Ev (fun k => L k 0) (if l.any bad = true then c else fin) := by
  refine Ev.loop (σ := Unit) (L := fun k i _ => L k i) (n := l.length) (fun i _ => l.any bad = (l.drop i.toNat).any bad) ?_ ?_ 0 () (Int.le_refl _) (by omega) rfl
  · intro _ h
    rw [Int.toNat_natCast, List.drop_length] at h
    have h : l.any bad = false := h
    rw [h]; exact hend h
  · intro i _ h0 h1 h
    rw [hrd i h0 h1, List.any_cons] at h
    cases hb : bad (rdf i) with
    | true => left; rw [h, hb]; exact hbad i h0 h1 hb
    | false => right; refine ⟨(), by rw [h, hb]; rfl, hgood i _ h0 h1 hb⟩
theorem rd_cons {l : List Int} {i : Int} (h0 : 0 ≤ i) (h1 : i < l.length) : l.drop i.toNat = rd l i :: l.drop (i + 1).toNat := drop_rd h0 h1

/-! ### slices.Concat -/
theorem Concat_l1 (l : List (List Int)) (hl : l.length ≤ 4611686018427387904) (R : List Int) (hR : R.length < 17592186044416) (d : Nat) : ∀ (i : Int) (acc : List Int), 0 ≤ i → i + d = l.length → acc ++ (l.drop i.toNat).flatten = R →
    Ev (fun k => slices_Concat_Sint_int.l1 k acc l (l.length : Int) i) R := by
  induction d with
  | zero =>
    intro i acc h0 hd h
    refine Ev.step (fun k => slices_Concat_Sint_int.l1.eq_2 _ _ _ _ k) ?_
    simp (disch := omega) only [if_neg]
    rw [List.drop_eq_nil_of_le (by omega)] at h
    exact Ev.val (by simpa using h)
  | succ d ih =>
    intro i acc h0 hd h
    refine Ev.step (fun k => slices_Concat_Sint_int.l1.eq_2 _ _ _ _ k) ?_
    rw [drop_rdL h0 (by omega), List.flatten_cons, ← List.append_assoc] at h
    have hlen : acc.length + (rd_L1 l i).length ≤ R.length := by
      rw [← h]; simp only [List.length_append]; omega
    simp (disch := omega) only [if_pos, w64]
    exact ih (i + 1) _ (by omega) (by omega) h
theorem Concat_l0 (l : List (List Int)) (hl : l.length ≤ 4611686018427387904) (hR : l.flatten.length < 17592186044416) (d : Nat) : ∀ (i s : Int), 0 ≤ i → i + d = l.length → 0 ≤ s → s + (l.drop i.toNat).flatten.length = l.flatten.length →
    Ev (fun k => slices_Concat_Sint_int.l0 k l s l (l.length : Int) i) l.flatten := by
  induction d with
  | zero =>
    intro i s h0 hd hs h
    refine Ev.step (fun k => slices_Concat_Sint_int.l0.eq_2 _ _ _ _ _ k) ?_
    rw [List.drop_eq_nil_of_le (by omega)] at h
    simp only [List.flatten_nil, List.length_nil] at h
    simp (disch := omega) only [if_neg, slices_Grow_Sint_int.f, if_pos, Option.bind_some]
    exact Concat_l1 l hl _ hR l.length 0 [] (by omega) (by omega) (by simp)
  | succ d ih =>
    intro i s h0 hd hs h
    refine Ev.step (fun k => slices_Concat_Sint_int.l0.eq_2 _ _ _ _ _ k) ?_
    rw [drop_rdL h0 (by omega), List.flatten_cons, List.length_append] at h
    simp (disch := omega) only [if_pos, if_neg, w64]
    exact ih (i + 1) _ (by omega) (by omega) (by omega) (by omega)
theorem Concat_ev (l : List (List Int)) (hl : l.length ≤ 4611686018427387904) (hR : l.flatten.length < 17592186044416) : Ev (fun k => slices_Concat_Sint_int.f k l) l.flatten := by
  unfold slices_Concat_Sint_int.f
  exact Concat_l0 l hl hR l.length 0 0 (by omega) (by omega) (by omega) (by simp)

/-! ### machine.Check and coppicerref.MachineCheck: one answer -/
abbrev bad (N x : Int) : Prop := x < 0 ∨ x ≥ N
def machCode (N K : Int) (next : List (List Int)) (st f : Int) : Int :=
  if N < 1 ∨ N > 7 ∨ K < 1 ∨ K > 3 then 1 else if (next.length : Int) ≠ N ∨ (next.any fun l => decide ((l.length : Int) ≠ K)) = true then 3
  else if (next.flatten.any fun x => decide (bad N x)) = true ∨ bad N st then 2 else if f ≥ 2 ^ N.toNat then 4 else 0
theorem flat_len (K : Int) (hK : 0 ≤ K) : ∀ l : List (List Int), (∀ x ∈ l, (x.length : Int) = K) → (l.flatten.length : Int) = l.length * K
  | [], _ => by simp
  | x :: l, h => by
    have := flat_len K hK l (fun y hy => h y (by simp [hy]))
    have hx := h x (by simp)
    rw [List.flatten_cons, List.length_append, List.length_cons]
    push_cast
    rw [this, hx, Int.add_mul]; omega
theorem check_l0 (N K : Int) (next : List (List Int)) (st f : Int) (hN0 : 1 ≤ N) (hN1 : N ≤ 7) (hf0 : 0 ≤ f) (all : List Int) (hl : all.length ≤ 4611686018427387904) (d : Nat) : ∀ i : Int, 0 ≤ i → i + d = all.length →
    Ev (fun k => machine_Check.l0 k all (all.length : Int) i N K next st f) (if ((all.drop i.toNat).any fun x => decide (bad N x)) = true then 2 else if f ≥ 2 ^ N.toNat then 4 else 0) := by
  induction d with
  | zero =>
    intro i h0 hd
    refine Ev.step (fun k => machine_Check.l0.eq_2 _ _ _ _ _ _ _ _ k) ?_
    obtain ⟨a, rfl⟩ := Int.eq_ofNat_of_zero_le hf0
    obtain ⟨n, rfl⟩ := Int.eq_ofNat_of_zero_le (show 0 ≤ N by omega)
    have e : ((2 : Int) ^ n) = ((2 ^ n : Nat) : Int) := by simp
    simp (disch := omega) only [if_neg (show ¬ i < (all.length : Int) by omega), if_pos (show 0 ≤ (n : Int) by omega), shrn a n (by omega)]
    rw [List.drop_eq_nil_of_le (by omega), Int.toNat_natCast, e]
    have key : a / 2 ^ n = 0 ↔ a < 2 ^ n := by
      rw [Nat.div_eq_zero_iff]
      have := Nat.two_pow_pos n
      omega
    by_cases q : a < 2 ^ n
    · have q' : ((a / 2 ^ n : Nat) : Int) = 0 := by have := key.2 q; omega
      simp only [if_pos q']; exact Ev.val (by rw [if_neg (by simp), if_neg (by omega)])
    · have q' : ¬ ((a / 2 ^ n : Nat) : Int) = 0 := by have := mt key.1 q; omega
      simp only [if_neg q']; exact Ev.val (by rw [if_neg (by simp), if_pos (by omega)])
  | succ d ih =>
    intro i h0 hd
    refine Ev.step (fun k => machine_Check.l0.eq_2 _ _ _ _ _ _ _ _ k) ?_
    rw [drop_rd h0 (by omega)]
    simp (disch := omega) only [if_pos (show i < (all.length : Int) by omega), if_pos h0, w64]
    by_cases a : rd all i < 0
    · simp only [if_pos a]; exact Ev.val (by rw [if_pos (by simp [a])])
    · by_cases b : rd all i ≥ N
      · simp only [if_neg a, if_pos b]; exact Ev.val (by rw [if_pos (by simp [b])])
      · simp only [if_neg a, if_neg b]
        have := ih (i + 1) (by omega) (by omega)
        simpa [a, b] using this
theorem mchk1 (N K : Int) (next l : List (List Int)) (st f : Int) : machine_Check_1_any.f l N K next st f = some (l.any fun l => decide ((l.length : Int) ≠ K)) := by
  unfold machine_Check_1_any.f
  exact anyO_of (fun x _ => by unfold machine_Check_1.f; congr 1; by_cases h : (x.length : Int) = K <;> simp [h])
theorem machCheck_ev (N K : Int) (next : List (List Int)) (st f : Int) (hf0 : 0 ≤ f) : Ev (fun k => machine_Check.f k N K next st f) (machCode N K next st f) := by
  unfold machine_Check.f
  have wrong : (N < 1 ∨ N > 7 ∨ K < 1 ∨ K > 3) → Ev (fun k => machine_Check.j0 k true N K next st f) (machCode N K next st f) := by
    intro h
    unfold machCode; rw [if_pos h]
    refine Ev.step (fun k => machine_Check.j0.eq_2 _ _ _ _ _ _ k) ?_
    simp only [if_true]; exact Ev.now _
  by_cases c1 : N < 1
  · simp only [if_pos c1]; exact wrong (by omega)
  by_cases c2 : N > 7
  · simp only [if_neg c1, if_pos c2]; exact wrong (by omega)
  by_cases c3 : K < 1
  · simp only [if_neg c1, if_neg c2, if_pos c3]; exact wrong (by omega)
  simp only [if_neg c1, if_neg c2, if_neg c3]
  by_cases c4 : K > 3
  · simp only [c4, decide_true]; exact wrong (by omega)
  · simp only [c4, decide_false]
    unfold machCode; rw [if_neg (by omega)]
    refine Ev.step (fun k => machine_Check.j0.eq_2 _ _ _ _ _ _ k) ?_
    simp only [Bool.false_eq_true, if_false]
    by_cases c5 : (next.length : Int) = N
    · simp only [if_pos c5, mchk1, Option.bind_some]
      refine Ev.step (fun k => machine_Check.j1.eq_2 _ _ _ _ _ _ k) ?_
      by_cases c6 : (next.any fun l => decide ((l.length : Int) ≠ K)) = true
      · simp only [if_pos c6]; exact Ev.val (by rw [if_pos (.inr c6)])
      · simp only [if_neg c6]
        have hrows : ∀ x ∈ next, (x.length : Int) = K := by
          intro x hx
          simp only [List.any_eq_true, not_exists, not_and, decide_eq_true_eq, Classical.not_not] at c6
          exact c6 x hx
        have hfl := flat_len K (by omega) next hrows
        have h21 : next.flatten.length ≤ 21 := by
          have : (next.length : Int) * K ≤ 7 * 3 := Int.mul_le_mul (by omega) (by omega) (by omega) (by omega)
          omega
        refine Ev.bind (Concat_ev next (by omega) (by omega)) ?_
        have hlim : next.flatten.length + ([st] : List Int).length < 17592186044416 := by simp only [List.length_singleton]; omega
        simp only [Option.bind_some, if_pos hlim]
        have := check_l0 N K next st f (by omega) (by omega) hf0 (next.flatten ++ [st]) (by simp only [List.length_append, List.length_singleton]; omega) (next.flatten ++ [st]).length 0 (by omega) (by omega)
        rw [Int.toNat_zero, List.drop_zero] at this
        refine Ev.congr (fun _ => rfl) ?_
        have e : ((next.flatten ++ [st]).any fun x => decide (bad N x)) = true ↔ ((next.flatten.any fun x => decide (bad N x)) = true ∨ bad N st) := by simp [List.any_append]
        rw [if_neg (fun h => h.elim (fun a => a c5) c6)]
        simp only [e] at this
        exact this
    · simp only [if_neg c5]
      refine Ev.step (fun k => machine_Check.j1.eq_2 _ _ _ _ _ _ k) ?_
      simp only [if_true]
      exact Ev.val (by rw [if_pos (.inl c5)])
/-! the document's -/
theorem rmach_j4 (N K : Int) (next : List (List Int)) (st f : Int) (hN0 : 1 ≤ N) (hN1 : N ≤ 7) (b : Bool) : Ev (fun k => coppicerref_MachineCheck.j4 k b N K next st f) (if b = true then 2 else if f ≥ 2 ^ N.toNat then 4 else 0) := by
  refine Ev.step (fun k => coppicerref_MachineCheck.j4.eq_2 _ _ _ _ _ _ k) ?_
  cases b with
  | true => simp only [if_true]; exact Ev.now _
  | false =>
    obtain ⟨n, rfl⟩ := Int.eq_ofNat_of_zero_le (show 0 ≤ N by omega)
    have e : ((2 : Int) ^ n) = ((2 ^ n : Nat) : Int) := by simp
    simp (disch := omega) only [Bool.false_eq_true, if_false, u64_id, if_pos (show 0 ≤ (n : Int) by omega), shl1 n (by omega), Int.toNat_natCast, e]
    by_cases q : f ≥ ((2 ^ n : Nat) : Int)
    · simp only [if_pos q]; exact Ev.now _
    · simp only [if_neg q]; exact Ev.now _
theorem rmach_l2 (N K : Int) (next : List (List Int)) (st f : Int) (R : Int) (all : List (List Int)) (n j : Int) (row : List Int) (hl : row.length ≤ 60) (hbad : (row.any fun x => decide (bad N x)) = true → R = 2) (hok : ¬ (row.any fun x => decide (bad N x)) = true → Ev (fun k => coppicerref_MachineCheck.l1 k all n (wrap64 (j + 1)) N K next st f) R) (d : Nat) : ∀ i : Int, 0 ≤ i → i + d = row.length → ((row.any fun x => decide (bad N x)) = true ↔ ((row.drop i.toNat).any fun x => decide (bad N x)) = true) →
    Ev (fun k => coppicerref_MachineCheck.l2 k all n j row (row.length : Int) i N K next st f) R := by
  induction d with
  | zero =>
    intro i h0 hd he
    refine Ev.step (fun k => coppicerref_MachineCheck.l2.eq_2 _ _ _ _ _ _ _ _ _ _ _ k) ?_
    simp (disch := omega) only [if_neg (show ¬ i < (row.length : Int) by omega)]
    rw [drop_all row _ (by omega)] at he
    exact hok (fun h => by simpa using he.1 h)
  | succ d ih =>
    intro i h0 hd he
    refine Ev.step (fun k => coppicerref_MachineCheck.l2.eq_2 _ _ _ _ _ _ _ _ _ _ _ k) ?_
    rw [drop_rd h0 (by omega)] at he
    simp (disch := omega) only [if_pos (show i < (row.length : Int) by omega), if_pos h0, w64]
    by_cases a : rd row i < 0
    · simp only [if_pos a]; exact Ev.val (hbad (he.2 (by simp [a]))).symm
    · by_cases b : rd row i ≥ N
      · simp only [if_neg a, if_pos b]; exact Ev.val (hbad (he.2 (by simp [b]))).symm
      · simp only [if_neg a, if_neg b]
        exact ih (i + 1) (by omega) (by omega) (by rw [he]; simp [a, b])
theorem rmach_l1 (N K : Int) (next : List (List Int)) (st f : Int) (hN0 : 1 ≤ N) (hN1 : N ≤ 7) (all : List (List Int)) (ha : all.length ≤ 60) (hrow : ∀ x ∈ all, x.length ≤ 60) (d : Nat) : ∀ i : Int, 0 ≤ i → i + d = all.length →
    Ev (fun k => coppicerref_MachineCheck.l1 k all (all.length : Int) i N K next st f) (if ((all.drop i.toNat).flatten.any fun x => decide (bad N x)) = true ∨ bad N st then 2 else if f ≥ 2 ^ N.toNat then 4 else 0) := by
  induction d with
  | zero =>
    intro i h0 hd
    refine Ev.step (fun k => coppicerref_MachineCheck.l1.eq_2 _ _ _ _ _ _ _ _ k) ?_
    simp (disch := omega) only [if_neg (show ¬ i < (all.length : Int) by omega)]
    rw [List.drop_eq_nil_of_le (by omega)]
    by_cases a : st < 0
    · simp only [if_pos a]
      have := rmach_j4 N K next st f hN0 hN1 true
      rw [if_pos rfl] at this
      rw [if_pos (.inr (.inl a))]; exact this
    · simp only [if_neg a]
      have := rmach_j4 N K next st f hN0 hN1 (decide (st ≥ N))
      by_cases b : st ≥ N
      · rw [if_pos (decide_eq_true b)] at this
        rw [if_pos (.inr (.inr b))]; exact this
      · rw [if_neg (by simpa using b)] at this
        rw [if_neg (by simp [bad]; omega)]; exact this
  | succ d ih =>
    intro i h0 hd
    refine Ev.step (fun k => coppicerref_MachineCheck.l1.eq_2 _ _ _ _ _ _ _ _ k) ?_
    rw [drop_rdL h0 (by omega), List.flatten_cons]
    simp (disch := omega) only [if_pos (show i < (all.length : Int) by omega), if_pos h0]
    refine rmach_l2 N K next st f _ all _ i _ (hrow _ (rdL_mem h0 (by omega))) ?_ ?_ (rd_L1 all i).length 0 (by omega) (by omega) (by simp)
    · intro h
      rw [if_pos (.inl (by rw [List.any_append, h]; rfl))]
    · intro h
      have h' : ((rd_L1 all i).any fun x => decide (bad N x)) = false := by simpa using h
      rw [List.any_append, h', Bool.false_or, w64 (by omega) (by omega)]
      exact ih (i + 1) (by omega) (by omega)
theorem rmach_l0 (N K : Int) (st f : Int) (hN0 : 1 ≤ N) (hN1 : N ≤ 7) (hK : 1 ≤ K ∧ K ≤ 3) (next : List (List Int)) (hn : next.length ≤ 60) (d : Nat) : ∀ i : Int, 0 ≤ i → i + d = next.length → (∀ x ∈ next, ((x.length : Int) = K ∨ x ∈ next.drop i.toNat)) →
    Ev (fun k => coppicerref_MachineCheck.l0 k next (next.length : Int) i N K next st f) (if ((next.drop i.toNat).any fun l => decide ((l.length : Int) ≠ K)) = true then 3 else if (next.flatten.any fun x => decide (bad N x)) = true ∨ bad N st then 2 else if f ≥ 2 ^ N.toNat then 4 else 0) := by
  induction d with
  | zero =>
    intro i h0 hd hr
    refine Ev.step (fun k => coppicerref_MachineCheck.l0.eq_2 _ _ _ _ _ _ _ _ k) ?_
    simp (disch := omega) only [if_neg (show ¬ i < (next.length : Int) by omega)]
    rw [List.drop_eq_nil_of_le (by omega)] at hr ⊢
    rw [if_neg (by simp)]
    have := rmach_l1 N K next st f hN0 hN1 next hn (fun x hx => by
      rcases hr x hx with q | q
      · omega
      · simp at q) next.length 0 (by omega) (by omega)
    simpa using this
  | succ d ih =>
    intro i h0 hd hr
    refine Ev.step (fun k => coppicerref_MachineCheck.l0.eq_2 _ _ _ _ _ _ _ _ k) ?_
    rw [drop_rdL h0 (by omega)] at hr ⊢
    simp (disch := omega) only [if_pos (show i < (next.length : Int) by omega), if_pos h0, w64]
    by_cases c : ((rd_L1 next i).length : Int) = K
    · simp only [if_pos c]
      have := ih (i + 1) (by omega) (by omega) (fun x hx => by
        rcases hr x hx with q | q
        · exact .inl q
        · rcases List.mem_cons.1 q with q | q
          · rw [q]; exact .inl c
          · exact .inr q)
      rw [List.any_cons, show decide (((rd_L1 next i).length : Int) ≠ K) = false from by simp [c], Bool.false_or]
      exact this
    · simp only [if_neg c]
      exact Ev.val (by rw [if_pos (by simp [c])])
theorem rmach_ev (N K : Int) (next : List (List Int)) (st f : Int) : Ev (fun k => coppicerref_MachineCheck.f k N K next st f) (machCode N K next st f) := by
  unfold coppicerref_MachineCheck.f
  have wrong : (N < 1 ∨ N > 7 ∨ K < 1 ∨ K > 3) → Ev (fun k => coppicerref_MachineCheck.j0 k true N K next st f) (machCode N K next st f) := by
    intro h
    unfold machCode; rw [if_pos h]
    refine Ev.step (fun k => coppicerref_MachineCheck.j0.eq_2 _ _ _ _ _ _ k) ?_
    simp only [if_true]; exact Ev.now _
  by_cases c1 : N < 1
  · simp only [if_pos c1]; exact wrong (by omega)
  by_cases c2 : N > 7
  · simp only [if_neg c1, if_pos c2]; exact wrong (by omega)
  by_cases c3 : K < 1
  · simp only [if_neg c1, if_neg c2, if_pos c3]; exact wrong (by omega)
  simp only [if_neg c1, if_neg c2, if_neg c3]
  by_cases c4 : K > 3
  · simp only [c4, decide_true]; exact wrong (by omega)
  · simp only [c4, decide_false]
    unfold machCode; rw [if_neg (by omega)]
    refine Ev.step (fun k => coppicerref_MachineCheck.j0.eq_2 _ _ _ _ _ _ k) ?_
    simp only [Bool.false_eq_true, if_false]
    by_cases c5 : (next.length : Int) = N
    · simp only [if_pos c5]
      have := rmach_l0 N K st f (by omega) (by omega) ⟨by omega, by omega⟩ next (by omega) next.length 0 (by omega) (by omega) (fun x hx => .inr (by simpa using hx))
      rw [Int.toNat_zero, List.drop_zero] at this
      by_cases c6 : (next.any fun l => decide ((l.length : Int) ≠ K)) = true
      · rw [if_pos c6] at this
        rw [if_pos (.inr c6)]; exact this
      · rw [if_neg c6] at this
        rw [if_neg (fun h => h.elim (fun a => a c5) c6)]; exact this
    · simp only [if_neg c5]
      exact Ev.val (by rw [if_pos (.inl c5)])

/-! ### words: machine.Words and coppicerref.WordCheck -/
def wordCode (K : Int) (w : List Int) : Int := if (w.length : Int) > 12 then 1 else if (w.any fun s => decide (s < 0) || decide (s ≥ K)) = true then 2 else 0
theorem Words_eq (K : Int) (w : List Int) : machine_Words.f K w = some (wordCode K w) := by
  unfold machine_Words.f wordCode
  have e : machine_Words_1_any.f w K = some (w.any fun s => decide (s < 0) || decide (s ≥ K)) := by
    unfold machine_Words_1_any.f
    refine anyO_of (fun x _ => ?_)
    unfold machine_Words_1.f
    by_cases h : x < 0
    · rw [if_pos h]; simp [h]
    · rw [if_neg h]; simp [h]
  by_cases c : (w.length : Int) > 12
  · simp only [if_pos c]
  · simp only [if_neg c, e, Option.bind_some]
    cases w.any fun s => decide (s < 0) || decide (s ≥ K) <;> simp
theorem WordCheck_l0 (K : Int) (w : List Int) (hl : w.length ≤ 12) (d : Nat) : ∀ i : Int, 0 ≤ i → i + d = w.length →
    Ev (fun k => coppicerref_WordCheck.l0 k K w (w.length : Int) i) (if ((w.drop i.toNat).any fun s => decide (s < 0) || decide (s ≥ K)) = true then 2 else 0) := by
  induction d with
  | zero =>
    intro i h0 hd
    refine Ev.step (fun k => coppicerref_WordCheck.l0.eq_2 _ _ _ _ k) ?_
    simp (disch := omega) only [if_neg (show ¬ i < (w.length : Int) by omega)]
    rw [List.drop_eq_nil_of_le (by omega)]; exact Ev.now _
  | succ d ih =>
    intro i h0 hd
    refine Ev.step (fun k => coppicerref_WordCheck.l0.eq_2 _ _ _ _ k) ?_
    rw [drop_rd h0 (by omega)]
    simp (disch := omega) only [if_pos (show i < (w.length : Int) by omega), if_pos h0, w64]
    by_cases a : rd w i < 0
    · simp only [if_pos a]; exact Ev.val (by simp [a])
    · by_cases b : rd w i ≥ K
      · simp only [if_neg a, if_pos b]; exact Ev.val (by simp [b])
      · simp only [if_neg a, if_neg b]
        have := ih (i + 1) (by omega) (by omega)
        simpa [a, b] using this
theorem WordCheck_ev (K : Int) (w : List Int) : Ev (fun k => coppicerref_WordCheck.f k K w) (wordCode K w) := by
  unfold coppicerref_WordCheck.f wordCode
  by_cases c : (w.length : Int) > 12
  · simp only [if_pos c]; exact Ev.now _
  · simp only [if_neg c]
    simpa using WordCheck_l0 K w (by omega) w.length 0 (by omega) (by omega)
theorem wordCode_0 {K : Int} {w : List Int} (h : wordCode K w = 0) : w.length ≤ 12 ∧ ∀ s ∈ w, 0 ≤ s ∧ s < K := by
  unfold wordCode at h
  by_cases c : (w.length : Int) > 12
  · rw [if_pos c] at h; omega
  · rw [if_neg c] at h
    refine ⟨by omega, ?_⟩
    by_cases e : (w.any fun s => decide (s < 0) || decide (s ≥ K)) = true
    · rw [if_pos e] at h; omega
    · intro s hs
      simp only [List.any_eq_true, not_exists, not_and, Bool.or_eq_true, decide_eq_true_eq, not_or] at e
      have := e s hs
      omega

/-! ### a machine that may be, and its runs -/
def okMach (N K : Int) (next : List (List Int)) : Prop := (next.length : Int) = N ∧ ∀ row ∈ next, (row.length : Int) = K ∧ ∀ x ∈ row, 0 ≤ x ∧ x < N
theorem machCode_0 {N K : Int} {next : List (List Int)} {st f : Int} (h : machCode N K next st f = 0) : 1 ≤ N ∧ N ≤ 7 ∧ 1 ≤ K ∧ K ≤ 3 ∧ okMach N K next ∧ 0 ≤ st ∧ st < N ∧ f < 2 ^ N.toNat := by
  unfold machCode at h
  by_cases c : N < 1 ∨ N > 7 ∨ K < 1 ∨ K > 3
  · rw [if_pos c] at h; omega
  rw [if_neg c] at h
  by_cases c2 : (next.length : Int) ≠ N ∨ (next.any fun l => decide ((l.length : Int) ≠ K)) = true
  · rw [if_pos c2] at h; omega
  rw [if_neg c2] at h
  by_cases c3 : (next.flatten.any fun x => decide (bad N x)) = true ∨ bad N st
  · rw [if_pos c3] at h; omega
  rw [if_neg c3] at h
  by_cases c4 : f ≥ 2 ^ N.toNat
  · rw [if_pos c4] at h; omega
  simp only [not_or, Classical.not_not, List.any_eq_true, not_exists, not_and, decide_eq_true_eq] at c2 c3
  refine ⟨by omega, by omega, by omega, by omega, ⟨c2.1, fun row hr => ⟨c2.2 row hr, fun x hx => ?_⟩⟩, ?_, ?_, by omega⟩
  · have := c3.1 x (List.mem_flatten.2 ⟨row, hr, hx⟩)
    omega
  · have := c3.2; omega
  · have := c3.2; omega
def mto (next : List (List Int)) (s c : Int) : Int := rd (rd_L1 next s) c
def mrun (next : List (List Int)) : Int → List Int → Int
  | s, [] => s
  | s, c :: w => mrun next (mto next s c) w
theorem okMach.row {N K : Int} {next : List (List Int)} (h : okMach N K next) {s : Int} (h0 : 0 ≤ s) (h1 : s < N) : ((rd_L1 next s).length : Int) = K ∧ s < next.length := by
  have hl : s < next.length := by have := h.1; omega
  exact ⟨(h.2 _ (rdL_mem h0 hl)).1, hl⟩
theorem okMach.to {N K : Int} {next : List (List Int)} (h : okMach N K next) {s c : Int} (h0 : 0 ≤ s) (h1 : s < N) (c0 : 0 ≤ c) (c1 : c < K) : 0 ≤ mto next s c ∧ mto next s c < N := by
  have hl : s < next.length := by have := h.1; omega
  have hr := h.2 _ (rdL_mem h0 hl)
  exact hr.2 _ (rd_mem c0 (by omega))
theorem okMach.run {N K : Int} {next : List (List Int)} (h : okMach N K next) : ∀ (w : List Int) (s : Int), 0 ≤ s → s < N → (∀ c ∈ w, 0 ≤ c ∧ c < K) → 0 ≤ mrun next s w ∧ mrun next s w < N
  | [], s, h0, h1, _ => ⟨h0, h1⟩
  | c :: w, s, h0, h1, hw => by
    have hc := hw c (by simp)
    have := h.to h0 h1 hc.1 hc.2
    exact h.run w _ this.1 this.2 (fun x hx => hw x (by simp [hx]))

/-! ### runs of a machine -/
theorem bit_shr' (a i : Nat) (ha : a < 2 ^ 32) (hi : i < 32) : (Go.bits .and .u32 (shr .u32 (a : Int) (i : Int)) 1 == 1) = a.testBit i := by
  have := bit_shr a i ha hi
  cases h : a.testBit i with
  | true => rw [this.2 h]; rfl
  | false =>
    have : ¬ Go.bits .and .u32 (shr .u32 (a : Int) (i : Int)) 1 = 1 := fun e => by rw [this.1 e] at h; cases h
    simpa using this
theorem machRun_l0 (N K : Int) (next : List (List Int)) (st : Int) (f : Nat) (hN : N ≤ 7) (hf : f < 2 ^ 32) (ho : okMach N K next) (w : List Int) (hw : w.length ≤ 12) (hk : ∀ c ∈ w, 0 ≤ c ∧ c < K) (d : Nat) : ∀ (i s : Int), 0 ≤ i → i + d = w.length → 0 ≤ s → s < N →
    Ev (fun k => machine_Run.l0 k s w (w.length : Int) i N K next st (f : Int)) (mrun next s (w.drop i.toNat), f.testBit (mrun next s (w.drop i.toNat)).toNat, 0) := by
  induction d with
  | zero =>
    intro i s h0 hd s0 s1
    refine Ev.step (fun k => machine_Run.l0.eq_2 _ _ _ _ _ _ _ _ _ k) ?_
    rw [List.drop_eq_nil_of_le (by omega)]
    obtain ⟨n, rfl⟩ := Int.eq_ofNat_of_zero_le s0
    simp (disch := omega) only [if_neg (show ¬ i < (w.length : Int) by omega), if_pos s0, bit_shr' f n hf (by omega)]
    exact Ev.now _
  | succ d ih =>
    intro i s h0 hd s0 s1
    refine Ev.step (fun k => machine_Run.l0.eq_2 _ _ _ _ _ _ _ _ _ k) ?_
    have hc := hk _ (rd_mem h0 (show i < w.length by omega))
    have hr := ho.row s0 s1
    have ht := ho.to s0 s1 hc.1 hc.2
    rw [drop_rd h0 (by omega)]
    simp (disch := omega) only [if_pos, w64]
    exact ih (i + 1) _ (by omega) (by omega) ht.1 ht.2
theorem machRun_ev (N K : Int) (next : List (List Int)) (st f : Int) (w : List Int) (hf0 : 0 ≤ f) (hf1 : f ≤ 4294967295) :
    Ev (fun k => machine_Run.f k N K next st f w) (if machCode N K next st f = 0 then (if wordCode K w = 0 then (mrun next st w, f.toNat.testBit (mrun next st w).toNat, 0) else (0, false, wordCode K w)) else (0, false, machCode N K next st f)) := by
  unfold machine_Run.f
  refine Ev.bind (machCheck_ev N K next st f hf0) ?_
  by_cases c : machCode N K next st f = 0
  · simp only [c, if_true, Words_eq, Option.bind_some]
    by_cases cw : wordCode K w = 0
    · simp only [cw, if_true]
      obtain ⟨n0, n1, k0, k1, ho, s0, s1, _⟩ := machCode_0 c
      have wl := wordCode_0 cw
      obtain ⟨g, rfl⟩ := Int.eq_ofNat_of_zero_le hf0
      have := machRun_l0 N K next st g n1 (by omega) ho w wl.1 wl.2 w.length 0 st (by omega) (by omega) s0 s1
      simpa using this
    · simp only [if_neg cw]; exact Ev.now _
  · simp only [if_neg c]; exact Ev.now _
/-! the document's -/
theorem Leads_l0 (N K : Int) (next : List (List Int)) (st f : Int) (ho : okMach N K next) (w : List Int) (hw : w.length ≤ 12) (hk : ∀ c ∈ w, 0 ≤ c ∧ c < K) (d : Nat) : ∀ (i s : Int), 0 ≤ i → i + d = w.length → 0 ≤ s → s < N →
    Ev (fun k => coppicerref_Leads.l0 k s w (w.length : Int) i N K next st f) (mrun next s (w.drop i.toNat)) := by
  induction d with
  | zero =>
    intro i s h0 hd s0 s1
    refine Ev.step (fun k => coppicerref_Leads.l0.eq_2 _ _ _ _ _ _ _ _ _ k) ?_
    rw [List.drop_eq_nil_of_le (by omega)]
    simp (disch := omega) only [if_neg (show ¬ i < (w.length : Int) by omega)]
    exact Ev.now _
  | succ d ih =>
    intro i s h0 hd s0 s1
    refine Ev.step (fun k => coppicerref_Leads.l0.eq_2 _ _ _ _ _ _ _ _ _ k) ?_
    have hc := hk _ (rd_mem h0 (show i < w.length by omega))
    have hr := ho.row s0 s1
    have ht := ho.to s0 s1 hc.1 hc.2
    rw [drop_rd h0 (by omega)]
    simp (disch := omega) only [if_pos, w64]
    exact ih (i + 1) _ (by omega) (by omega) ht.1 ht.2
theorem Leads_ev (N K : Int) (next : List (List Int)) (st f : Int) (ho : okMach N K next) (w : List Int) (hw : w.length ≤ 12) (hk : ∀ c ∈ w, 0 ≤ c ∧ c < K) (s : Int) (s0 : 0 ≤ s) (s1 : s < N) : Ev (fun k => coppicerref_Leads.f k N K next st f s w) (mrun next s w) := by
  unfold coppicerref_Leads.f
  simpa using Leads_l0 N K next st f ho w hw hk w.length 0 s (by omega) (by omega) s0 s1

/-! ### the first state that comes again -/
theorem mrun_snoc (next : List (List Int)) (c : Int) : ∀ (w : List Int) (s : Int), mrun next s (w ++ [c]) = mto next (mrun next s w) c
  | [], s => rfl
  | a :: w, s => mrun_snoc next c w (mto next s a)
def lastEq (s : Nat → Int) (x : Int) : Nat → Option Nat
  | 0 => none
  | n + 1 => if s n = x then some n else lastEq s x n
def hist (s : Nat → Int) : Nat → List (Int × Int)
  | 0 => []
  | n + 1 => (s n, (n : Int)) :: hist s n
theorem hist_len (s : Nat → Int) : ∀ n, (hist s n).length = n
  | 0 => rfl
  | n + 1 => by simp [hist, hist_len s n]
theorem lk_hist (s : Nat → Int) (x : Int) : ∀ n, lkI (hist s n) x = (lastEq s x n).map fun i : Nat => (i : Int)
  | 0 => rfl
  | n + 1 => by
    unfold hist lkI lastEq
    by_cases c : s n = x
    · rw [if_pos c, if_pos c]; rfl
    · rw [if_neg c, if_neg c]; exact lk_hist s x n
def pmp (s : Nat → Int) : Nat → Nat → Option (Nat × Nat)
  | _, 0 => none
  | j, d + 1 => match lastEq s (s j) j with
    | some i => some (i, j)
    | none => pmp s (j + 1) d
def pmpT : Option (Nat × Nat) → Int × Int × Int
  | some (i, j) => ((i : Int), (j : Int), 0)
  | none => (0, 0, 5)
def pmpR : Option (Nat × Nat) → Int × Int × Bool
  | some (i, j) => ((i : Int), (j : Int), true)
  | none => (0, 0, false)
theorem tpump_l0 (N K : Int) (next : List (List Int)) (st f : Int) (hN : N ≤ 7) (ho : okMach N K next) (w : List Int) (hw : w.length ≤ 12) (hk : ∀ c ∈ w, 0 ≤ c ∧ c < K) (s0 : 0 ≤ st) (s1 : st < N) (s : Nat → Int) (hs : ∀ n, s n = mrun next st (w.take n)) (d : Nat) : ∀ q : Nat, q + d = w.length →
    Ev (fun k => tally_Pump.l0 k (s q) (q : Int) (hist s (q + 1)) w N K next st f) (pmpT (pmp s (q + 1) d)) := by
  induction d with
  | zero =>
    intro q hq
    refine Ev.step (fun k => tally_Pump.l0.eq_2 _ _ _ _ _ _ _ _ _ k) ?_
    simp only [if_neg (show ¬ (q : Int) < (w.length : Int) by omega)]
    exact Ev.now _
  | succ d ih =>
    intro q hq
    refine Ev.step (fun k => tally_Pump.l0.eq_2 _ _ _ _ _ _ _ _ _ k) ?_
    have hc := hk _ (rd_mem (show (0 : Int) ≤ q by omega) (show (q : Int) < w.length by omega))
    have hq0 := ho.run (w.take q) st s0 s1 (fun c hc => hk c (List.mem_of_mem_take hc))
    rw [← hs q] at hq0
    have hr := ho.row hq0.1 hq0.2
    have ht := ho.to hq0.1 hq0.2 hc.1 hc.2
    have e1 : rd (rd_L1 next (s q)) (rd w q) = s (q + 1) := by
      have := take_rd (show (0 : Int) ≤ q by omega) (show (q : Int) < w.length by omega)
      rw [show ((q : Int) + 1).toNat = q + 1 by omega, Int.toNat_natCast] at this
      rw [hs (q + 1), this, mrun_snoc, ← hs q]; rfl
    have ht' : 0 ≤ s (q + 1) ∧ s (q + 1) < N := by rw [← e1]; exact ht
    have hwf : (Lit.int .i64 (s (q + 1))).wf = true := by
      simp only [Lit.wf, IntKind.min, IntKind.max, IntKind.signed, IntKind.bits]
      simp
      omega
    have hlen : (hist s (q + 1)).length < 1000000 := by rw [hist_len]; omega
    simp (disch := omega) only [if_pos (show (q : Int) < (w.length : Int) by omega), if_pos (show (0 : Int) ≤ q by omega), if_pos hq0.1, if_pos hr.2, if_pos hc.1, if_pos (show rd w q < ((rd_L1 next (s q)).length : Int) by omega), e1, if_pos hwf, lk_hist, if_pos hlen, w64]
    unfold pmp
    cases hl : lastEq s (s (q + 1)) (q + 1) with
    | some i =>
      simp only [Option.map_some, Option.isSome_some, if_true, Option.getD_some]
      exact Ev.val (by simp [pmpT])
    | none =>
      simp only [Option.map_none, Option.isSome_none, Bool.false_eq_true, if_false]
      have := ih (q + 1) (by omega)
      exact Ev.congr (fun k => by rw [show ((q + 1 : Nat) : Int) = (q : Int) + 1 by omega]; rfl) this
theorem rpump_l1 (N K : Int) (next : List (List Int)) (st f : Int) (ho : okMach N K next) (w : List Int) (hw : w.length ≤ 12) (hk : ∀ c ∈ w, 0 ≤ c ∧ c < K) (s0 : 0 ≤ st) (s1 : st < N) (s : Nat → Int) (hs : ∀ n, s n = mrun next st (w.take n)) (j : Nat) (hj : j ≤ w.length) (R : Int × Int × Bool) :
    ∀ m : Nat, m ≤ j → (∀ i, lastEq s (s j) m = some i → R = ((i : Int), (j : Int), true)) → (lastEq s (s j) m = none → Ev (fun k => coppicerref_Pump.l0 k w (wrap64 ((j : Int) + 1)) N K next st f) R) →
    Ev (fun k => coppicerref_Pump.l1 k w (j : Int) ((m : Int) - 1) N K next st f) R
  | 0, _, _, h2 => by
    refine Ev.step (fun k => coppicerref_Pump.l1.eq_2 _ _ _ _ _ _ _ _ k) ?_
    simp only [if_neg (show ¬ ((0 : Nat) : Int) - 1 ≥ 0 by omega)]
    exact h2 rfl
  | m + 1, hm, h1, h2 => by
    refine Ev.step (fun k => coppicerref_Pump.l1.eq_2 _ _ _ _ _ _ _ _ k) ?_
    have em : ((m + 1 : Nat) : Int) - 1 = (m : Int) := by omega
    have l1 := Leads_ev N K next st f ho (w.take m) (by rw [List.length_take]; omega) (fun c hc => hk c (List.mem_of_mem_take hc)) st s0 s1
    have l2 := Leads_ev N K next st f ho (w.take j) (by rw [List.length_take]; omega) (fun c hc => hk c (List.mem_of_mem_take hc)) st s0 s1
    rw [← hs m] at l1
    rw [← hs j] at l2
    simp (disch := omega) only [em, if_pos (show (m : Int) ≥ 0 by omega), if_pos (show (0 : Int) ≤ m by omega), if_pos (show (m : Int) ≤ (w.length : Int) by omega), if_pos (show (0 : Int) ≤ j by omega), if_pos (show (j : Int) ≤ (w.length : Int) by omega), Int.toNat_natCast, w64]
    refine Ev.bind l1 (Ev.bind l2 ?_)
    unfold lastEq at h1 h2
    by_cases c : s m = s j
    · rw [if_pos c] at h1
      rw [h1 m rfl]
      simp only [if_pos c]; exact Ev.now _
    · rw [if_neg c] at h1 h2
      simp only [if_neg c]
      exact rpump_l1 N K next st f ho w hw hk s0 s1 s hs j hj R m (by omega) h1 h2
theorem rpump_l0 (N K : Int) (next : List (List Int)) (st f : Int) (ho : okMach N K next) (w : List Int) (hw : w.length ≤ 12) (hk : ∀ c ∈ w, 0 ≤ c ∧ c < K) (s0 : 0 ≤ st) (s1 : st < N) (s : Nat → Int) (hs : ∀ n, s n = mrun next st (w.take n)) (d : Nat) : ∀ j : Nat, j + d = w.length + 1 →
    Ev (fun k => coppicerref_Pump.l0 k w (j : Int) N K next st f) (pmpR (pmp s j d)) := by
  induction d with
  | zero =>
    intro j hj
    refine Ev.step (fun k => coppicerref_Pump.l0.eq_2 _ _ _ _ _ _ _ k) ?_
    simp only [if_neg (show ¬ (j : Int) ≤ (w.length : Int) by omega)]
    exact Ev.now _
  | succ d ih =>
    intro j hj
    refine Ev.step (fun k => coppicerref_Pump.l0.eq_2 _ _ _ _ _ _ _ k) ?_
    simp (disch := omega) only [if_pos (show (j : Int) ≤ (w.length : Int) by omega), w64]
    refine rpump_l1 N K next st f ho w hw hk s0 s1 s hs j (by omega) _ j (Nat.le_refl _) (fun i hi => ?_) (fun hn => ?_)
    · unfold pmp; rw [hi]; rfl
    · unfold pmp; rw [hn]
      have := ih (j + 1) (by omega)
      exact Ev.congr (fun k => by rw [w64 (by omega) (by omega), show ((j + 1 : Nat) : Int) = (j : Int) + 1 by omega]) this
def wordC (mc wc : Int) : Int := if mc = 0 then wc else mc
theorem TallyPumps : coppicerlaw_TallyPumps.Pure := by
  unfold coppicerlaw_TallyPumps.Pure
  intro N K next st f w _ _ _ _ hf _ _
  have hf := wf_u32 hf
  apply Ev.rounds
  unfold coppicerlaw_TallyPumps.f tally_Pump.f
  have h1 := machRun_ev N K next st f w hf.1 hf.2
  have h2 : Ev (fun k => coppicerlaw_wordCode.f k N K next st f w) (wordC (machCode N K next st f) (wordCode K w)) := by
    unfold coppicerlaw_wordCode.f
    refine Ev.bind (rmach_ev N K next st f) ?_
    unfold wordC
    by_cases c : machCode N K next st f = 0
    · simp only [if_pos c]
      refine Ev.bind (WordCheck_ev K w) ?_
      exact Ev.now _
    · simp only [if_neg c]; exact Ev.now _
  by_cases c : machCode N K next st f = 0
  · by_cases cw : wordCode K w = 0
    · obtain ⟨N0, N1, K0, K1, hm, s0, s1, _⟩ := machCode_0 c
      have wl := wordCode_0 cw
      rw [if_pos c, if_pos cw] at h1
      unfold wordC at h2
      rw [if_pos c, cw] at h2
      have hs : ∀ n, (fun n => mrun next st (w.take n)) n = mrun next st (w.take n) := fun _ => rfl
      have t1 := tpump_l0 N K next st f N1 hm w wl.1 wl.2 s0 s1 _ hs w.length 0 (by omega)
      have t2 := rpump_l0 N K next st f hm w wl.1 wl.2 s0 s1 _ hs w.length 1 (by omega)
      have hwf : (Lit.int .i64 st).wf = true := by
        simp only [Lit.wf, IntKind.min, IntKind.max, IntKind.signed, IntKind.bits]
        simp
        omega
      refine Ev.bind (Ev.bind h1 (r := pmpT (pmp (fun n => mrun next st (w.take n)) 1 w.length)) ?_) ?_
      · simp only [if_true, if_pos hwf]
        exact t1
      refine Ev.bind h2 ?_
      simp only [if_true]
      have t3 : Ev (fun k => coppicerref_Pump.f k N K next st f w) (pmpR (pmp (fun n => mrun next st (w.take n)) 1 w.length)) := by unfold coppicerref_Pump.f; exact t2
      refine Ev.bind t3 ?_
      cases pmp (fun n => mrun next st (w.take n)) 1 w.length with
      | none => simp only [pmpT, pmpR, Bool.false_eq_true, if_false, if_true, beq_self_eq_true]; exact Ev.now _
      | some p =>
        obtain ⟨i, j⟩ := p
        simp only [pmpT, pmpR, if_true, beq_self_eq_true]; exact Ev.now _
    · rw [if_pos c, if_neg cw] at h1
      unfold wordC at h2
      rw [if_pos c] at h2
      refine Ev.bind (Ev.bind h1 (r := ((0 : Int), (0 : Int), wordCode K w)) ?_) ?_
      · simp only [if_neg cw]; exact Ev.now _
      refine Ev.bind h2 ?_
      simp only [if_neg cw, if_true, beq_self_eq_true]; exact Ev.now _
  · rw [if_neg c] at h1
    unfold wordC at h2
    rw [if_neg c] at h2
    refine Ev.bind (Ev.bind h1 (r := ((0 : Int), (0 : Int), machCode N K next st f)) ?_) ?_
    · simp only [if_neg c]; exact Ev.now _
    refine Ev.bind h2 ?_
    simp only [if_neg c, if_true, beq_self_eq_true]; exact Ev.now _

end Go.Proofs.Ytejmnldedkllnaa.Pure
