/- The law NetSures as a statement over numbers and lists alone: it holds under the bounds that the statement names. -/
import Derived.Test.YtidjihmlkaeemaaStatNetSures
set_option linter.unusedVariables false
set_option linter.unusedSimpArgs false
set_option linter.unusedSectionVars false
namespace Go.Proofs.Ytidjihmlkaeemaa.Pure
open Go.RowKit Go.Proofs.Ytidjihmlkaeemaa.PNetSures Go.Proofs.YtidjihmlkaeemaaW.PrintWords Go.Proofs.YtidjihmlkaeemaaW.PrintLast Go.Proofs.YtidjihmlkaeemaaW.PrintMore

/-! ### base: words for every pure text -/
theorem w64 {x : Int} (h0 : -9223372036854775808 ≤ x) (h1 : x ≤ 9223372036854775807) : wrap64 x = x := by unfold wrap64; omega
theorem Ev.pos {α : Type} {c : Prop} [Decidable c] {g f : Nat → Option α} {r : α} (h : c) (e : Ev g r) : Ev (fun k => if c then g k else f k) r := Ev.congr (fun k => by rw [if_pos h]) e
theorem Ev.neg {α : Type} {c : Prop} [Decidable c] {g f : Nat → Option α} {r : α} (h : ¬ c) (e : Ev f r) : Ev (fun k => if c then g k else f k) r := Ev.congr (fun k => by rw [if_neg h]) e
theorem Ev.val {α : Type} {r q : α} (h : r = q) : Ev (fun _ => some r) q := by subst h; exact Ev.now r
theorem rd_getElem {l : List Int} {i : Int} (h1 : i.toNat < l.length) : rd l i = l[i.toNat] := by simp [rd, List.getD_eq_getElem?_getD, List.getElem?_eq_getElem h1]
theorem drop_rd {l : List Int} {i : Int} (h0 : 0 ≤ i) (h1 : i < l.length) : l.drop i.toNat = rd l i :: l.drop (i + 1).toNat := by
  have h : i.toNat < l.length := by omega
  rw [rd_getElem h, List.drop_eq_getElem_cons h]; congr 2; omega
theorem take_rd {l : List Int} {i : Int} (h0 : 0 ≤ i) (h1 : i < l.length) : l.take (i + 1).toNat = l.take i.toNat ++ [rd l i] := by
  have h : i.toNat < l.length := by omega
  have e : (i + 1).toNat = i.toNat + 1 := by omega
  rw [rd_getElem h, e, List.take_succ_eq_append_getElem h]
theorem rd_drop (l : List Int) (n : Nat) (i : Int) (h0 : 0 ≤ i) : rd (l.drop n) i = rd l (i + n) := by
  have e : (i + n).toNat = n + i.toNat := by omega
  simp only [rd, List.getD_eq_getElem?_getD, List.getElem?_drop, e]
theorem rd_take (l : List Int) (n : Nat) (i : Int) (h0 : 0 ≤ i) (h1 : i < n) : rd (l.take n) i = rd l i := by
  simp only [rd, List.getD_eq_getElem?_getD]; rw [List.getElem?_take_of_lt (by omega)]
theorem drop_all {α : Type} (l : List α) (n : Nat) (h : l.length ≤ n) : l.drop n = [] := List.drop_eq_nil_of_le h
theorem dec_ne {a b : Int} {l m : List Int} (h : a ≠ b) : decide (a :: l = b :: m) = false := decide_eq_false (fun q => h (List.cons.inj q).1)
theorem Ev.no {p : Prop} [Decidable p] (h : ¬ p) : Ev (fun _ => some false) (decide p) := Ev.val (decide_eq_false h).symm
theorem Ev.yes {p : Prop} [Decidable p] (h : p) : Ev (fun _ => some true) (decide p) := Ev.val (decide_eq_true h).symm
theorem ext_rd {a b : List Int} (hl : a.length = b.length) (h : ∀ i : Int, 0 ≤ i → i < a.length → rd a i = rd b i) : a = b := by
  apply List.ext_getElem hl
  intro i h1 h2
  have := h i (by omega) (by omega)
  rwa [rd_getElem (by simpa using h1), rd_getElem (by simpa using h2)] at this
theorem wf_u8 {x : Int} (h : (Lit.int .u8 x).wf = true) : 0 ≤ x ∧ x ≤ 255 := by simpa [Lit.wf, IntKind.min, IntKind.max, IntKind.signed, IntKind.bits] using h
theorem wf_u32 {x : Int} (h : (Lit.int .u32 x).wf = true) : 0 ≤ x ∧ x ≤ 4294967295 := by simpa [Lit.wf, IntKind.min, IntKind.max, IntKind.signed, IntKind.bits] using h
theorem wf_i64 {x : Int} (h : (Lit.int .i64 x).wf = true) : -9223372036854775808 ≤ x ∧ x ≤ 9223372036854775807 := by simpa [Lit.wf, IntKind.min, IntKind.max, IntKind.signed, IntKind.bits] using h
theorem rd_mem {l : List Int} {i : Int} (h0 : 0 ≤ i) (h1 : i < l.length) : rd l i ∈ l := by
  rw [rd_getElem (by omega)]; exact List.getElem_mem _
theorem rd_u8 {l : List Int} (hw : ∀ x ∈ l, (Lit.int .u8 x).wf = true) {i : Int} (h0 : 0 ≤ i) (h1 : i < l.length) : 0 ≤ rd l i ∧ rd l i ≤ 255 := wf_u8 (hw _ (rd_mem h0 h1))
theorem tm {a b : Int} (h : 0 ≤ a) : Int.tmod a b = a % b := Int.tmod_eq_emod_of_nonneg h
theorem td {a b : Int} (h : 0 ≤ a) : Int.tdiv a b = a / b := Int.tdiv_eq_ediv_of_nonneg h

/-! ### rows of rows -/
theorem drop_rdL {l : List (List Int)} {i : Int} (h0 : 0 ≤ i) (h1 : i < l.length) : l.drop i.toNat = rd_L3 l i :: l.drop (i + 1).toNat := by
  have h : i.toNat < l.length := by omega
  have e : rd_L3 l i = l[i.toNat] := by simp [rd_L3, List.getD_eq_getElem?_getD, List.getElem?_eq_getElem h]
  rw [e, List.drop_eq_getElem_cons h]; congr 2; omega
theorem rdL_mem {l : List (List Int)} {i : Int} (h0 : 0 ≤ i) (h1 : i < l.length) : rd_L3 l i ∈ l := by
  have h : i.toNat < l.length := by omega
  have e : rd_L3 l i = l[i.toNat] := by simp [rd_L3, List.getD_eq_getElem?_getD, List.getElem?_eq_getElem h]
  rw [e]; exact List.getElem_mem _

/-! ### words of 32 bits as natural numbers -/
theorem u32_id {x : Int} (h0 : 0 ≤ x) (h1 : x ≤ 4294967295) : IntKind.u32.wrap x = x := by rw [IntKind.wrap_u32]; omega
theorem u64_id {x : Int} (h0 : 0 ≤ x) (h1 : x ≤ 18446744073709551615) : IntKind.u64.wrap x = x := by simp [IntKind.wrap, IntKind.bits, IntKind.signed]; omega
theorem u32_or (a b : Nat) (ha : a < 2 ^ 32) (hb : b < 2 ^ 32) : Go.bits .or .u32 a b = ((a ||| b : Nat) : Int) :=
  (bits_nat .u32 32 (by decide) (fun n h0 h1 => u32_id h0 (by omega)) a b ha hb).2
theorem u32_and (a b : Nat) (ha : a < 2 ^ 32) (hb : b < 2 ^ 32) : Go.bits .and .u32 a b = ((a &&& b : Nat) : Int) :=
  (bits_nat .u32 32 (by decide) (fun n h0 h1 => u32_id h0 (by omega)) a b ha hb).1
theorem shl1 (n : Nat) (h : n < 32) : shl .u32 1 (n : Int) = ((2 ^ n : Nat) : Int) := by
  unfold shl
  have e : min ((n : Int)).toNat IntKind.u32.bits = n := by simp [IntKind.bits]; omega
  have h2 : 2 ^ n ≤ 2 ^ 31 := Nat.pow_le_pow_right (by omega) (by omega)
  rw [e, Int.one_mul, u32_id (by exact_mod_cast Nat.zero_le _) (by have : ((2 ^ n : Nat) : Int) ≤ 2 ^ 31 := by exact_mod_cast h2
                                                                   have e2 : ((2 : Int) ^ n) = ((2 ^ n : Nat) : Int) := by simp
                                                                   omega)]
  simp
theorem shrn (a n : Nat) (h : n < 32) : shr .u32 (a : Int) (n : Int) = ((a / 2 ^ n : Nat) : Int) := by
  unfold shr
  have e : min ((n : Int)).toNat IntKind.u32.bits = n := by simp [IntKind.bits]; omega
  rw [e]; simp

/-! ### sets of small numbers: bits of a natural number -/
theorem bit_shr (a i : Nat) (ha : a < 2 ^ 32) (hi : i < 32) : (Go.bits .and .u32 (shr .u32 (a : Int) (i : Int)) 1 = 1) ↔ a.testBit i = true := by
  rw [shrn a i hi]
  have h1 : a / 2 ^ i < 2 ^ 32 := Nat.lt_of_le_of_lt (Nat.div_le_self _ _) ha
  have h2 := u32_and (a / 2 ^ i) 1 h1 (by decide)
  have h3 : ((1 : Nat) : Int) = 1 := rfl
  rw [h3] at h2
  rw [h2, Nat.and_one_is_mod, Nat.testBit_eq_decide_div_mod_eq]
  simp only [decide_eq_true_eq]; omega
theorem bit_and (a i : Nat) (ha : a < 2 ^ 32) (hi : i < 32) : (Go.bits .and .u32 (a : Int) (shl .u32 1 (i : Int)) != 0) = a.testBit i := by
  have h0 : 2 ^ i < 2 ^ 32 := Nat.pow_lt_pow_right (by omega) hi
  rw [shl1 i hi, u32_and a (2 ^ i) ha h0]
  cases h : a.testBit i with
  | true =>
    have : a &&& 2 ^ i ≠ 0 := fun e => by
      have q := congrArg (fun x => Nat.testBit x i) e
      simp [Nat.testBit_and, Nat.testBit_two_pow_self, h] at q
    simp; omega
  | false =>
    have : a &&& 2 ^ i = 0 := by
      apply Nat.eq_of_testBit_eq
      intro j
      by_cases e : i = j
      · subst e; simp [Nat.testBit_and, h]
      · simp [Nat.testBit_and, Nat.testBit_two_pow, e]
    rw [this]; rfl
theorem bit_or (a i : Nat) (ha : a < 2 ^ 32) (hi : i < 32) : Go.bits .or .u32 (a : Int) (shl .u32 1 (i : Int)) = ((a ||| 2 ^ i : Nat) : Int) := by
  have h0 : 2 ^ i < 2 ^ 32 := Nat.pow_lt_pow_right (by omega) hi
  rw [shl1 i hi, u32_or a (2 ^ i) ha h0]
def cnt : Nat → Nat → Nat
  | 0, _ => 0
  | n + 1, s => cnt n s + (s.testBit n).toNat
theorem cnt_le : ∀ n s, cnt n s ≤ n
  | 0, _ => Nat.le_refl _
  | n + 1, s => by
    have := cnt_le n s
    unfold cnt
    cases s.testBit n <;> simp <;> omega
theorem cnt_mono (s t : Nat) (h : ∀ i, s.testBit i = true → t.testBit i = true) : ∀ n, cnt n s ≤ cnt n t
  | 0 => Nat.le_refl _
  | n + 1 => by
    have := cnt_mono s t h n
    have h1 := h n
    unfold cnt
    cases q : s.testBit n
    · simp; omega
    · rw [h1 q]; simp; omega
theorem cnt_lt (s t : Nat) (h : ∀ i, s.testBit i = true → t.testBit i = true) (i : Nat) (hs : s.testBit i = false) (ht : t.testBit i = true) : ∀ n, i < n → cnt n s < cnt n t
  | 0, hi => by omega
  | n + 1, hi => by
    have h1 := h n
    have h2 := cnt_mono s t h n
    unfold cnt
    by_cases e : i = n
    · subst e; rw [hs, ht]; simp; omega
    · have := cnt_lt s t h i hs ht n (by omega)
      cases q : s.testBit n
      · simp; omega
      · rw [h1 q]; simp; omega
theorem bits_ne {s t n : Nat} (hs : s < 2 ^ n) (ht : t < 2 ^ n) (h : ∀ i, s.testBit i = true → t.testBit i = true) (hne : t ≠ s) : ∃ i, i < n ∧ s.testBit i = false ∧ t.testBit i = true := by
  rcases Classical.em (∃ i, i < n ∧ s.testBit i = false ∧ t.testBit i = true) with q | q
  · exact q
  · exfalso; apply hne
    apply Nat.eq_of_testBit_eq
    intro i
    by_cases hi : i < n
    · cases e : s.testBit i with
      | true => exact h i e
      | false =>
        cases e2 : t.testBit i with
        | false => rfl
        | true => exact absurd ⟨i, hi, e, e2⟩ q
    · have h2 : 2 ^ n ≤ 2 ^ i := Nat.pow_le_pow_right (by omega) (by omega)
      rw [Nat.testBit_lt_two_pow (Nat.lt_of_lt_of_le hs h2), Nat.testBit_lt_two_pow (Nat.lt_of_lt_of_le ht h2)]
/-! a step that only adds, again and again -/
def rep (P : Nat → Nat) : Nat → Nat → Nat
  | 0, s => s
  | n + 1, s => rep P n (P s)
theorem rep_fix (P : Nat → Nat) (s : Nat) (h : P s = s) : ∀ n, rep P n s = s
  | 0 => rfl
  | n + 1 => by unfold rep; rw [h]; exact rep_fix P s h n
theorem rep_succ (P : Nat → Nat) : ∀ n s, rep P (n + 1) s = P (rep P n s)
  | 0, _ => rfl
  | n + 1, s => by
    show rep P (n + 1) (P s) = P (rep P n (P s))
    exact rep_succ P n (P s)
theorem rep_lt (P : Nat → Nat) (b : Nat) (h : ∀ s, s < b → P s < b) : ∀ n s, s < b → rep P n s < b
  | 0, _, hs => hs
  | n + 1, s, hs => rep_lt P b h n (P s) (h s hs)

/-! ### coppicerref_Ints -/
theorem Ints_l0 (a b : List Int) (hl : a.length = b.length) (hb : (a.length : Int) ≤ 4611686018427387904) (d : Nat) : ∀ i : Int, 0 ≤ i → i + d = a.length → Ev (fun k => coppicerref_Ints.l0 k a b i) (decide (a.drop i.toNat = b.drop i.toNat)) := by
  induction d with
  | zero =>
    intro i h0 hd
    refine Ev.step (fun k => coppicerref_Ints.l0.eq_2 _ _ _ k) ?_
    simp (disch := omega) only [if_pos, if_neg]
    exact Ev.val (by rw [List.drop_eq_nil_of_le (by omega), List.drop_eq_nil_of_le (by omega)]; simp)
  | succ d ih =>
    intro i h0 hd
    refine Ev.step (fun k => coppicerref_Ints.l0.eq_2 _ _ _ k) ?_
    simp (disch := omega) only [if_pos, w64]
    rw [drop_rd h0 (by omega), drop_rd (l := b) h0 (by omega)]
    by_cases h : rd a i = rd b i
    · simp only [if_pos h]
      exact Ev.congr (fun _ => rfl) (by simpa [h] using ih (i + 1) (by omega) (by omega))
    · simp only [if_neg h]
      exact Ev.val (by simp [h])
theorem Ints_ev (a b : List Int) (hb : (a.length : Int) ≤ 4611686018427387904) : Ev (fun k => coppicerref_Ints.f k a b) (decide (a = b)) := by
  unfold coppicerref_Ints.f
  by_cases hl : a.length = b.length
  · simp (disch := omega) only [if_pos]
    simpa using Ints_l0 a b hl hb a.length 0 (by omega) (by omega)
  · simp (disch := omega) only [if_neg]
    exact Ev.val (by simp; intro h; exact hl (by rw [h]))

/-! ### net_Check and coppicerref_NetCheck: one answer -/
def arcBad (N K : Int) (a : S31) : Prop := a.f0 < 0 ∨ a.f0 ≥ N ∨ a.f2 < 0 ∨ a.f2 ≥ N ∨ a.f1 < -1 ∨ a.f1 ≥ K
instance (N K : Int) (a : S31) : Decidable (arcBad N K a) := by unfold arcBad; infer_instance
def netCode (N K : Int) (arcs : List S31) (s f : Int) : Int :=
  if N < 1 ∨ N > 7 ∨ K < 1 ∨ K > 3 ∨ (arcs.length : Int) > 60 then 1 else if (arcs.any fun a => decide (arcBad N K a)) = true then 2 else if s ≥ 2 ^ N.toNat ∨ f ≥ 2 ^ N.toNat then 4 else 0
theorem rd_arc {l : List S31} {i : Int} (h0 : 0 ≤ i) (h1 : i < l.length) : l.drop i.toNat = rd_T31 l i :: l.drop (i + 1).toNat := by
  have h : i.toNat < l.length := by omega
  have e : rd_T31 l i = l[i.toNat] := by simp [rd_T31, List.getD_eq_getElem?_getD, List.getElem?_eq_getElem h]
  rw [e, List.drop_eq_getElem_cons h]; congr 2; omega
theorem net_end (N s f : Int) (h0 : 1 ≤ N) (h1 : N ≤ 7) (hs0 : 0 ≤ s) (hs1 : s ≤ 4294967295) (hf0 : 0 ≤ f) (hf1 : f ≤ 4294967295) : (shr .u32 (Go.bits .or .u32 s f) N) = 0 ↔ ¬ (s ≥ 2 ^ N.toNat ∨ f ≥ 2 ^ N.toNat) := by
  obtain ⟨a, rfl⟩ := Int.eq_ofNat_of_zero_le hs0
  obtain ⟨b, rfl⟩ := Int.eq_ofNat_of_zero_le hf0
  obtain ⟨n, rfl⟩ := Int.eq_ofNat_of_zero_le (show 0 ≤ N by omega)
  rw [u32_or a b (by omega) (by omega), shrn _ _ (by omega), Int.toNat_natCast]
  have e : ((2 : Int) ^ n) = ((2 ^ n : Nat) : Int) := by simp
  rw [e]
  have key : (a ||| b) / 2 ^ n = 0 ↔ a < 2 ^ n ∧ b < 2 ^ n := by
    rw [Nat.div_eq_zero_iff]
    constructor
    · rintro (h | h)
      · have := Nat.two_pow_pos n; omega
      · exact ⟨Nat.lt_of_le_of_lt Nat.left_le_or h, Nat.lt_of_le_of_lt Nat.right_le_or h⟩
    · rintro ⟨h, h'⟩; exact .inr (Nat.or_lt_two_pow h h')
  omega
theorem netCheck_l0 (N K : Int) (all : List S31) (s f : Int) (hN0 : 1 ≤ N) (hN1 : N ≤ 7) (hl : all.length ≤ 60) (hs0 : 0 ≤ s) (hs1 : s ≤ 4294967295) (hf0 : 0 ≤ f) (hf1 : f ≤ 4294967295) (d : Nat) : ∀ i : Int, 0 ≤ i → i + d = all.length →
    Ev (fun k => net_Check.l0 k all (all.length : Int) i N K all s f) (if ((all.drop i.toNat).any fun a => decide (arcBad N K a)) = true then 2 else if s ≥ 2 ^ N.toNat ∨ f ≥ 2 ^ N.toNat then 4 else 0) := by
  induction d with
  | zero =>
    intro i h0 hd
    refine Ev.step (fun k => net_Check.l0.eq_2 _ _ _ _ _ _ _ _ k) ?_
    simp (disch := omega) only [if_neg (show ¬ i < (all.length : Int) by omega), if_pos (show 0 ≤ N by omega)]
    rw [List.drop_eq_nil_of_le (by omega)]
    have e := net_end N s f hN0 hN1 hs0 hs1 hf0 hf1
    by_cases q : s ≥ 2 ^ N.toNat ∨ f ≥ 2 ^ N.toNat
    · simp only [if_neg (fun h => (e.1 h) q)]; exact Ev.val (by rw [if_neg (by simp), if_pos q])
    · simp only [if_pos (e.2 q)]; exact Ev.val (by rw [if_neg (by simp), if_neg q])
  | succ d ih =>
    intro i h0 hd
    refine Ev.step (fun k => net_Check.l0.eq_2 _ _ _ _ _ _ _ _ k) ?_
    rw [rd_arc h0 (by omega)]
    have m0 : mn (rd_T31 all i).f0 (rd_T31 all i).f2 < 0 ↔ (rd_T31 all i).f0 < 0 ∨ (rd_T31 all i).f2 < 0 := by unfold mn; split <;> omega
    have m1 : mx (rd_T31 all i).f0 (rd_T31 all i).f2 ≥ N ↔ (rd_T31 all i).f0 ≥ N ∨ (rd_T31 all i).f2 ≥ N := by unfold mx; split <;> omega
    simp (disch := omega) only [if_pos (show i < (all.length : Int) by omega), if_pos (show 0 ≤ i by omega), m0, m1, w64]
    by_cases hb : arcBad N K (rd_T31 all i)
    · have : Ev (fun _ => (some 2 : Option Int)) (if ((rd_T31 all i :: all.drop (i + 1).toNat).any fun a => decide (arcBad N K a)) = true then 2 else if s ≥ 2 ^ N.toNat ∨ f ≥ 2 ^ N.toNat then 4 else 0) := Ev.val (by rw [if_pos (by simp [hb])])
      by_cases b1 : (rd_T31 all i).f0 < 0 ∨ (rd_T31 all i).f2 < 0
      · simp only [if_pos b1]; exact this
      by_cases b2 : (rd_T31 all i).f0 ≥ N ∨ (rd_T31 all i).f2 ≥ N
      · simp only [if_neg b1, if_pos b2]; exact this
      by_cases b3 : (rd_T31 all i).f1 < -1
      · simp only [if_neg b1, if_neg b2, if_pos b3]; exact this
      · have b4 : (rd_T31 all i).f1 ≥ K := by unfold arcBad at hb; omega
        simp only [if_neg b1, if_neg b2, if_neg b3, if_pos b4]; exact this
    · have b : ¬ ((rd_T31 all i).f0 < 0 ∨ (rd_T31 all i).f2 < 0) ∧ ¬ ((rd_T31 all i).f0 ≥ N ∨ (rd_T31 all i).f2 ≥ N) ∧ ¬ (rd_T31 all i).f1 < -1 ∧ ¬ (rd_T31 all i).f1 ≥ K := by unfold arcBad at hb; omega
      simp only [if_neg b.1, if_neg b.2.1, if_neg b.2.2.1, if_neg b.2.2.2]
      have := ih (i + 1) (by omega) (by omega)
      simpa [hb] using this
theorem netRef_l0 (N K : Int) (all : List S31) (s f : Int) (hN0 : 1 ≤ N) (hN1 : N ≤ 7) (hl : all.length ≤ 60) (d : Nat) : ∀ i : Int, 0 ≤ i → i + d = all.length →
    Ev (fun k => coppicerref_NetCheck.l0 k all (all.length : Int) i N K all s f) (if ((all.drop i.toNat).any fun a => decide (arcBad N K a)) = true then 2 else if s ≥ 2 ^ N.toNat ∨ f ≥ 2 ^ N.toNat then 4 else 0) := by
  induction d with
  | zero =>
    intro i h0 hd
    refine Ev.step (fun k => coppicerref_NetCheck.l0.eq_2 _ _ _ _ _ _ _ _ k) ?_
    obtain ⟨n, rfl⟩ := Int.eq_ofNat_of_zero_le (show 0 ≤ N by omega)
    have e : ((2 : Int) ^ n) = ((2 ^ n : Nat) : Int) := by simp
    simp (disch := omega) only [if_neg (show ¬ i < (all.length : Int) by omega), u64_id, if_pos (show 0 ≤ (n : Int) by omega), shl1 n (by omega)]
    rw [List.drop_eq_nil_of_le (by omega), Int.toNat_natCast, e]
    by_cases q : s ≥ ((2 ^ n : Nat) : Int)
    · simp only [if_pos q]; exact Ev.val (by rw [if_neg (by simp), if_pos (.inl q)])
    · simp only [if_neg q]
      by_cases q2 : f ≥ ((2 ^ n : Nat) : Int)
      · simp only [if_pos q2]; exact Ev.val (by rw [if_neg (by simp), if_pos (.inr q2)])
      · simp only [if_neg q2]; exact Ev.val (by rw [if_neg (by simp), if_neg (fun h => h.elim q q2)])
  | succ d ih =>
    intro i h0 hd
    refine Ev.step (fun k => coppicerref_NetCheck.l0.eq_2 _ _ _ _ _ _ _ _ k) ?_
    rw [rd_arc h0 (by omega)]
    simp (disch := omega) only [if_pos (show i < (all.length : Int) by omega), if_pos (show 0 ≤ i by omega), w64]
    by_cases hb : arcBad N K (rd_T31 all i)
    · have : Ev (fun _ => (some 2 : Option Int)) (if ((rd_T31 all i :: all.drop (i + 1).toNat).any fun a => decide (arcBad N K a)) = true then 2 else if s ≥ 2 ^ N.toNat ∨ f ≥ 2 ^ N.toNat then 4 else 0) := Ev.val (by rw [if_pos (by simp [hb])])
      by_cases b1 : (rd_T31 all i).f0 < 0
      · simp only [if_pos b1]; exact this
      by_cases b2 : (rd_T31 all i).f0 ≥ N
      · simp only [if_neg b1, if_pos b2]; exact this
      by_cases b5 : (rd_T31 all i).f2 < 0
      · simp only [if_neg b1, if_neg b2, if_pos b5]; exact this
      by_cases b6 : (rd_T31 all i).f2 ≥ N
      · simp only [if_neg b1, if_neg b2, if_neg b5, if_pos b6]; exact this
      by_cases b3 : (rd_T31 all i).f1 < -1
      · simp only [if_neg b1, if_neg b2, if_neg b5, if_neg b6, if_pos b3]; exact this
      · have b4 : (rd_T31 all i).f1 ≥ K := by unfold arcBad at hb; omega
        simp only [if_neg b1, if_neg b2, if_neg b5, if_neg b6, if_neg b3, if_pos b4]; exact this
    · have b : ¬ (rd_T31 all i).f0 < 0 ∧ ¬ (rd_T31 all i).f0 ≥ N ∧ ¬ (rd_T31 all i).f2 < 0 ∧ ¬ (rd_T31 all i).f2 ≥ N ∧ ¬ (rd_T31 all i).f1 < -1 ∧ ¬ (rd_T31 all i).f1 ≥ K := by unfold arcBad at hb; omega
      simp only [if_neg b.1, if_neg b.2.1, if_neg b.2.2.1, if_neg b.2.2.2.1, if_neg b.2.2.2.2.1, if_neg b.2.2.2.2.2]
      have := ih (i + 1) (by omega) (by omega)
      simpa [hb] using this
theorem netCode_bad (N K : Int) (arcs : List S31) (s f : Int) (h : N < 1 ∨ N > 7 ∨ K < 1 ∨ K > 3 ∨ (arcs.length : Int) > 60) : netCode N K arcs s f = 1 := by unfold netCode; rw [if_pos h]
theorem netCheck_ev (N K : Int) (arcs : List S31) (s f : Int) (hs0 : 0 ≤ s) (hs1 : s ≤ 4294967295) (hf0 : 0 ≤ f) (hf1 : f ≤ 4294967295) : Ev (fun k => net_Check.f k N K arcs s f) (netCode N K arcs s f) := by
  unfold net_Check.f
  have bad : (N < 1 ∨ N > 7 ∨ K < 1 ∨ K > 3 ∨ (arcs.length : Int) > 60) → Ev (fun k => net_Check.j0 k true N K arcs s f) (netCode N K arcs s f) := by
    intro h
    rw [netCode_bad _ _ _ _ _ h]
    refine Ev.step (fun k => net_Check.j0.eq_2 _ _ _ _ _ _ k) ?_
    simp only [if_true]; exact Ev.now _
  by_cases c1 : N < 1
  · simp only [if_pos c1]; exact bad (by omega)
  by_cases c2 : N > 7
  · simp only [if_neg c1, if_pos c2]; exact bad (by omega)
  by_cases c3 : K < 1
  · simp only [if_neg c1, if_neg c2, if_pos c3]; exact bad (by omega)
  by_cases c4 : K > 3
  · simp only [if_neg c1, if_neg c2, if_neg c3, if_pos c4]; exact bad (by omega)
  simp only [if_neg c1, if_neg c2, if_neg c3, if_neg c4]
  by_cases c5 : (arcs.length : Int) > 60
  · simp only [c5, decide_true]; exact bad (by omega)
  · simp only [c5, decide_false]
    refine Ev.step (fun k => net_Check.j0.eq_2 _ _ _ _ _ _ k) ?_
    simp only [Bool.false_eq_true, if_false]
    have := netCheck_l0 N K arcs s f (by omega) (by omega) (by omega) hs0 hs1 hf0 hf1 arcs.length 0 (by omega) (by omega)
    unfold netCode
    rw [if_neg (by omega)]
    simpa using this
theorem netRef_ev (N K : Int) (arcs : List S31) (s f : Int) : Ev (fun k => coppicerref_NetCheck.f k N K arcs s f) (netCode N K arcs s f) := by
  unfold coppicerref_NetCheck.f
  have bad : (N < 1 ∨ N > 7 ∨ K < 1 ∨ K > 3 ∨ (arcs.length : Int) > 60) → Ev (fun k => coppicerref_NetCheck.j0 k true N K arcs s f) (netCode N K arcs s f) := by
    intro h
    rw [netCode_bad _ _ _ _ _ h]
    refine Ev.step (fun k => coppicerref_NetCheck.j0.eq_2 _ _ _ _ _ _ k) ?_
    simp only [if_true]; exact Ev.now _
  by_cases c1 : N < 1
  · simp only [if_pos c1]; exact bad (by omega)
  by_cases c2 : N > 7
  · simp only [if_neg c1, if_pos c2]; exact bad (by omega)
  by_cases c3 : K < 1
  · simp only [if_neg c1, if_neg c2, if_pos c3]; exact bad (by omega)
  by_cases c4 : K > 3
  · simp only [if_neg c1, if_neg c2, if_neg c3, if_pos c4]; exact bad (by omega)
  simp only [if_neg c1, if_neg c2, if_neg c3, if_neg c4]
  by_cases c5 : (arcs.length : Int) > 60
  · simp only [c5, decide_true]; exact bad (by omega)
  · simp only [c5, decide_false]
    refine Ev.step (fun k => coppicerref_NetCheck.j0.eq_2 _ _ _ _ _ _ k) ?_
    simp only [Bool.false_eq_true, if_false]
    have := netRef_l0 N K arcs s f (by omega) (by omega) (by omega) arcs.length 0 (by omega) (by omega)
    unfold netCode
    rw [if_neg (by omega)]
    simpa using this

/-! ### nets: sets of states, run by run -/
def passN (l : List S31) (s : Nat) : Nat := l.foldl (fun s a => if a.f1 < 0 ∧ s.testBit a.f0.toNat = true then s ||| 2 ^ a.f2.toNat else s) s
def stepN (c : Int) (s : Nat) (l : List S31) (acc : Nat) : Nat := l.foldl (fun acc a => if a.f1 = c ∧ s.testBit a.f0.toNat = true then acc ||| 2 ^ a.f2.toNat else acc) acc
def okArcs (N K : Int) (l : List S31) : Prop := ∀ a ∈ l, 0 ≤ a.f0 ∧ a.f0 < N ∧ 0 ≤ a.f2 ∧ a.f2 < N ∧ -1 ≤ a.f1 ∧ a.f1 < K
theorem passN_lt (N K : Int) (hN : 0 ≤ N) : ∀ (l : List S31) (s : Nat), okArcs N K l → s < 2 ^ N.toNat → passN l s < 2 ^ N.toNat
  | [], s, _, hs => hs
  | a :: l, s, h, hs => by
    have ha := h a (by simp)
    unfold passN
    rw [List.foldl_cons]
    refine passN_lt N K hN l _ (fun b hb => h b (by simp [hb])) ?_
    split
    · exact Nat.or_lt_two_pow hs (Nat.pow_lt_pow_right (by omega) (by omega))
    · exact hs
theorem stepN_lt (N K : Int) (hN : 0 ≤ N) (c : Int) (s : Nat) : ∀ (l : List S31) (acc : Nat), okArcs N K l → acc < 2 ^ N.toNat → stepN c s l acc < 2 ^ N.toNat
  | [], _, _, hs => hs
  | a :: l, acc, h, hs => by
    have ha := h a (by simp)
    unfold stepN
    rw [List.foldl_cons]
    refine stepN_lt N K hN c s l _ (fun b hb => h b (by simp [hb])) ?_
    split
    · exact Nat.or_lt_two_pow hs (Nat.pow_lt_pow_right (by omega) (by omega))
    · exact hs
theorem passN_sub : ∀ (l : List S31) (s i : Nat), s.testBit i = true → (passN l s).testBit i = true
  | [], _, _, h => h
  | a :: l, s, i, h => by
    unfold passN
    rw [List.foldl_cons]
    refine passN_sub l _ i ?_
    split
    · rw [Nat.testBit_or, h, Bool.true_or]
    · exact h
/-- all that is reached without a symbol -/
def cloN (N : Nat) (l : List S31) (s : Nat) : Nat := rep (passN l) N s
def runN (N : Nat) (l : List S31) : List Int → Nat → Nat
  | [], s => s
  | c :: w, s => runN N l w (cloN N l (stepN c s l 0))
section
variable (N K : Int) (all : List S31) (st f : Int) (hN0 : 1 ≤ N) (hN1 : N ≤ 7) (hl : all.length ≤ 60) (ho : okArcs N K all)
include hN0 hN1 hl ho
theorem arc_ok (i : Int) (h0 : 0 ≤ i) (h1 : i < all.length) : 0 ≤ (rd_T31 all i).f0 ∧ (rd_T31 all i).f0 < N ∧ 0 ≤ (rd_T31 all i).f2 ∧ (rd_T31 all i).f2 < N ∧ -1 ≤ (rd_T31 all i).f1 ∧ (rd_T31 all i).f1 < K := by
  refine ho _ ?_
  have h : i.toNat < all.length := by omega
  have e : rd_T31 all i = all[i.toNat] := by simp [rd_T31, List.getD_eq_getElem?_getD, List.getElem?_eq_getElem h]
  rw [e]; exact List.getElem_mem _
theorem lt32 {s : Nat} (h : s < 2 ^ N.toNat) : s < 2 ^ 32 := Nat.lt_of_lt_of_le h (Nat.pow_le_pow_right (by omega) (by omega))
theorem free_l1 (R : Int) (old : Int) (d : Nat) : ∀ (i : Int) (s : Nat), 0 ≤ i → i + d = all.length → s < 2 ^ N.toNat →
    Ev (fun k => net_Free.l0 k ((passN (all.drop i.toNat) s : Nat) : Int) (((passN (all.drop i.toNat) s : Nat) : Int) != old) N K all st f) R →
    Ev (fun k => net_Free.l1 k (s : Int) old all (all.length : Int) i N K all st f) R := by
  induction d with
  | zero =>
    intro i s h0 hd hs h
    refine Ev.step (fun k => net_Free.l1.eq_2 _ _ _ _ _ _ _ _ _ _ k) ?_
    simp (disch := omega) only [if_neg]
    rw [List.drop_eq_nil_of_le (by omega)] at h
    exact h
  | succ d ih =>
    intro i s h0 hd hs h
    have ha := arc_ok N K all hN0 hN1 hl ho i h0 (by omega)
    refine Ev.step (fun k => net_Free.l1.eq_2 _ _ _ _ _ _ _ _ _ _ k) ?_
    rw [rd_arc h0 (by omega)] at h
    unfold passN at h
    rw [List.foldl_cons] at h
    obtain ⟨p, hp⟩ := Int.eq_ofNat_of_zero_le ha.1
    obtain ⟨q, hq⟩ := Int.eq_ofNat_of_zero_le ha.2.2.1
    simp (disch := omega) only [if_pos, w64]
    by_cases c : (rd_T31 all i).f1 < 0
    · simp only [if_pos c]
      by_cases t : s.testBit (rd_T31 all i).f0.toNat = true
      · rw [if_pos ⟨c, t⟩] at h
        rw [hp, Int.toNat_natCast] at t
        rw [hq, Int.toNat_natCast] at h
        simp only [hp, hq, if_pos ((bit_shr s p (lt32 N K all hN0 hN1 hl ho hs) (by omega)).2 t), bit_or s q (lt32 N K all hN0 hN1 hl ho hs) (by omega)]
        exact ih (i + 1) _ (by omega) (by omega) (Nat.or_lt_two_pow hs (Nat.pow_lt_pow_right (by omega) (by omega))) h
      · rw [if_neg (fun x => t x.2)] at h
        rw [hp, Int.toNat_natCast] at t
        simp only [hp, if_neg (fun x => t ((bit_shr s p (lt32 N K all hN0 hN1 hl ho hs) (by omega)).1 x))]
        exact ih (i + 1) _ (by omega) (by omega) hs h
    · simp only [if_neg c]
      rw [if_neg (fun x => c x.1)] at h
      exact ih (i + 1) _ (by omega) (by omega) hs h
theorem free_ev (s : Nat) (hs : s < 2 ^ N.toNat) : Ev (fun k => net_Free.f k N K all st f (s : Int)) ((cloN N.toNat all s : Nat) : Int) := by
  unfold net_Free.f
  have key : ∀ (d j : Nat) (t : Nat), j + d = N.toNat → t < 2 ^ N.toNat → j ≤ cnt N.toNat t → cloN N.toNat all s = rep (passN all) d t → Ev (fun k => net_Free.l0 k (t : Int) true N K all st f) ((cloN N.toNat all s : Nat) : Int) := by
    intro d
    induction d with
    | zero =>
      intro j t hj ht hc he
      have hfix : passN all t = t := by
        rcases Classical.em (passN all t = t) with q | q
        · exact q
        · have hlt := passN_lt N K (by omega) all t ho ht
          obtain ⟨i, i0, i1, i2⟩ := bits_ne ht hlt (passN_sub all t) q
          have := cnt_lt t _ (passN_sub all t) i i1 i2 N.toNat i0
          have := cnt_le N.toNat (passN all t)
          omega
      refine Ev.step (fun k => net_Free.l0.eq_2 _ _ _ _ _ _ _ k) ?_
      simp only [if_true]
      refine free_l1 N K all st f hN0 hN1 hl ho _ (t : Int) all.length 0 t (by omega) (by omega) ht ?_
      simp only [Int.toNat_zero, List.drop_zero, hfix, bne_self_eq_false]
      refine Ev.step (fun k => net_Free.l0.eq_2 _ _ _ _ _ _ _ k) ?_
      simp only [Bool.false_eq_true, if_false]
      exact Ev.val (by rw [he]; rfl)
    | succ d ih =>
      intro j t hj ht hc he
      refine Ev.step (fun k => net_Free.l0.eq_2 _ _ _ _ _ _ _ k) ?_
      simp only [if_true]
      refine free_l1 N K all st f hN0 hN1 hl ho _ (t : Int) all.length 0 t (by omega) (by omega) ht ?_
      simp only [Int.toNat_zero, List.drop_zero]
      by_cases q : passN all t = t
      · simp only [q, bne_self_eq_false]
        refine Ev.step (fun k => net_Free.l0.eq_2 _ _ _ _ _ _ _ k) ?_
        simp only [Bool.false_eq_true, if_false]
        exact Ev.val (by rw [he, rep_fix _ _ q])
      · have hlt := passN_lt N K (by omega) all t ho ht
        have hb : (((passN all t : Nat) : Int) != (t : Int)) = true := by simp; omega
        simp only [hb]
        obtain ⟨i, i0, i1, i2⟩ := bits_ne ht hlt (passN_sub all t) q
        have := cnt_lt t _ (passN_sub all t) i i1 i2 N.toNat i0
        exact ih (j + 1) _ (by omega) hlt (by omega) he
  exact key N.toNat 0 s (by omega) hs (by omega) rfl
theorem step_l0 (c : Int) (s : Nat) (hs : s < 2 ^ N.toNat) (d : Nat) : ∀ (i : Int) (acc : Nat), 0 ≤ i → i + d = all.length → acc < 2 ^ N.toNat →
    Ev (fun k => net_Step.l0 k (s : Int) c (acc : Int) all (all.length : Int) i N K all st f) ((cloN N.toNat all (stepN c s (all.drop i.toNat) acc) : Nat) : Int) := by
  induction d with
  | zero =>
    intro i acc h0 hd ha
    refine Ev.step (fun k => net_Step.l0.eq_2 _ _ _ _ _ _ _ _ _ _ _ k) ?_
    simp (disch := omega) only [if_neg]
    rw [List.drop_eq_nil_of_le (by omega)]
    exact Ev.bind (free_ev N K all st f hN0 hN1 hl ho acc ha) (Ev.now _)
  | succ d ih =>
    intro i acc h0 hd hacc
    have ha := arc_ok N K all hN0 hN1 hl ho i h0 (by omega)
    refine Ev.step (fun k => net_Step.l0.eq_2 _ _ _ _ _ _ _ _ _ _ _ k) ?_
    rw [rd_arc h0 (by omega)]
    unfold stepN
    rw [List.foldl_cons]
    obtain ⟨p, hp⟩ := Int.eq_ofNat_of_zero_le ha.1
    obtain ⟨q, hq⟩ := Int.eq_ofNat_of_zero_le ha.2.2.1
    simp (disch := omega) only [if_pos, w64]
    by_cases e : (rd_T31 all i).f1 = c
    · simp only [if_pos e]
      by_cases t : s.testBit (rd_T31 all i).f0.toNat = true
      · simp only [if_pos (show True ∧ s.testBit (rd_T31 all i).f0.toNat = true from ⟨trivial, t⟩), e]
        rw [hp, Int.toNat_natCast] at t
        simp only [hp, hq, Int.toNat_natCast, t, and_self, if_true, if_pos ((bit_shr s p (lt32 N K all hN0 hN1 hl ho hs) (by omega)).2 t), bit_or acc q (lt32 N K all hN0 hN1 hl ho hacc) (by omega)]
        exact ih (i + 1) _ (by omega) (by omega) (Nat.or_lt_two_pow hacc (Nat.pow_lt_pow_right (by omega) (by omega)))
      · rw [if_neg (fun x => t x.2)]
        rw [hp, Int.toNat_natCast] at t
        simp only [hp, if_neg (fun x => t ((bit_shr s p (lt32 N K all hN0 hN1 hl ho hs) (by omega)).1 x))]
        exact ih (i + 1) _ (by omega) (by omega) hacc
    · simp only [if_neg e]
      rw [if_neg (fun x => e x.1)]
      exact ih (i + 1) _ (by omega) (by omega) hacc
theorem step_ev (c : Int) (s : Nat) (hs : s < 2 ^ N.toNat) : Ev (fun k => net_Step.f k N K all st f (s : Int) c) ((cloN N.toNat all (stepN c s all 0) : Nat) : Int) := by
  unfold net_Step.f
  simpa using step_l0 N K all st f hN0 hN1 hl ho c s hs all.length 0 0 (by omega) (by omega) (Nat.two_pow_pos _)
/-! the document's -/
theorem Bit_ev (a i : Nat) (ha : a < 2 ^ 32) (hi : i < 32) : coppicerref_Bit.f (a : Int) (i : Int) = some (a.testBit i) := by
  unfold coppicerref_Bit.f
  simp (disch := omega) only [if_pos, u64_id, bit_and a i ha hi]
theorem rfree_l1 (R : Int) (r : Int) (d : Nat) : ∀ (i : Int) (s : Nat), 0 ≤ i → i + d = all.length → s < 2 ^ N.toNat →
    Ev (fun k => coppicerref_free.l0 k ((passN (all.drop i.toNat) s : Nat) : Int) (wrap64 (r + 1)) N K all st f) R →
    Ev (fun k => coppicerref_free.l1 k (s : Int) r all (all.length : Int) i N K all st f) R := by
  induction d with
  | zero =>
    intro i s h0 hd hs h
    refine Ev.step (fun k => coppicerref_free.l1.eq_2 _ _ _ _ _ _ _ _ _ _ k) ?_
    simp (disch := omega) only [if_neg]
    rw [List.drop_eq_nil_of_le (by omega)] at h
    exact h
  | succ d ih =>
    intro i s h0 hd hs h
    have ha := arc_ok N K all hN0 hN1 hl ho i h0 (by omega)
    refine Ev.step (fun k => coppicerref_free.l1.eq_2 _ _ _ _ _ _ _ _ _ _ k) ?_
    rw [rd_arc h0 (by omega)] at h
    unfold passN at h
    rw [List.foldl_cons] at h
    obtain ⟨p, hp⟩ := Int.eq_ofNat_of_zero_le ha.1
    obtain ⟨q, hq⟩ := Int.eq_ofNat_of_zero_le ha.2.2.1
    simp (disch := omega) only [if_pos, w64]
    by_cases c : (rd_T31 all i).f1 < 0
    · have c' : (rd_T31 all i).f1 = -1 := by omega
      simp only [if_pos c']
      rw [hp, Int.toNat_natCast] at h
      by_cases t : s.testBit p = true
      · rw [if_pos ⟨c, t⟩] at h
        rw [hq, Int.toNat_natCast] at h
        simp (disch := omega) only [hp, hq, Bit_ev N K all hN0 hN1 hl ho s p (lt32 N K all hN0 hN1 hl ho hs) (by omega), Option.bind_some, t, if_true, u64_id, if_pos, bit_or s q (lt32 N K all hN0 hN1 hl ho hs) (by omega)]
        exact ih (i + 1) _ (by omega) (by omega) (Nat.or_lt_two_pow hs (Nat.pow_lt_pow_right (by omega) (by omega))) h
      · rw [if_neg (fun x => t x.2)] at h
        simp only [hp, Bit_ev N K all hN0 hN1 hl ho s p (lt32 N K all hN0 hN1 hl ho hs) (by omega), Option.bind_some, if_neg t]
        exact ih (i + 1) _ (by omega) (by omega) hs h
    · simp (disch := omega) only [if_neg (show ¬ (rd_T31 all i).f1 = -1 by omega)]
      rw [if_neg (fun x => c x.1)] at h
      exact ih (i + 1) _ (by omega) (by omega) hs h
theorem rfree_ev (s : Nat) (hs : s < 2 ^ N.toNat) : Ev (fun k => coppicerref_free.f k N K all st f (s : Int)) ((cloN N.toNat all s : Nat) : Int) := by
  unfold coppicerref_free.f
  have key : ∀ (d : Nat) (r : Int) (t : Nat), 0 ≤ r → r + d = N → t < 2 ^ N.toNat → Ev (fun k => coppicerref_free.l0 k (t : Int) r N K all st f) ((rep (passN all) d t : Nat) : Int) := by
    intro d
    induction d with
    | zero =>
      intro r t h0 h1 ht
      refine Ev.step (fun k => coppicerref_free.l0.eq_2 _ _ _ _ _ _ _ k) ?_
      simp (disch := omega) only [if_neg]
      exact Ev.now _
    | succ d ih =>
      intro r t h0 h1 ht
      refine Ev.step (fun k => coppicerref_free.l0.eq_2 _ _ _ _ _ _ _ k) ?_
      simp (disch := omega) only [if_pos]
      refine rfree_l1 N K all st f hN0 hN1 hl ho _ r all.length 0 t (by omega) (by omega) ht ?_
      simp (disch := omega) only [Int.toNat_zero, List.drop_zero, w64]
      exact ih (r + 1) _ (by omega) (by omega) (passN_lt N K (by omega) all t ho ht)
  have := key N.toNat 0 s (by omega) (by omega) hs
  exact this
end

theorem netCode_0 {N K : Int} {arcs : List S31} {s f : Int} (h : netCode N K arcs s f = 0) : 1 ≤ N ∧ N ≤ 7 ∧ arcs.length ≤ 60 ∧ okArcs N K arcs ∧ s < 2 ^ N.toNat ∧ f < 2 ^ N.toNat := by
  unfold netCode at h
  by_cases c : N < 1 ∨ N > 7 ∨ K < 1 ∨ K > 3 ∨ (arcs.length : Int) > 60
  · rw [if_pos c] at h; omega
  · rw [if_neg c] at h
    by_cases e : (arcs.any fun a => decide (arcBad N K a)) = true
    · rw [if_pos e] at h; omega
    · rw [if_neg e] at h
      by_cases g : s ≥ 2 ^ N.toNat ∨ f ≥ 2 ^ N.toNat
      · rw [if_pos g] at h; omega
      · refine ⟨by omega, by omega, by omega, ?_, by omega, by omega⟩
        intro a ha
        simp only [List.any_eq_true, not_exists, not_and, decide_eq_true_eq] at e
        have := e a ha
        unfold arcBad at this
        omega
/-! ### coppicerref.NetLeads -/
section
variable (N K : Int) (all : List S31) (st f : Int) (hN0 : 1 ≤ N) (hN1 : N ≤ 7) (hl : all.length ≤ 60) (ho : okArcs N K all)
include hN0 hN1 hl ho
theorem clo_lt (s : Nat) (h : s < 2 ^ N.toNat) : cloN N.toNat all s < 2 ^ N.toNat := rep_lt _ _ (fun s hs => passN_lt N K (by omega) all s ho hs) _ _ h
theorem leads_l1 (R : Int) (c : Int) (s : Nat) (hs : s < 2 ^ N.toNat) (w : List Int) (n j : Int) (next : Ev (fun k => coppicerref_NetLeads.l0 k ((cloN N.toNat all (stepN c s all 0) : Nat) : Int) w n (wrap64 (j + 1)) N K all st f) R) (d : Nat) : ∀ (i : Int) (acc : Nat), 0 ≤ i → i + d = all.length → acc < 2 ^ N.toNat → stepN c s (all.drop i.toNat) acc = stepN c s all 0 →
    Ev (fun k => coppicerref_NetLeads.l1 k (s : Int) c (acc : Int) w n j all (all.length : Int) i N K all st f) R := by
  induction d with
  | zero =>
    intro i acc h0 hd ha he
    refine Ev.step (fun k => coppicerref_NetLeads.l1.eq_2 _ _ _ _ _ _ _ _ _ _ _ _ _ _ k) ?_
    simp (disch := omega) only [if_neg (show ¬ i < (all.length : Int) by omega)]
    rw [List.drop_eq_nil_of_le (by omega)] at he
    have he : acc = stepN c s all 0 := he
    refine Ev.bind (rfree_ev N K all st f hN0 hN1 hl ho acc ha) ?_
    rw [he]; exact next
  | succ d ih =>
    intro i acc h0 hd hacc he
    have ha := arc_ok N K all hN0 hN1 hl ho i h0 (by omega)
    refine Ev.step (fun k => coppicerref_NetLeads.l1.eq_2 _ _ _ _ _ _ _ _ _ _ _ _ _ _ k) ?_
    rw [rd_arc h0 (by omega)] at he
    unfold stepN at he
    rw [List.foldl_cons] at he
    obtain ⟨p, hp⟩ := Int.eq_ofNat_of_zero_le ha.1
    obtain ⟨q, hq⟩ := Int.eq_ofNat_of_zero_le ha.2.2.1
    simp (disch := omega) only [if_pos (show i < (all.length : Int) by omega), if_pos h0, w64]
    by_cases e : (rd_T31 all i).f1 = c
    · simp only [if_pos e]
      by_cases t : s.testBit (rd_T31 all i).f0.toNat = true
      · rw [if_pos ⟨e, t⟩] at he
        rw [hp, Int.toNat_natCast] at t
        rw [hq, Int.toNat_natCast] at he
        simp (disch := omega) only [hp, hq, Bit_ev N K all hN0 hN1 hl ho s p (lt32 N K all hN0 hN1 hl ho hs) (by omega), Option.bind_some, t, if_true, u64_id, if_pos, bit_or acc q (lt32 N K all hN0 hN1 hl ho hacc) (by omega)]
        exact ih (i + 1) _ (by omega) (by omega) (Nat.or_lt_two_pow hacc (Nat.pow_lt_pow_right (by omega) (by omega))) he
      · rw [if_neg (fun x => t x.2)] at he
        rw [hp, Int.toNat_natCast] at t
        simp only [hp, Bit_ev N K all hN0 hN1 hl ho s p (lt32 N K all hN0 hN1 hl ho hs) (by omega), Option.bind_some, if_neg t]
        exact ih (i + 1) _ (by omega) (by omega) hacc he
    · simp only [if_neg e]
      rw [if_neg (fun x => e x.1)] at he
      exact ih (i + 1) _ (by omega) (by omega) hacc he
theorem leads_l0 (w : List Int) (hw : w.length ≤ 12) (d : Nat) : ∀ (i : Int) (s : Nat), 0 ≤ i → i + d = w.length → s < 2 ^ N.toNat →
    Ev (fun k => coppicerref_NetLeads.l0 k (s : Int) w (w.length : Int) i N K all st f) ((runN N.toNat all (w.drop i.toNat) s : Nat) : Int) := by
  induction d with
  | zero =>
    intro i s h0 hd hs
    refine Ev.step (fun k => coppicerref_NetLeads.l0.eq_2 _ _ _ _ _ _ _ _ _ k) ?_
    simp (disch := omega) only [if_neg]
    rw [List.drop_eq_nil_of_le (by omega)]
    exact Ev.now _
  | succ d ih =>
    intro i s h0 hd hs
    refine Ev.step (fun k => coppicerref_NetLeads.l0.eq_2 _ _ _ _ _ _ _ _ _ k) ?_
    rw [drop_rd h0 (by omega)]
    simp (disch := omega) only [if_pos]
    refine leads_l1 N K all st f hN0 hN1 hl ho _ (rd w i) s hs w (w.length : Int) i ?_ all.length 0 0 (by omega) (by omega) (Nat.two_pow_pos _) (by simp)
    simp (disch := omega) only [w64]
    exact ih (i + 1) _ (by omega) (by omega) (clo_lt N K all hN0 hN1 hl ho _ (stepN_lt N K (by omega) _ _ all 0 ho (Nat.two_pow_pos _)))
end

/-! ### coppicerref.Lists, MachineSame, Zero -/
theorem Lists_refl_l0 (a : List (List Int)) (ha : a.length ≤ 4611686018427387904) (hr : ∀ x ∈ a, x.length ≤ 4611686018427387904) (d : Nat) : ∀ i : Int, 0 ≤ i → i + d = a.length → Ev (fun k => coppicerref_Lists.l0 k a a i) true := by
  induction d with
  | zero =>
    intro i h0 hd
    refine Ev.step (fun k => coppicerref_Lists.l0.eq_2 _ _ _ k) ?_
    simp (disch := omega) only [if_neg]; exact Ev.now _
  | succ d ih =>
    intro i h0 hd
    refine Ev.step (fun k => coppicerref_Lists.l0.eq_2 _ _ _ k) ?_
    simp (disch := omega) only [if_pos, w64]
    refine Ev.bind (Ints_ev _ _ (by have := hr _ (rdL_mem h0 (show i < a.length by omega)); omega)) ?_
    simp only [decide_true, if_true]
    exact ih (i + 1) (by omega) (by omega)
theorem Lists_refl (a : List (List Int)) (ha : a.length ≤ 4611686018427387904) (hr : ∀ x ∈ a, x.length ≤ 4611686018427387904) : Ev (fun k => coppicerref_Lists.f k a a) true := by
  unfold coppicerref_Lists.f
  simp only [if_true]
  exact Lists_refl_l0 a ha hr a.length 0 (by omega) (by omega)
theorem Same_refl (N K : Int) (next : List (List Int)) (st f : Int) (ha : next.length ≤ 4611686018427387904) (hr : ∀ x ∈ next, x.length ≤ 4611686018427387904) : Ev (fun k => coppicerref_MachineSame.f k N K next st f N K next st f) true := by
  unfold coppicerref_MachineSame.f
  simp only [if_true]
  exact Ev.bind (Lists_refl next ha hr) (Ev.now _)
theorem Zero_ev : Ev (fun k => coppicerref_Zero.f k 0 0 [] 0 0) true := by
  unfold coppicerref_Zero.f
  exact Ev.bind (Same_refl 0 0 [] 0 0 (by simp) (by simp)) (Ev.now _)

/-! ### loops, told by what follows -/
theorem Ev.loopc {σ ρ : Type} {L : Nat → Int → σ → Option ρ} {n : Int} {r : ρ} (I : Int → σ → Prop)
    (hend : ∀ s, I n s → Ev (fun k => L k n s) r)
    (hstep : ∀ i s, 0 ≤ i → i < n → I i s → (∀ s', I (i + 1) s' → Ev (fun k => L k (i + 1) s') r) → Ev (fun k => L k i s) r) :
    ∀ (i : Int) (s : σ), 0 ≤ i → i ≤ n → I i s → Ev (fun k => L k i s) r := by
  have key : ∀ (d : Nat) (i : Int) (s : σ), 0 ≤ i → i + d = n → I i s → Ev (fun k => L k i s) r := by
    intro d
    induction d with
    | zero => intro i s h0 h1 hI; obtain rfl : i = n := by omega
              exact hend s hI
    | succ d ih =>
      intro i s h0 h1 hI
      exact hstep i s h0 (by omega) hI (fun s' h' => ih (i + 1) s' (by omega) (by omega) h')
  intro i s h0 h1 hI
  exact key (n - i).toNat i s h0 (by omega) hI

/-! ### an answer of which something is known -/
def EvP {α : Type} (g : Nat → Option α) (J : α → Prop) : Prop := ∃ r, J r ∧ Ev g r
theorem EvP.of {α : Type} {g : Nat → Option α} {J : α → Prop} {r : α} (h : J r) (e : Ev g r) : EvP g J := ⟨r, h, e⟩
theorem EvP.now {α : Type} {J : α → Prop} {r : α} (h : J r) : EvP (fun _ => some r) J := ⟨r, h, Ev.now r⟩
theorem EvP.pos {α : Type} {c : Prop} [Decidable c] {g f : Nat → Option α} {J : α → Prop} (h : c) (e : EvP g J) : EvP (fun k => if c then g k else f k) J := let ⟨r, h1, h2⟩ := e; ⟨r, h1, Ev.pos h h2⟩
theorem EvP.neg {α : Type} {c : Prop} [Decidable c] {g f : Nat → Option α} {J : α → Prop} (h : ¬ c) (e : EvP f J) : EvP (fun k => if c then g k else f k) J := let ⟨r, h1, h2⟩ := e; ⟨r, h1, Ev.neg h h2⟩
theorem EvP.step {α : Type} {g f : Nat → Option α} {J : α → Prop} (h : ∀ k, g (k + 1) = f k) (e : EvP f J) : EvP g J := let ⟨r, h1, h2⟩ := e; ⟨r, h1, Ev.step h h2⟩
theorem EvP.congr {α : Type} {g f : Nat → Option α} {J : α → Prop} (h : ∀ k, g k = f k) (e : EvP f J) : EvP g J := let ⟨r, h1, h2⟩ := e; ⟨r, h1, Ev.congr h h2⟩
theorem EvP.bind {α β : Type} {g : Nat → Option α} {f : Nat → α → Option β} {a : α} {J : β → Prop} (h : Ev g a) (e : EvP (fun n => f n a) J) : EvP (fun n => (g n).bind (f n)) J := let ⟨r, h1, h2⟩ := e; ⟨r, h1, Ev.bind h h2⟩
theorem EvP.bindP {α β : Type} {g : Nat → Option α} {f : Nat → α → Option β} {I : α → Prop} {J : β → Prop} (h : EvP g I) (e : ∀ a, I a → EvP (fun n => f n a) J) : EvP (fun n => (g n).bind (f n)) J := let ⟨a, h1, h2⟩ := h; EvP.bind h2 (e a h1)
theorem EvP.ev {α β : Type} {g : Nat → Option α} {f : Nat → α → Option β} {I : α → Prop} {r : β} (h : EvP g I) (e : ∀ a, I a → Ev (fun n => f n a) r) : Ev (fun n => (g n).bind (f n)) r := let ⟨a, h1, h2⟩ := h; Ev.bind h2 (e a h1)
theorem EvP.mono {α : Type} {g : Nat → Option α} {I J : α → Prop} (h : EvP g I) (hi : ∀ a, I a → J a) : EvP g J := let ⟨a, h1, h2⟩ := h; ⟨a, hi a h1, h2⟩
theorem EvP.loop {σ ρ : Type} {L : Nat → Int → σ → Option ρ} {n : Int} {J : ρ → Prop} (I : Int → σ → Prop)
    (hend : ∀ s, I n s → EvP (fun k => L k n s) J)
    (hstep : ∀ i s, 0 ≤ i → i < n → I i s → (∀ s', I (i + 1) s' → EvP (fun k => L k (i + 1) s') J) → EvP (fun k => L k i s) J) :
    ∀ (i : Int) (s : σ), 0 ≤ i → i ≤ n → I i s → EvP (fun k => L k i s) J := by
  have key : ∀ (d : Nat) (i : Int) (s : σ), 0 ≤ i → i + d = n → I i s → EvP (fun k => L k i s) J := by
    intro d
    induction d with
    | zero => intro i s h0 h1 hI; obtain rfl : i = n := by omega
              exact hend s hI
    | succ d ih =>
      intro i s h0 h1 hI
      exact hstep i s h0 (by omega) hI (fun s' h' => ih (i + 1) s' (by omega) (by omega) h')
  intro i s h0 h1 hI
  exact key (n - i).toNat i s h0 (by omega) hI

/-! ### sets as states -/
section
variable (N K : Int) (all : List S31)
/-- The set to which a symbol leads. -/
def toN (s : Nat) (c : Int) : Nat := cloN N.toNat all (stepN c s all 0)
def addN (i : Nat) (p : List Nat × List Int) (c : Int) : List Nat × List Int :=
  (if toN N all (p.1.getD i 0) c ∈ p.1 then p.1 else p.1 ++ [toN N all (p.1.getD i 0) c], p.2 ++ [((p.1.idxOf (toN N all (p.1.getD i 0) c) : Nat) : Int)])
def rowN (i : Nat) (S : List Nat) : Nat → List Nat × List Int
  | 0 => (S, [])
  | c + 1 => addN N all i (rowN i S c) c
inductive Bfs : Nat → List Nat → List (List Int) → List Nat → List (List Int) → Prop
  | done (i : Nat) (S : List Nat) (nx : List (List Int)) : S.length ≤ i → Bfs i S nx S nx
  | step (i : Nat) (S : List Nat) (nx : List (List Int)) (Sf : List Nat) (nf : List (List Int)) : i < S.length → Bfs (i + 1) (rowN N all i S K.toNat).1 (nx ++ [(rowN N all i S K.toNat).2]) Sf nf → Bfs i S nx Sf nf
theorem addN_pre (i : Nat) (p : List Nat × List Int) (c : Int) : p.1 <+: (addN N all i p c).1 := by
  unfold addN
  by_cases h : toN N all (p.1.getD i 0) c ∈ p.1
  · simp only [if_pos h]; exact List.prefix_refl _
  · simp only [if_neg h]; exact List.prefix_append _ _
theorem rowN_pre (i : Nat) (S : List Nat) : ∀ c, S <+: (rowN N all i S c).1
  | 0 => List.prefix_refl _
  | c + 1 => (rowN_pre i S c).trans (addN_pre N all i _ _)
theorem rowN_len (i : Nat) (S : List Nat) : ∀ c, (rowN N all i S c).2.length = c
  | 0 => rfl
  | c + 1 => by
    show ((rowN N all i S c).2 ++ [_]).length = c + 1
    rw [List.length_append, rowN_len i S c]; rfl
theorem bfs_pre {i : Nat} {S Sf : List Nat} {nx nf : List (List Int)} (h : Bfs N K all i S nx Sf nf) : S <+: Sf := by
  induction h with
  | done => exact List.prefix_refl _
  | step i S nx Sf nf _ _ ih => exact (rowN_pre N all i S _).trans ih
theorem bfs_row {i : Nat} {S Sf : List Nat} {nx nf : List (List Int)} (h : Bfs N K all i S nx Sf nf) (hl : nx.length = i) (hi : i ≤ S.length) : nf.length = Sf.length ∧ ((∀ x ∈ nx, x.length = K.toNat) → ∀ x ∈ nf, x.length = K.toNat) := by
  induction h with
  | done i S nx h => exact ⟨by omega, fun h => h⟩
  | step i S nx Sf nf h0 _ ih =>
    have := (rowN_pre N all i S K.toNat).length_le
    obtain ⟨a, b⟩ := ih (by simp [hl]) (by omega)
    refine ⟨a, fun q => b (fun x hx => ?_)⟩
    rcases List.mem_append.1 hx with hx | hx
    · exact q x hx
    · rw [List.mem_singleton] at hx; subst hx; exact rowN_len N all i S _
end
theorem nodup_le : ∀ (n : Nat) (l : List Nat), l.Nodup → (∀ x ∈ l, x < n) → l.length ≤ n
  | 0, l, _, h => by
    cases l with
    | nil => simp
    | cons x l => exact absurd (h x (by simp)) (by omega)
  | n + 1, l, hd, h => by
    have := nodup_le n (l.erase n) (hd.erase n) (fun x hx => by
      have hx2 := (hd.mem_erase_iff).1 hx
      have := h x hx2.2
      have := hx2.1
      omega)
    rw [List.length_erase] at this
    split at this <;> omega
def iN (S : List Nat) : List Int := S.map Int.ofNat
theorem iN_len (S : List Nat) : (iN S).length = S.length := by unfold iN; rw [List.length_map]
theorem rd_iN {S : List Nat} {i : Int} (h0 : 0 ≤ i) (h1 : i < S.length) : rd (iN S) i = ((S.getD i.toNat 0 : Nat) : Int) := by
  unfold iN
  simp only [rd, List.getD_eq_getElem?_getD, List.getElem?_map]
  rw [List.getElem?_eq_getElem (by omega)]; rfl
theorem index_ev (S : List Nat) (t : Nat) (hS : S.length ≤ 1000) : Ev (fun k => slices_Index_Suint32_uint32.f k (iN S) (t : Int)) (if t ∈ S then ((S.idxOf t : Nat) : Int) else -1) := by
  unfold slices_Index_Suint32_uint32.f
  rw [iN_len]
  refine Ev.loopc (σ := Unit) (L := fun k i _ => slices_Index_Suint32_uint32.l0 k (iN S) (t : Int) (S.length : Int) i) (n := (S.length : Int))
    (fun i _ => ∀ j : Nat, (j : Int) < i → j < S.length → S.getD j 0 ≠ t) ?_ ?_ 0 () (Int.le_refl _) (by omega) (fun j a b => by omega)
  · intro _ h
    refine Ev.step (fun k => slices_Index_Suint32_uint32.l0.eq_2 _ _ _ _ k) ?_
    refine Ev.neg (by omega) (Ev.val ?_)
    rw [if_neg]
    intro hm
    obtain ⟨j, hj, e⟩ := List.getElem_of_mem hm
    exact h j (by omega) hj (by rw [List.getD_eq_getElem?_getD, List.getElem?_eq_getElem hj]; exact e)
  · intro i _ i0 i1 h hn
    refine Ev.step (fun k => slices_Index_Suint32_uint32.l0.eq_2 _ _ _ _ k) ?_
    rw [w64 (x := i + 1) (by omega) (by omega), rd_iN i0 i1, iN_len]
    have g : S.getD i.toNat 0 = S[i.toNat]'(by omega) := by rw [List.getD_eq_getElem?_getD, List.getElem?_eq_getElem (by omega)]; rfl
    refine Ev.pos i1 (Ev.pos i0 (Ev.pos i1 ?_))
    by_cases c : (t : Int) = ((S.getD i.toNat 0 : Nat) : Int)
    · refine Ev.pos c (Ev.val ?_)
      have c' : S[i.toNat]'(by omega) = t := by rw [← g]; omega
      have hm : t ∈ S := by rw [← c']; exact List.getElem_mem _
      rw [if_pos hm]
      have e : S.idxOf t = i.toNat := by
        apply Nat.le_antisymm
        · apply Nat.le_of_not_lt; intro hlt
          have := List.not_of_lt_findIdx (xs := S) (p := (· == t)) hlt
          simp [c'] at this
        · apply Nat.le_of_not_lt; intro hlt
          have hi := List.idxOf_lt_length_iff.2 hm
          refine h (S.idxOf t) (by omega) hi ?_
          rw [List.getD_eq_getElem?_getD, List.getElem?_eq_getElem hi]
          exact List.getElem_idxOf hi
      rw [e]; omega
    · refine Ev.neg c (hn () ?_)
      intro j hj hj2
      by_cases e : (j : Int) = i
      · have : j = i.toNat := by omega
        subst this; intro q; exact c (by omega)
      · exact h j (by omega) hj2
section
variable {N K : Int} {all : List S31} {st f : Int} (hN0 : 1 ≤ N) (hN1 : N ≤ 7) (hK : 0 ≤ K ∧ K ≤ 3) (hl : all.length ≤ 60) (ho : okArcs N K all)
include hN0 hN1 hK hl ho
theorem to_lt (s : Nat) (c : Int) : toN N all s c < 2 ^ N.toNat := clo_lt N K all hN0 hN1 hl ho _ (stepN_lt N K (by omega) _ _ all 0 ho (Nat.two_pow_pos _))
def OkS (N : Int) (S : List Nat) : Prop := S.Nodup ∧ ∀ x ∈ S, x < 2 ^ N.toNat
theorem OkS.len {S : List Nat} (h : OkS N S) : S.length ≤ 128 := by
  have := nodup_le (2 ^ N.toNat) S h.1 h.2
  have h2 : 2 ^ N.toNat ≤ 2 ^ 7 := Nat.pow_le_pow_right (by omega) (by omega)
  omega
theorem OkS.get {S : List Nat} (h : OkS N S) {i : Nat} (hi : i < S.length) : S.getD i 0 < 2 ^ N.toNat := by
  rw [List.getD_eq_getElem?_getD, List.getElem?_eq_getElem hi]; exact h.2 _ (List.getElem_mem _)
theorem addN_ok {i : Nat} {p : List Nat × List Int} {c : Int} (h : OkS N p.1) : OkS N (addN N all i p c).1 := by
  unfold addN
  by_cases e : toN N all (p.1.getD i 0) c ∈ p.1
  · simp only [if_pos e]; exact h
  · simp only [if_neg e]
    refine ⟨?_, ?_⟩
    · rw [List.nodup_append]
      refine ⟨h.1, by simp, ?_⟩
      intro a ha b hb
      rw [List.mem_singleton] at hb; subst hb
      intro q; subst q; exact e ha
    · intro x hx
      rcases List.mem_append.1 hx with hx | hx
      · exact h.2 x hx
      · rw [List.mem_singleton] at hx; subst hx; exact to_lt hN0 hN1 hK hl ho _ _
theorem rowN_ok {i : Nat} {S : List Nat} (h : OkS N S) : ∀ c, OkS N (rowN N all i S c).1
  | 0 => h
  | c + 1 => addN_ok hN0 hN1 hK hl ho (rowN_ok h c)
theorem sets_ev : ∀ (d i : Nat) (S : List Nat) (nx : List (List Int)), OkS N S → nx.length = i → 128 ≤ i + d → i ≤ S.length → (∀ x ∈ nx, x.length = K.toNat) →
    EvP (fun k => net_Sets.l0 k (iN S) nx (i : Int) N K all st f) (fun r => ∃ Sf nf, Bfs N K all i S nx Sf nf ∧ OkS N Sf ∧ r = (iN Sf, nf)) := by
  intro d
  induction d with
  | zero =>
    intro i S nx h hn hd hi hx
    have hlen := h.len hN0 hN1 hK hl ho
    refine EvP.step (fun k => net_Sets.l0.eq_2 _ _ _ _ _ _ _ _ k) ?_
    exact EvP.neg (by rw [iN_len]; omega) (EvP.now ⟨S, nx, Bfs.done _ _ _ (by omega), h, rfl⟩)
  | succ d ih =>
    intro i S nx h hn hd hi hx
    have hlen := h.len hN0 hN1 hK hl ho
    refine EvP.step (fun k => net_Sets.l0.eq_2 _ _ _ _ _ _ _ _ k) ?_
    by_cases c : i < S.length
    · refine EvP.pos (by rw [iN_len]; omega) ?_
      refine EvP.loop (σ := List Nat × List Int) (L := fun k c p => net_Sets.l1 k (iN p.1) nx (i : Int) p.2 K c N K all st f) (n := K)
        (fun c p => p = rowN N all i S c.toNat) ?_ ?_ 0 (S, []) (Int.le_refl _) hK.1 rfl
      · rintro p rfl
        have hp := rowN_pre N all i S K.toNat
        have hk := rowN_ok hN0 hN1 hK hl ho (i := i) h K.toNat
        refine EvP.step (fun k => net_Sets.l1.eq_2 _ _ _ _ _ _ _ _ _ _ _ k) ?_
        rw [w64 (x := (i : Int) + 1) (by omega) (by omega)]
        refine EvP.neg (by omega) (EvP.pos (by omega) ?_)
        refine (ih (i + 1) _ _ hk (by simp [hn]) (by omega) (by have := hp.length_le; omega) ?_).mono ?_
        · intro x q
          rcases List.mem_append.1 q with q | q
          · exact hx x q
          · rw [List.mem_singleton] at q; subst q; exact rowN_len N all i S _
        · rintro r ⟨Sf, nf, b, o, e⟩
          exact ⟨Sf, nf, Bfs.step _ _ _ _ _ c b, o, e⟩
      · rintro c' p c0 c1 rfl hn2
        have hp := rowN_pre N all i S c'.toNat
        have hk := rowN_ok hN0 hN1 hK hl ho (i := i) h c'.toNat
        have hpl := hp.length_le
        have hkl := hk.len hN0 hN1 hK hl ho
        have hrl := rowN_len N all i S c'.toNat
        have nx1 : (c' + 1).toNat = c'.toNat + 1 := by omega
        have ec : ((c'.toNat : Nat) : Int) = c' := by omega
        refine EvP.step (fun k => net_Sets.l1.eq_2 _ _ _ _ _ _ _ _ _ _ _ k) ?_
        rw [w64 (x := c' + 1) (by omega) (by omega)]
        refine EvP.pos c1 (EvP.pos (by omega) (EvP.pos (by rw [iN_len]; omega) ?_))
        rw [rd_iN (by omega) (by omega), Int.toNat_natCast]
        refine EvP.bind (step_ev N K all st f hN0 hN1 hl ho c' _ (hk.get hN0 hN1 hK hl ho (by omega))) ?_
        refine EvP.bind (index_ev (rowN N all i S c'.toNat).1 (toN N all ((rowN N all i S c'.toNat).1.getD i 0) c') (by omega)) ?_
        have goal : ∀ q : List Nat × List Int, q = addN N all i (rowN N all i S c'.toNat) c' → EvP (fun k => net_Sets.l1 k (iN q.1) nx (i : Int) q.2 K (c' + 1) N K all st f) (fun r => ∃ Sf nf, Bfs N K all i S nx Sf nf ∧ OkS N Sf ∧ r = (iN Sf, nf)) := by
          rintro q rfl
          refine hn2 _ ?_
          rw [nx1]
          show _ = addN N all i (rowN N all i S c'.toNat) ((c'.toNat : Nat) : Int)
          rw [ec]
        by_cases m : toN N all ((rowN N all i S c'.toNat).1.getD i 0) c' ∈ (rowN N all i S c'.toNat).1
        · rw [if_pos m]
          refine EvP.neg (by omega) (EvP.pos (by omega) ?_)
          have := goal _ rfl
          unfold addN at this
          rw [if_pos m] at this
          exact this
        · rw [if_neg m]
          refine EvP.pos (by omega) (EvP.pos (by rw [iN_len]; omega) (EvP.pos (by omega) ?_))
          have := goal _ rfl
          unfold addN at this
          rw [if_neg m, List.idxOf_eq_length m] at this
          have e : iN ((rowN N all i S c'.toNat).1 ++ [toN N all ((rowN N all i S c'.toNat).1.getD i 0) c']) = iN (rowN N all i S c'.toNat).1 ++ [((toN N all ((rowN N all i S c'.toNat).1.getD i 0) c' : Nat) : Int)] := by simp [iN]
          rw [e] at this
          rw [iN_len]
          exact this
    · exact EvP.neg (by rw [iN_len]; omega) (EvP.now ⟨S, nx, Bfs.done _ _ _ (by omega), h, rfl⟩)
end
/-! the word of the sets that take -/
def finN (f : Nat) (S : List Nat) : Nat → Nat
  | 0 => 0
  | i + 1 => if S.getD i 0 &&& f = 0 then finN f S i else 2 ^ i + finN f S i
theorem finN_lt (f : Nat) (S : List Nat) : ∀ i, finN f S i < 2 ^ i
  | 0 => by unfold finN; omega
  | i + 1 => by
    have := finN_lt f S i
    unfold finN
    rw [Nat.pow_succ]
    split <;> omega
theorem finN_pre (f : Nat) {S T : List Nat} (h : S <+: T) : ∀ i, i ≤ S.length → finN f S i = finN f T i
  | 0, _ => rfl
  | i + 1, hi => by
    obtain ⟨r, rfl⟩ := h
    have e : S.getD i 0 = (S ++ r).getD i 0 := by
      simp only [List.getD_eq_getElem?_getD]
      rw [List.getElem?_append_left (by omega)]
    unfold finN
    rw [← e, finN_pre f (List.prefix_append S r) i (by omega)]
section
variable {N K : Int} {all : List S31} {st : Int} {f : Nat} (hN0 : 1 ≤ N) (hN1 : N ≤ 7) (hK : 0 ≤ K ∧ K ≤ 3) (hl : all.length ≤ 60) (ho : okArcs N K all) (hf : f < 2 ^ N.toNat)
include hN0 hN1 hK hl ho hf
theorem p32 {x : Nat} (h : x < 2 ^ N.toNat) : x < 2 ^ 32 := Nat.lt_of_lt_of_le h (Nat.pow_le_pow_right (by omega) (by omega))
theorem sure_l0 {S : List Nat} (h : OkS N S) (h7 : S.length ≤ 7) (nx : List (List Int)) : Ev (fun k => net_Sure.l0 k (iN S) (S.length : Int) 0 N K all st (f : Int) (S.length : Int) K nx 0 0) ((S.length : Int), K, nx, 0, ((finN f S S.length : Nat) : Int), 0) := by
  refine Ev.loopc (σ := Int) (L := fun k i m => net_Sure.l0 k (iN S) (S.length : Int) i N K all st (f : Int) (S.length : Int) K nx 0 m) (n := (S.length : Int))
    (fun i m => m = ((finN f S i.toNat : Nat) : Int)) ?_ ?_ 0 0 (Int.le_refl _) (by omega) rfl
  · rintro m rfl
    refine Ev.step (fun k => net_Sure.l0.eq_2 _ _ _ _ _ _ _ _ _ _ _ _ _ k) ?_
    exact Ev.neg (by omega) (Ev.val (by rw [Int.toNat_natCast]))
  · rintro i m i0 i1 rfl hn
    have hlt := finN_lt f S i.toNat
    have h2 : 2 ^ i.toNat ≤ 2 ^ 7 := Nat.pow_le_pow_right (by omega) (by omega)
    have hg := p32 hN0 hN1 hK hl ho hf (h.get hN0 hN1 hK hl ho (show i.toNat < S.length by omega))
    have hf2 := p32 hN0 hN1 hK hl ho hf hf
    refine Ev.step (fun k => net_Sure.l0.eq_2 _ _ _ _ _ _ _ _ _ _ _ _ _ k) ?_
    rw [w64 (x := i + 1) (by omega) (by omega), rd_iN i0 i1, iN_len, u32_and _ _ hg hf2]
    refine Ev.pos i1 (Ev.pos i0 (Ev.pos i1 ?_))
    have e1 : (i + 1).toNat = i.toNat + 1 := by omega
    by_cases c : S.getD i.toNat 0 &&& f = 0
    · refine Ev.pos (by omega) (hn _ ?_)
      rw [e1]; show ((finN f S i.toNat : Nat) : Int) = ((if S.getD i.toNat 0 &&& f = 0 then finN f S i.toNat else 2 ^ i.toNat + finN f S i.toNat : Nat) : Int); rw [if_pos c]
    · refine Ev.neg (by omega) (hn _ ?_)
      have eb := bit_or (finN f S i.toNat) i.toNat (by omega) (by omega)
      rw [Int.toNat_of_nonneg i0] at eb
      rw [eb, e1]
      show ((finN f S i.toNat ||| 2 ^ i.toNat : Nat) : Int) = ((finN f S (i.toNat + 1) : Nat) : Int)
      have : finN f S (i.toNat + 1) = finN f S i.toNat ||| 2 ^ i.toNat := by
        show (if S.getD i.toNat 0 &&& f = 0 then finN f S i.toNat else 2 ^ i.toNat + finN f S i.toNat) = _
        rw [if_neg c]
        have := Nat.two_pow_add_eq_or_of_lt hlt 1
        rw [Nat.mul_one] at this
        rw [this, Nat.or_comm]
      rw [this]
def lead (N : Int) (all : List S31) (s0 : Nat) (w : List Int) : Nat := runN N.toNat all w s0
theorem lead_snoc (s0 : Nat) (w : List Int) (c : Int) : lead N all s0 (w ++ [c]) = toN N all (lead N all s0 w) c := by
  unfold lead
  induction w generalizing s0 with
  | nil => rfl
  | cons x w ih => exact ih _
theorem lead_lt {s0 : Nat} (h : s0 < 2 ^ N.toNat) : ∀ w : List Int, lead N all s0 w < 2 ^ N.toNat := by
  intro w
  unfold lead
  induction w generalizing s0 with
  | nil => exact h
  | cons x w ih => exact ih (to_lt hN0 hN1 hK hl ho _ _)
theorem leads_ev {s : Nat} (hs : s < 2 ^ N.toNat) (w : List Int) (hw : w.length ≤ 12) : Ev (fun k => coppicerref_NetLeads.f k N K all (s : Int) (f : Int) w) ((lead N all (cloN N.toNat all s) w : Nat) : Int) := by
  unfold coppicerref_NetLeads.f
  refine Ev.bind (rfree_ev N K all s f hN0 hN1 hl ho s hs) ?_
  have := leads_l0 N K all s f hN0 hN1 hl ho w hw w.length 0 (cloN N.toNat all s) (by omega) (by omega) (clo_lt N K all hN0 hN1 hl ho _ hs)
  exact this
theorem getD_map_lead (s0 : Nat) (W : List (List Int)) (i : Nat) (h : i < W.length) : (W.map (lead N all s0)).getD i 0 = lead N all s0 (rd_L3 W (i : Int)) := by
  simp only [List.getD_eq_getElem?_getD, List.getElem?_map, rd_L3, Int.toNat_natCast]
  rw [List.getElem?_eq_getElem h]; rfl
theorem rsure_ev {s : Nat} (hs : s < 2 ^ N.toNat) {i : Nat} {S Sf : List Nat} {nx nf : List (List Int)} (hb : Bfs N K all i S nx Sf nf) :
    ∀ W : List (List Int), S = W.map (lead N all (cloN N.toNat all s)) → (∀ j : Nat, j < W.length → (rd_L3 W (j : Int)).length ≤ j) → W.length ≤ 7 → i ≤ W.length → OkS N S → nx.length = i →
    Ev (fun k => coppicerref_Sure.l0 k W (i : Int) N K all (s : Int) (f : Int) 0 K nx 0 ((finN f S i : Nat) : Int)) (if Sf.length > 7 then (0, 0, [], 0, 0, false) else ((Sf.length : Int), K, nf, 0, ((finN f Sf Sf.length : Nat) : Int), true)) := by
  induction hb with
  | done i S nx h =>
    rintro W rfl hW h7 hi hS hx
    rw [List.length_map] at h ⊢
    refine Ev.step (fun k => coppicerref_Sure.l0.eq_2 _ _ _ _ _ _ _ _ _ _ _ _ k) ?_
    obtain rfl : i = W.length := by omega
    exact Ev.neg (by omega) (Ev.val (by rw [if_neg (by omega)]))
  | step i S nx Sf nf h hb ih =>
    rintro W rfl hW h7 hi hS hx
    rw [List.length_map] at h
    have hmore := (bfs_pre N K all hb).length_le
    refine Ev.step (fun k => coppicerref_Sure.l0.eq_2 _ _ _ _ _ _ _ _ _ _ _ _ k) ?_
    refine Ev.pos (by omega) ?_
    refine Ev.loopc (σ := List (List Int) × List Int) (L := fun k c p => coppicerref_Sure.l1 k p.1 (i : Int) p.2 c N K all (s : Int) (f : Int) 0 K nx 0 ((finN f (W.map (lead N all (cloN N.toNat all s))) i : Nat) : Int)) (n := K)
      (fun c p => (p.1.map (lead N all (cloN N.toNat all s)), p.2) = rowN N all i (W.map (lead N all (cloN N.toNat all s))) c.toNat ∧ W <+: p.1 ∧ (∀ j : Nat, j < p.1.length → (rd_L3 p.1 (j : Int)).length ≤ j) ∧ (p.1.length : Int) ≤ W.length + c) ?_ ?_ 0 (W, []) (Int.le_refl _) hK.1 ⟨rfl, List.prefix_refl _, hW, by simp⟩
    · rintro ⟨W', l⟩ ⟨e, hp, hj, hlen⟩
      dsimp only at e hp hj hlen ⊢
      have hp' := hp.length_le
      have e1 : W'.map (lead N all (cloN N.toNat all s)) = (rowN N all i (W.map (lead N all (cloN N.toNat all s))) K.toNat).1 := congrArg Prod.fst e
      have e2 : l = (rowN N all i (W.map (lead N all (cloN N.toNat all s))) K.toNat).2 := congrArg Prod.snd e
      have el : W'.length = (rowN N all i (W.map (lead N all (cloN N.toNat all s))) K.toNat).1.length := by rw [← e1, List.length_map]
      refine Ev.step (fun k => coppicerref_Sure.l1.eq_2 _ _ _ _ _ _ _ _ _ _ _ _ _ _ k) ?_
      refine Ev.neg (by omega) (Ev.pos (by omega) ?_)
      simp only [Option.bind_some]
      by_cases c7 : (W'.length : Int) > 7
      · exact Ev.pos c7 (Ev.val (by rw [if_pos (by omega)]))
      refine Ev.neg c7 (Ev.pos (by omega) (Ev.pos (show (i : Int) < (W'.length : Int) by omega) ?_))
      have hrow := rowN_ok hN0 hN1 hK hl ho (i := i) hS K.toNat
      have hij := hj i (by omega)
      refine Ev.bind (leads_ev hN0 hN1 hK hl ho hf hs _ (by omega)) ?_
      have hL := lead_lt hN0 hN1 hK hl ho hf (clo_lt N K all hN0 hN1 hl ho _ hs) (rd_L3 W' (i : Int))
      have hL2 := p32 hN0 hN1 hK hl ho hf hL
      have hf2 := p32 hN0 hN1 hK hl ho hf hf
      rw [u32_and _ _ hL2 hf2, u64_id (x := (i : Int)) (by omega) (by omega), w64 (x := (i : Int) + 1) (by omega) (by omega)]
      have eS : finN f (W.map (lead N all (cloN N.toNat all s))) i = finN f (W'.map (lead N all (cloN N.toNat all s))) i := finN_pre f (by rw [e1]; exact rowN_pre N all i _ _) i (by rw [List.length_map]; omega)
      have eg := getD_map_lead hN0 hN1 hK hl ho hf (cloN N.toNat all s) W' i (by omega)
      have nxt : Ev (fun k => coppicerref_Sure.l0 k W' ((i : Int) + 1) N K all (s : Int) (f : Int) 0 K (nx ++ [l]) 0 ((finN f (W'.map (lead N all (cloN N.toNat all s))) (i + 1) : Nat) : Int)) (if Sf.length > 7 then (0, 0, [], 0, 0, false) else ((Sf.length : Int), K, nf, 0, ((finN f Sf Sf.length : Nat) : Int), true)) := by
        have q := ih W' e1.symm hj (by omega) (by omega) hrow
        rw [← e1, ← e2] at q
        exact q (by rw [List.length_append, hx]; rfl)
      have hlt := finN_lt f (W'.map (lead N all (cloN N.toNat all s))) i
      have h2 : 2 ^ i ≤ 2 ^ 7 := Nat.pow_le_pow_right (by omega) (by omega)
      rw [eS]
      by_cases c : lead N all (cloN N.toNat all s) (rd_L3 W' (i : Int)) &&& f = 0
      · refine Ev.pos (by omega) ?_
        have : finN f (W'.map (lead N all (cloN N.toNat all s))) (i + 1) = finN f (W'.map (lead N all (cloN N.toNat all s))) i := by
          show (if (W'.map (lead N all (cloN N.toNat all s))).getD i 0 &&& f = 0 then finN f (W'.map (lead N all (cloN N.toNat all s))) i else 2 ^ i + finN f (W'.map (lead N all (cloN N.toNat all s))) i) = _
          rw [eg, if_pos c]
        rw [this] at nxt; exact nxt
      · refine Ev.neg (by omega) (Ev.pos (by omega) ?_)
        have : finN f (W'.map (lead N all (cloN N.toNat all s))) (i + 1) = 2 ^ i + finN f (W'.map (lead N all (cloN N.toNat all s))) i := by
          show (if (W'.map (lead N all (cloN N.toNat all s))).getD i 0 &&& f = 0 then finN f (W'.map (lead N all (cloN N.toNat all s))) i else 2 ^ i + finN f (W'.map (lead N all (cloN N.toNat all s))) i) = _
          rw [eg, if_neg c]
        rw [this] at nxt
        rw [shl1 i (by omega)]
        have e3 : (((finN f (W'.map (lead N all (cloN N.toNat all s))) i : Nat) : Int) + ((2 ^ i : Nat) : Int)) % 4294967296 = ((2 ^ i + finN f (W'.map (lead N all (cloN N.toNat all s))) i : Nat) : Int) := by
          generalize finN f (W'.map (lead N all (cloN N.toNat all s))) i = a at hlt
          generalize 2 ^ i = b at hlt h2
          omega
        rw [e3]; exact nxt
    · rintro c ⟨W', l⟩ c0 c1 ⟨e, hp, hj, hlen⟩ hn
      dsimp only at e hp hj hlen ⊢
      have hp' := hp.length_le
      have e1 : W'.map (lead N all (cloN N.toNat all s)) = (rowN N all i (W.map (lead N all (cloN N.toNat all s))) c.toNat).1 := congrArg Prod.fst e
      have e2 : l = (rowN N all i (W.map (lead N all (cloN N.toNat all s))) c.toNat).2 := congrArg Prod.snd e
      have hll : l.length = c.toNat := by rw [e2]; exact rowN_len N all i _ _
      have hij := hj i (by omega)
      have eg := getD_map_lead hN0 hN1 hK hl ho hf (cloN N.toNat all s) W' i (by omega)
      have ec : (c + 1).toNat = c.toNat + 1 := by omega
      have ec2 : ((c.toNat : Nat) : Int) = c := by omega
      have er : rowN N all i (W.map (lead N all (cloN N.toNat all s))) (c + 1).toNat = addN N all i (W'.map (lead N all (cloN N.toNat all s)), l) c := by
        rw [ec]
        show addN N all i (rowN N all i (W.map (lead N all (cloN N.toNat all s))) c.toNat) ((c.toNat : Nat) : Int) = _
        rw [← e, ec2]
      have et : toN N all ((W'.map (lead N all (cloN N.toNat all s))).getD i 0) c = lead N all (cloN N.toNat all s) (rd_L3 W' (i : Int) ++ [c]) := by rw [eg, lead_snoc hN0 hN1 hK hl ho hf]
      have wl : (rd_L3 W' (i : Int) ++ [c]).length ≤ i + 1 := by rw [List.length_append]; simp; omega
      refine Ev.step (fun k => coppicerref_Sure.l1.eq_2 _ _ _ _ _ _ _ _ _ _ _ _ _ _ k) ?_
      refine Ev.pos c1 ?_
      simp only [Option.bind_some, List.nil_append, List.length_nil]
      refine Ev.pos (by omega) (Ev.pos (show (i : Int) < (W'.length : Int) by omega) (Ev.pos (by omega) (Ev.pos (by omega) ?_)))
      refine Ev.bind (leads_ev hN0 hN1 hK hl ho hf hs _ (by omega)) ?_
      obtain ⟨T, hT⟩ : ∃ T, T = lead N all (cloN N.toNat all s) (rd_L3 W' (i : Int) ++ [c]) := ⟨_, rfl⟩
      obtain ⟨w, hw⟩ : ∃ w, w = rd_L3 W' (i : Int) ++ [c] := ⟨_, rfl⟩
      rw [← hT, ← hw]
      rw [← hw] at hT wl
      rw [← hw, ← hT] at et
      obtain ⟨X, hX⟩ : ∃ X, X = W'.map (lead N all (cloN N.toNat all s)) := ⟨_, rfl⟩
      rw [← hX] at et
      have lX : X.length = W'.length := by rw [hX, List.length_map]
      have gX : ∀ j : Nat, j < W'.length → X.getD j 0 = lead N all (cloN N.toNat all s) (rd_L3 W' (j : Int)) := by
        intro j hj2; rw [hX]; exact getD_map_lead hN0 hN1 hK hl ho hf _ W' j hj2
      refine Ev.loopc (σ := Int) (L := fun k j a => coppicerref_Sure.l2 k W' (i : Int) l c w ((T : Nat) : Int) a (W'.length : Int) j N K all (s : Int) (f : Int) 0 K nx 0 ((finN f (W.map (lead N all (cloN N.toNat all s))) i : Nat) : Int)) (n := (W'.length : Int))
        (fun j a => (a = -1 ∧ ∀ q : Nat, (q : Int) < j → q < X.length → X.getD q 0 ≠ T) ∨ (a = ((X.idxOf T : Nat) : Int) ∧ T ∈ X)) ?_ ?_ 0 (-1) (Int.le_refl _) (by omega) (.inl ⟨rfl, fun q a b => by omega⟩)
      · rintro a ha
        refine Ev.step (fun k => coppicerref_Sure.l2.eq_2 _ _ _ _ _ _ _ _ _ _ _ _ _ _ _ _ _ _ _ k) ?_
        rw [w64 (x := c + 1) (by omega) (by omega)]
        refine Ev.neg (by omega) ?_
        rcases ha with ⟨rfl, ha⟩ | ⟨rfl, ha⟩
        · have hm : T ∉ X := by
            intro hm
            obtain ⟨q, hq, e⟩ := List.getElem_of_mem hm
            exact ha q (by omega) hq (by rw [List.getD_eq_getElem?_getD, List.getElem?_eq_getElem hq]; exact e)
          refine Ev.pos (by omega) (Ev.pos (by omega) (Ev.pos (by omega) (hn (W' ++ [w], l ++ [(W'.length : Int)]) ⟨?_, ?_, ?_, ?_⟩)))
          · rw [er]; unfold addN
            simp only
            rw [← hX, et, if_neg hm, List.idxOf_eq_length hm, lX, List.map_append, ← hX, hT]; rfl
          · exact hp.trans (List.prefix_append _ _)
          · intro j hj2
            by_cases e : j < W'.length
            · have : rd_L3 (W' ++ [w]) (j : Int) = rd_L3 W' (j : Int) := by
                simp only [rd_L3, List.getD_eq_getElem?_getD, Int.toNat_natCast]
                rw [List.getElem?_append_left e]
              rw [this]; exact hj j e
            · rw [List.length_append] at hj2; simp at hj2
              obtain rfl : j = W'.length := by omega
              have : rd_L3 (W' ++ [w]) (W'.length : Int) = w := by
                simp [rd_L3, List.getD_eq_getElem?_getD]
              rw [this]; omega
          · rw [List.length_append]; simp; omega
        · refine Ev.neg (by omega) (Ev.pos (by omega) (hn (W', l ++ [((X.idxOf T : Nat) : Int)]) ⟨?_, hp, hj, by dsimp only; omega⟩))
          rw [er]; unfold addN
          simp only
          rw [← hX, et, if_pos ha]
      · rintro j a j0 j1 ha hn2
        have hjj := hj j.toNat (by omega)
        rw [Int.toNat_of_nonneg j0] at hjj
        refine Ev.step (fun k => coppicerref_Sure.l2.eq_2 _ _ _ _ _ _ _ _ _ _ _ _ _ _ _ _ _ _ _ k) ?_
        rw [w64 (x := j + 1) (by omega) (by omega)]
        refine Ev.pos j1 (Ev.pos j0 (Ev.pos j1 ?_))
        rcases ha with ⟨rfl, ha⟩ | ⟨rfl, ha⟩
        · refine Ev.pos (by omega) ?_
          refine Ev.bind (leads_ev hN0 hN1 hK hl ho hf hs _ (by omega)) ?_
          have g := gX j.toNat (by omega)
          rw [Int.toNat_of_nonneg j0] at g
          rw [← g]
          have g2 : X.getD j.toNat 0 = X[j.toNat]'(by omega) := by rw [List.getD_eq_getElem?_getD, List.getElem?_eq_getElem (by omega)]; rfl
          by_cases q : ((X.getD j.toNat 0 : Nat) : Int) = ((T : Nat) : Int)
          · refine Ev.pos q (hn2 j (.inr ?_))
            have c' : X[j.toNat]'(by omega) = T := by rw [← g2]; omega
            have hm : T ∈ X := by rw [← c']; exact List.getElem_mem _
            refine ⟨?_, hm⟩
            have e : X.idxOf T = j.toNat := by
              apply Nat.le_antisymm
              · apply Nat.le_of_not_lt; intro hlt
                have := List.not_of_lt_findIdx (xs := X) (p := (· == T)) hlt
                simp [c'] at this
              · apply Nat.le_of_not_lt; intro hlt
                have hi := List.idxOf_lt_length_iff.2 hm
                refine ha (X.idxOf T) (by omega) hi ?_
                rw [List.getD_eq_getElem?_getD, List.getElem?_eq_getElem hi]
                exact List.getElem_idxOf hi
            rw [e]; omega
          · refine Ev.neg q (hn2 (-1) (.inl ⟨rfl, ?_⟩))
            intro r hr hr2
            by_cases e : (r : Int) = j
            · have : r = j.toNat := by omega
              subst this; intro q2; exact q (by omega)
            · exact ha r (by omega) hr2
        · exact Ev.neg (by omega) (hn2 _ (.inr ⟨rfl, ha⟩))
end
theorem NetSures : coppicerlaw_NetSures.Pure := by
  unfold coppicerlaw_NetSures.Pure
  intro N K l s f
  intros
  have hs : 0 ≤ s ∧ s ≤ 4294967295 := wf_u32 ‹_›
  have hf : 0 ≤ f ∧ f ≤ 4294967295 := wf_u32 ‹_›
  apply Ev.rounds
  unfold coppicerlaw_NetSures.f
  have c1 := netCheck_ev N K l s f hs.1 hs.2 hf.1 hf.2
  have c2 := netRef_ev N K l s f
  by_cases c : netCode N K l s f = 0
  · have hK : 0 ≤ K ∧ K ≤ 3 := by
      have q := c
      unfold netCode at q
      by_cases p : N < 1 ∨ N > 7 ∨ K < 1 ∨ K > 3 ∨ (l.length : Int) > 60
      · rw [if_pos p] at q; omega
      · omega
    obtain ⟨n0, n1, n2, n3, n4, n5⟩ := netCode_0 c
    rw [c] at c1 c2
    obtain ⟨s, rfl⟩ := Int.eq_ofNat_of_zero_le hs.1
    obtain ⟨f, rfl⟩ := Int.eq_ofNat_of_zero_le hf.1
    have e2 : ((2 : Int) ^ N.toNat) = ((2 ^ N.toNat : Nat) : Int) := by simp
    have s2 : s < 2 ^ N.toNat := by rw [e2] at n4; omega
    have f2 : f < 2 ^ N.toNat := by rw [e2] at n5; omega
    have cl := clo_lt N K l n0 n1 n2 n3 s s2
    have ok0 : OkS N [cloN N.toNat l s] := ⟨by simp, by intro x hx; rw [List.mem_singleton] at hx; subst hx; exact cl⟩
    have es : EvP (fun k => net_Sets.f k N K l (s : Int) (f : Int)) (fun r => ∃ Sf nf, Bfs N K l 0 [cloN N.toNat l s] [] Sf nf ∧ OkS N Sf ∧ r = (iN Sf, nf)) := by
      unfold net_Sets.f
      refine EvP.bind (free_ev N K l s f n0 n1 n2 n3 s s2) ?_
      exact sets_ev n0 n1 hK n2 n3 128 0 [cloN N.toNat l s] [] ok0 rfl (by omega) (by simp) (by simp)
    have e1 : EvP (fun k => net_Sure.f k N K l (s : Int) (f : Int)) (fun r => ∃ Sf nf, Bfs N K l 0 [cloN N.toNat l s] [] Sf nf ∧ OkS N Sf ∧ r = if Sf.length > 7 then (0, 0, [], 0, 0, 1) else ((Sf.length : Int), K, nf, 0, ((finN f Sf Sf.length : Nat) : Int), 0)) := by
      unfold net_Sure.f
      refine EvP.bind c1 (EvP.pos rfl (EvP.bindP es ?_))
      rintro _ ⟨Sf, nf, b, o, rfl⟩
      by_cases h7 : Sf.length > 7
      · exact EvP.pos (show ((iN Sf).length : Int) > 7 by rw [iN_len]; omega) (EvP.now ⟨Sf, nf, b, o, by rw [if_pos h7]⟩)
      · refine EvP.neg (show ¬ ((iN Sf).length : Int) > 7 by rw [iN_len]; omega) ?_
        refine EvP.of ⟨Sf, nf, b, o, rfl⟩ ?_
        rw [if_neg h7]
        show Ev (fun k => net_Sure.l0 k (iN Sf) ((iN Sf).length : Int) 0 N K l (s : Int) (f : Int) ((iN Sf).length : Int) K nf 0 0) _
        rw [iN_len]
        exact sure_l0 n0 n1 hK n2 n3 f2 o (by omega) nf
    refine EvP.ev e1 ?_
    rintro _ ⟨Sf, nf, b, o, rfl⟩
    have e3 : Ev (fun k => coppicerref_Sure.f k N K l (s : Int) (f : Int)) (if Sf.length > 7 then (0, 0, [], 0, 0, false) else ((Sf.length : Int), K, nf, 0, ((finN f Sf Sf.length : Nat) : Int), true)) := by
      unfold coppicerref_Sure.f
      exact rsure_ev n0 n1 hK n2 n3 f2 s2 b [[]] rfl (by intro j hj; simp at hj; subst hj; simp [rd_L3]) (by simp) (by simp) ok0 (by simp)
    have hrows := bfs_row N K l b rfl (by simp)
    refine Ev.bind c2 (Ev.pos rfl (Ev.bind e3 ?_))
    by_cases h7 : Sf.length > 7
    · simp only [if_pos h7]
      exact Ev.neg (by simp) (Ev.pos (by trivial) (Ev.bind Zero_ev (Ev.now _)))
    · simp only [if_neg h7]
      refine Ev.pos (by trivial) (Ev.pos (by trivial) (Ev.bind (Same_refl _ _ _ _ _ (by omega) ?_) (Ev.now _)))
      intro x hx
      have := hrows.2 (by simp) x hx
      omega
  · have e1 : Ev (fun k => net_Sure.f k N K l s f) (0, 0, [], 0, 0, netCode N K l s f) := by
      unfold net_Sure.f
      exact Ev.bind c1 (Ev.neg c (Ev.now _))
    exact Ev.bind e1 (Ev.bind c2 (Ev.neg c (Ev.pos rfl (Ev.bind Zero_ev (Ev.now _)))))

end Go.Proofs.Ytidjihmlkaeemaa.Pure
