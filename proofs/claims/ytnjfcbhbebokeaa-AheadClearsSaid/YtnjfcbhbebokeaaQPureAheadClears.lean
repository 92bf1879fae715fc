-- Printed by a turn of a template of the kit, and shortened: remarks and what nothing here uses are left out.
import Derived.Laws.BitsAllLaws
import Derived.Test.YtnjfcbhbebokeaaQStatAheadClears
set_option linter.unusedVariables false
set_option linter.unusedSimpArgs false
set_option linter.unusedSectionVars false
namespace Go.Proofs.Ytnjfcbhbebokeaa.Pure
open Go.RowKit Go.Proofs.Ytnjfcbhbebokeaa.PAheadClears Go.Proofs.YtnjfcbhbebokeaaW.PrintWords Go.Proofs.YtnjfcbhbebokeaaW.PrintLast Go.Proofs.YtnjfcbhbebokeaaW.PrintMore
theorem w64 {x : Int} (h0 : -9223372036854775808 ≤ x) (h1 : x ≤ 9223372036854775807) : wrap64 x = x := by unfold wrap64; omega
theorem Ev.pos {α : Type} {c : Prop} [Decidable c] {g f : Nat → Option α} {r : α} (h : c) (e : Ev g r) : Ev (fun k => if c then g k else f k) r := Ev.congr (fun k => by rw [if_pos h]) e
theorem Ev.neg {α : Type} {c : Prop} [Decidable c] {g f : Nat → Option α} {r : α} (h : ¬ c) (e : Ev f r) : Ev (fun k => if c then g k else f k) r := Ev.congr (fun k => by rw [if_neg h]) e
theorem Ev.val {α : Type} {r q : α} (h : r = q) : Ev (fun _ => some r) q := by subst h; exact Ev.now r
theorem rd_getElem {l : List Int} {i : Int} (h1 : i.toNat < l.length) : rd l i = l[i.toNat] := by simp [rd, List.getD_eq_getElem?_getD, List.getElem?_eq_getElem h1]
theorem drop_rd {l : List Int} {i : Int} (h0 : 0 ≤ i) (h1 : i < l.length) : l.drop i.toNat = rd l i :: l.drop (i + 1).toNat := by
  have h : i.toNat < l.length := by omega
  rw [rd_getElem h, List.drop_eq_getElem_cons h]; congr 2; omega
theorem take_rd {l : List Int} {i : Int} (h0 : 0 ≤ i) (h1 : i < l.length) : l.take (i + 1).toNat = l.take i.toNat ++ [rd l i] := by
  have h : i.toNat < l.length := by omega
  have e : (i + 1).toNat = i.toNat + 1 := by omega
  rw [rd_getElem h, e, List.take_succ_eq_append_getElem h]
theorem rd_mem {l : List Int} {i : Int} (h0 : 0 ≤ i) (h1 : i < l.length) : rd l i ∈ l := by
  rw [rd_getElem (by omega)]; exact List.getElem_mem _
theorem u32_id {x : Int} (h0 : 0 ≤ x) (h1 : x ≤ 4294967295) : IntKind.u32.wrap x = x := by rw [IntKind.wrap_u32]; omega
theorem u64_id {x : Int} (h0 : 0 ≤ x) (h1 : x ≤ 18446744073709551615) : IntKind.u64.wrap x = x := by simp [IntKind.wrap, IntKind.bits, IntKind.signed]; omega
theorem u32_or (a b : Nat) (ha : a < 2 ^ 32) (hb : b < 2 ^ 32) : Go.bits .or .u32 a b = ((a ||| b : Nat) : Int) :=
  (bits_nat .u32 32 (by decide) (fun n h0 h1 => u32_id h0 (by omega)) a b ha hb).2
theorem u32_and (a b : Nat) (ha : a < 2 ^ 32) (hb : b < 2 ^ 32) : Go.bits .and .u32 a b = ((a &&& b : Nat) : Int) :=
  (bits_nat .u32 32 (by decide) (fun n h0 h1 => u32_id h0 (by omega)) a b ha hb).1
theorem shl1 (n : Nat) (h : n < 32) : shl .u32 1 (n : Int) = ((2 ^ n : Nat) : Int) := by
  unfold shl
  have e : min ((n : Int)).toNat IntKind.u32.bits = n := by simp [IntKind.bits]; omega
  have h2 : 2 ^ n ≤ 2 ^ 31 := Nat.pow_le_pow_right (by omega) (by omega)
  rw [e, Int.one_mul, u32_id (by exact_mod_cast Nat.zero_le _) (by have : ((2 ^ n : Nat) : Int) ≤ 2 ^ 31 := by exact_mod_cast h2
                                                                   have e2 : ((2 : Int) ^ n) = ((2 ^ n : Nat) : Int) := by simp
                                                                   omega)]
  simp
theorem shrn (a n : Nat) (h : n < 32) : shr .u32 (a : Int) (n : Int) = ((a / 2 ^ n : Nat) : Int) := by
  unfold shr
  have e : min ((n : Int)).toNat IntKind.u32.bits = n := by simp [IntKind.bits]; omega
  rw [e]; simp
theorem bit_shr (a i : Nat) (ha : a < 2 ^ 32) (hi : i < 32) : (Go.bits .and .u32 (shr .u32 (a : Int) (i : Int)) 1 = 1) ↔ a.testBit i = true := by
  rw [shrn a i hi]
  have h1 : a / 2 ^ i < 2 ^ 32 := Nat.lt_of_le_of_lt (Nat.div_le_self _ _) ha
  have h2 := u32_and (a / 2 ^ i) 1 h1 (by decide)
  have h3 : ((1 : Nat) : Int) = 1 := rfl
  rw [h3] at h2
  rw [h2, Nat.and_one_is_mod, Nat.testBit_eq_decide_div_mod_eq]
  simp only [decide_eq_true_eq]; omega
theorem bit_and (a i : Nat) (ha : a < 2 ^ 32) (hi : i < 32) : (Go.bits .and .u32 (a : Int) (shl .u32 1 (i : Int)) != 0) = a.testBit i := by
  have h0 : 2 ^ i < 2 ^ 32 := Nat.pow_lt_pow_right (by omega) hi
  rw [shl1 i hi, u32_and a (2 ^ i) ha h0]
  cases h : a.testBit i with
  | true =>
    have : a &&& 2 ^ i ≠ 0 := fun e => by
      have q := congrArg (fun x => Nat.testBit x i) e
      simp [Nat.testBit_and, Nat.testBit_two_pow_self, h] at q
    simp; omega
  | false =>
    have : a &&& 2 ^ i = 0 := by
      apply Nat.eq_of_testBit_eq
      intro j
      by_cases e : i = j
      · subst e; simp [Nat.testBit_and, h]
      · simp [Nat.testBit_and, Nat.testBit_two_pow, e]
    rw [this]; rfl
theorem bit_or (a i : Nat) (ha : a < 2 ^ 32) (hi : i < 32) : Go.bits .or .u32 (a : Int) (shl .u32 1 (i : Int)) = ((a ||| 2 ^ i : Nat) : Int) := by
  have h0 : 2 ^ i < 2 ^ 32 := Nat.pow_lt_pow_right (by omega) hi
  rw [shl1 i hi, u32_or a (2 ^ i) ha h0]
def cnt : Nat → Nat → Nat
  | 0, _ => 0
  | n + 1, s => cnt n s + (s.testBit n).toNat
theorem cnt_le : ∀ n s, cnt n s ≤ n
  | 0, _ => Nat.le_refl _
  | n + 1, s => by
    have := cnt_le n s
    unfold cnt
    cases s.testBit n <;> simp <;> omega
theorem cnt_mono (s t : Nat) (h : ∀ i, s.testBit i = true → t.testBit i = true) : ∀ n, cnt n s ≤ cnt n t
  | 0 => Nat.le_refl _
  | n + 1 => by
    have := cnt_mono s t h n
    have h1 := h n
    unfold cnt
    cases q : s.testBit n
    · simp; omega
    · rw [h1 q]; simp; omega
theorem cnt_lt (s t : Nat) (h : ∀ i, s.testBit i = true → t.testBit i = true) (i : Nat) (hs : s.testBit i = false) (ht : t.testBit i = true) : ∀ n, i < n → cnt n s < cnt n t
  | 0, hi => by omega
  | n + 1, hi => by
    have h1 := h n
    have h2 := cnt_mono s t h n
    unfold cnt
    by_cases e : i = n
    · subst e; rw [hs, ht]; simp; omega
    · have := cnt_lt s t h i hs ht n (by omega)
      cases q : s.testBit n
      · simp; omega
      · rw [h1 q]; simp; omega
def rep (P : Nat → Nat) : Nat → Nat → Nat
  | 0, s => s
  | n + 1, s => rep P n (P s)
theorem rep_succ (P : Nat → Nat) : ∀ n s, rep P (n + 1) s = P (rep P n s)
  | 0, _ => rfl
  | n + 1, s => by
    show rep P (n + 1) (P s) = P (rep P n (P s))
    exact rep_succ P n (P s)
theorem rep_lt (P : Nat → Nat) (b : Nat) (h : ∀ s, s < b → P s < b) : ∀ n s, s < b → rep P n s < b
  | 0, _, hs => hs
  | n + 1, s, hs => rep_lt P b h n (P s) (h s hs)
theorem anyO_some {α : Type} (p : α → Bool) : ∀ l : List α, anyO (fun x => some (p x)) l = some (l.any p)
  | [] => rfl
  | x :: l => by
    unfold anyO
    rw [Option.bind_some, anyO_some p l, List.any_cons]
    cases p x <;> simp
theorem anyO_of {α : Type} {f : α → Option Bool} {p : α → Bool} {l : List α} (h : ∀ x ∈ l, f x = some (p x)) : anyO f l = some (l.any p) := by
  induction l with
  | nil => rfl
  | cons x l ih =>
    unfold anyO
    rw [h x (by simp), Option.bind_some, ih (fun y hy => h y (by simp [hy])), List.any_cons]
    cases p x <;> simp
theorem Ev.loop {σ ρ : Type} {L : Nat → Int → σ → Option ρ} {n : Int} {r : ρ} (I : Int → σ → Prop)
    (hend : ∀ s, I n s → Ev (fun k => L k n s) r)
    (hstep : ∀ i s, 0 ≤ i → i < n → I i s → Ev (fun k => L k i s) r ∨ ∃ s', I (i + 1) s' ∧ (Ev (fun k => L k (i + 1) s') r → Ev (fun k => L k i s) r)) :
    ∀ (i : Int) (s : σ), 0 ≤ i → i ≤ n → I i s → Ev (fun k => L k i s) r := by
  have key : ∀ (d : Nat) (i : Int) (s : σ), 0 ≤ i → i + d = n → I i s → Ev (fun k => L k i s) r := by
    intro d
    induction d with
    | zero => intro i s h0 h1 hI; obtain rfl : i = n := by omega
              exact hend s hI
    | succ d ih =>
      intro i s h0 h1 hI
      rcases hstep i s h0 (by omega) hI with h | ⟨s', h', h⟩
      · exact h
      · exact h (ih (i + 1) s' (by omega) (by omega) h')
  intro i s h0 h1 hI
  exact key (n - i).toNat i s h0 (by omega) hI
theorem Ev.firstBad {α ρ : Type} {L : Nat → Int → Option ρ} {l : List α} {rdf : Int → α} {bad : α → Bool} {c fin : ρ}
    (hrd : ∀ i : Int, 0 ≤ i → i < l.length → l.drop i.toNat = rdf i :: l.drop (i + 1).toNat)
    (hend : l.any bad = false → Ev (fun k => L k l.length) fin)
    (hbad : ∀ i : Int, 0 ≤ i → i < l.length → bad (rdf i) = true → Ev (fun k => L k i) c)
    (hgood : ∀ (i : Int) (r : ρ), 0 ≤ i → i < l.length → bad (rdf i) = false → Ev (fun k => L k (i + 1)) r → Ev (fun k => L k i) r) :
    Ev (fun k => L k 0) (if l.any bad = true then c else fin) := by
  refine Ev.loop (σ := Unit) (L := fun k i _ => L k i) (n := l.length) (fun i _ => l.any bad = (l.drop i.toNat).any bad) ?_ ?_ 0 () (Int.le_refl _) (by omega) rfl
  · intro _ h
    rw [Int.toNat_natCast, List.drop_length] at h
    have h : l.any bad = false := h
    rw [h]; exact hend h
  · intro i _ h0 h1 h
    rw [hrd i h0 h1, List.any_cons] at h
    cases hb : bad (rdf i) with
    | true => left; rw [h, hb]; exact hbad i h0 h1 hb
    | false => right; refine ⟨(), by rw [h, hb]; rfl, hgood i _ h0 h1 hb⟩
theorem rd_cons {l : List Int} {i : Int} (h0 : 0 ≤ i) (h1 : i < l.length) : l.drop i.toNat = rd l i :: l.drop (i + 1).toNat := drop_rd h0 h1
def maskB (p : Nat → Bool) : Nat → Nat
  | 0 => 0
  | n + 1 => maskB p n + (if p n = true then 2 ^ n else 0)
theorem maskB_succ (p : Nat → Bool) (n : Nat) : maskB p (n + 1) = maskB p n + (if p n = true then 2 ^ n else 0) := rfl
theorem maskB_lt (p : Nat → Bool) : ∀ n, maskB p n < 2 ^ n
  | 0 => by simp [maskB]
  | n + 1 => by
    have := maskB_lt p n
    have e : 2 ^ (n + 1) = 2 ^ n + 2 ^ n := by rw [Nat.pow_succ]; omega
    unfold maskB
    split <;> omega
theorem maskB_bit (p : Nat → Bool) (i : Nat) : ∀ n, (maskB p n).testBit i = (decide (i < n) && p i)
  | 0 => by simp [maskB]
  | n + 1 => by
    have h := maskB_bit p i n
    have hl := maskB_lt p n
    unfold maskB
    cases hp : p n with
    | false =>
      simp only [Bool.false_eq_true, if_false, Nat.add_zero, h]
      by_cases e : i = n
      · subst e; simp [hp]
      · have : decide (i < n) = decide (i < n + 1) := by congr 1; apply propext; omega
        rw [this]
    | true =>
      simp only [if_true]
      have e2 := Nat.two_pow_add_eq_or_of_lt hl 1
      rw [Nat.mul_one] at e2
      rw [Nat.add_comm, e2, Nat.testBit_or, Nat.testBit_two_pow, h]
      by_cases e : i = n
      · subst e; simp [hp]
      · have : decide (i < n) = decide (i < n + 1) := by congr 1; apply propext; omega
        rw [this]; simp [show ¬ n = i from fun q => e q.symm]
theorem bit_shr0 (a i : Nat) (ha : a < 2 ^ 32) (hi : i < 32) : (Go.bits .and .u32 (shr .u32 (a : Int) (i : Int)) 1 == 0) = !a.testBit i := by
  rw [shrn a i hi]
  have h1 : a / 2 ^ i < 2 ^ 32 := Nat.lt_of_le_of_lt (Nat.div_le_self _ _) ha
  have h2 := u32_and (a / 2 ^ i) 1 h1 (by decide)
  have h3 : ((1 : Nat) : Int) = 1 := rfl
  rw [h3] at h2
  rw [h2, Nat.and_one_is_mod, Nat.testBit_eq_decide_div_mod_eq]
  rcases Nat.mod_two_eq_zero_or_one (a / 2 ^ i) with h | h <;> rw [h] <;> rfl
def cntP (p : Nat → Bool) : Nat → Nat
  | 0 => 0
  | n + 1 => cntP p n + (p n).toNat
theorem cntP_le (p : Nat → Bool) : ∀ n, cntP p n ≤ n
  | 0 => Nat.le_refl _
  | n + 1 => by have := cntP_le p n; unfold cntP; cases p n <;> simp <;> omega
theorem cntP_mono {p q : Nat → Bool} : ∀ n, (∀ i, i < n → p i = true → q i = true) → cntP p n ≤ cntP q n
  | 0, _ => Nat.le_refl _
  | n + 1, h => by
    have := cntP_mono n (fun i hi => h i (by omega))
    have h1 := h n (by omega)
    unfold cntP
    cases e : p n
    · simp; omega
    · rw [h1 e]; simp; omega
theorem cntP_eq {p q : Nat → Bool} : ∀ n, (∀ i, i < n → p i = true → q i = true) → cntP q n ≤ cntP p n → ∀ i, i < n → q i = p i
  | 0, _, _, i, hi => by omega
  | n + 1, h, hc, i, hi => by
    have hm := cntP_mono n (fun i hi => h i (by omega))
    have h1 := h n (by omega)
    unfold cntP at hc
    have hn : q n = p n := by
      cases e : p n
      · cases e2 : q n
        · rfl
        · rw [e, e2] at hc; simp at hc; omega
      · exact h1 e
    rw [hn] at hc
    by_cases e : i = n
    · subst e; exact hn
    · exact cntP_eq n (fun i hi => h i (by omega)) (by omega) i (by omega)
theorem chain_stop (n : Nat) (p : Nat → Nat → Bool) (mono : ∀ d i, i < n → p d i = true → p (d + 1) i = true)
    (stab : ∀ d, (∀ i, i < n → p (d + 1) i = p d i) → ∀ i, i < n → p (d + 2) i = p (d + 1) i) : ∀ i, i < n → p (n + 1) i = p n i := by
  have key : ∀ d, d ≤ cntP (p d) n ∨ ∀ i, i < n → p (d + 1) i = p d i := by
    intro d
    induction d with
    | zero => exact .inl (Nat.zero_le _)
    | succ d ih =>
      rcases ih with ih | ih
      · by_cases h : cntP (p (d + 1)) n ≤ cntP (p d) n
        · exact .inr (stab d (cntP_eq n (mono d) h))
        · exact .inl (by omega)
      · exact .inr (stab d ih)
  rcases key (n + 1) with h | h
  · have := cntP_le (p (n + 1)) n; omega
  · rcases key n with h2 | h2
    · have h3 := cntP_le (p (n + 1)) n
      exact cntP_eq n (mono n) (by omega)
    · exact h2
theorem rd_rule {l : List S38} {i : Int} (h0 : 0 ≤ i) (h1 : i < l.length) : l.drop i.toNat = Zb l i :: l.drop (i + 1).toNat := by
  have h : i.toNat < l.length := by omega
  have e : Zb l i = l[i.toNat] := by simp [Zb, List.getD_eq_getElem?_getD, List.getElem?_eq_getElem h]
  rw [e, List.drop_eq_getElem_cons h]; congr 2; omega
theorem rule_mem {l : List S38} {i : Int} (h0 : 0 ≤ i) (h1 : i < l.length) : Zb l i ∈ l := by
  have h : i.toNat < l.length := by omega
  have e : Zb l i = l[i.toNat] := by simp [Zb, List.getD_eq_getElem?_getD, List.getElem?_eq_getElem h]
  rw [e]; exact List.getElem_mem _
def sgnBad (M x : Int) : Bool := decide (x < 0) || decide (x ≥ M)
def ruleBad (K N : Int) (r : S38) : Bool := decide (r.f0 < 0) || (decide (r.f0 ≥ N) || r.f1.any (sgnBad (K + N)))
def gcode (K N st : Int) (rs : List S38) : Int :=
  if K < 1 ∨ K > 3 ∨ N < 1 ∨ N > 5 ∨ (rs.length : Int) > 10 ∨ (rs.any fun r => decide ((r.f1.length : Int) > 4)) = true then 1
  else if st < 0 ∨ st ≥ N then 2 else if rs.any (ruleBad K N) = true then 2 else 0
theorem gcode_bad {K N st : Int} {rs : List S38} (h : K < 1 ∨ K > 3 ∨ N < 1 ∨ N > 5 ∨ (rs.length : Int) > 10 ∨ (rs.any fun r => decide ((r.f1.length : Int) > 4)) = true) : gcode K N st rs = 1 := by unfold gcode; rw [if_pos h]
section
variable (K N st : Int) (rs : List S38) (hK0 : 1 ≤ K) (hK1 : K ≤ 3) (hN0 : 1 ≤ N) (hN1 : N ≤ 5)
include hK0 hK1 hN0 hN1
theorem signs_eq (l : List Int) : grammar_signs.f K N st rs l = some (!(l.any (sgnBad (K + N)))) := by
  unfold grammar_signs.f grammar_signs_1_any.f
  have e : (fun x : Int => grammar_signs_1.f x K N st rs) = fun x => some (sgnBad (K + N) x) := by
    funext x
    unfold grammar_signs_1.f sgnBad
    rw [w64 (by omega) (by omega)]
    by_cases h : x < 0
    · rw [if_pos h]; simp [h]
    · rw [if_neg h]; simp [h]
  rw [e, anyO_some]; rfl
theorem refSigns_ev (l : List Int) (hl : l.length ≤ 140737488351232) : Ev (fun k => Zr1.f k K N st rs l) (!(l.any (sgnBad (K + N)))) := by
  unfold Zr1.f
  have := Ev.firstBad (L := fun k i => Zr1.l0 k l (l.length : Int) i K N st rs) (l := l) (rdf := rd l) (bad := sgnBad (K + N)) (c := false) (fin := true) (fun i h0 h1 => rd_cons h0 h1) ?_ ?_ ?_
  · cases h : l.any (sgnBad (K + N)) <;> rw [h] at this <;> exact this
  · intro _
    refine Ev.step (fun k => Zr1.l0.eq_2 _ _ _ _ _ _ _ k) ?_
    simp (disch := omega) only [if_neg]; exact Ev.now _
  · intro i h0 h1 hb
    refine Ev.step (fun k => Zr1.l0.eq_2 _ _ _ _ _ _ _ k) ?_
    simp (disch := omega) only [if_pos, w64]
    unfold sgnBad at hb
    by_cases h : rd l i < 0
    · simp only [if_pos h]; exact Ev.now _
    · have h2 : rd l i ≥ K + N := by simpa [h] using hb
      simp only [if_neg h, if_pos h2]; exact Ev.now _
  · intro i r h0 h1 hb hr
    refine Ev.step (fun k => Zr1.l0.eq_2 _ _ _ _ _ _ _ k) ?_
    unfold sgnBad at hb
    simp only [Bool.or_eq_false_iff, decide_eq_false_iff_not] at hb
    simp (disch := omega) only [if_pos, if_neg, w64]
    exact hr
theorem gcheck_l0 (hl : rs.length ≤ 10) : Ev (fun k => Za1.l0 k rs (rs.length : Int) 0 K N st rs) (if rs.any (ruleBad K N) = true then 2 else 0) := by
  refine Ev.firstBad (L := fun k i => Za1.l0 k rs (rs.length : Int) i K N st rs) (rdf := Zb rs) (fun i h0 h1 => rd_rule h0 h1) ?_ ?_ ?_
  · intro _
    refine Ev.step (fun k => Za1.l0.eq_2 _ _ _ _ _ _ _ k) ?_
    simp (disch := omega) only [if_neg]; exact Ev.now _
  · intro i h0 h1 hb
    refine Ev.step (fun k => Za1.l0.eq_2 _ _ _ _ _ _ _ k) ?_
    simp (disch := omega) only [if_pos, signs_eq K N st rs hK0 hK1 hN0 hN1, Option.bind_some]
    unfold ruleBad at hb
    by_cases c1 : (Zb rs i).f0 < 0
    · simp only [if_pos c1]; exact Ev.now _
    by_cases c2 : (Zb rs i).f0 ≥ N
    · simp only [if_neg c1, if_pos c2]; exact Ev.now _
    have c3 : (Zb rs i).f1.any (sgnBad (K + N)) = true := by simpa [c1, c2] using hb
    simp only [if_neg c1, if_neg c2, c3, Bool.not_true, Bool.false_eq_true, if_false]; exact Ev.now _
  · intro i r h0 h1 hb hr
    refine Ev.step (fun k => Za1.l0.eq_2 _ _ _ _ _ _ _ k) ?_
    simp (disch := omega) only [if_pos, signs_eq K N st rs hK0 hK1 hN0 hN1, Option.bind_some, w64]
    unfold ruleBad at hb
    simp only [Bool.or_eq_false_iff, decide_eq_false_iff_not] at hb
    simp only [if_neg hb.1, if_neg hb.2.1, hb.2.2, Bool.not_false, if_true]
    exact hr
theorem rcheck_l1 (hl : rs.length ≤ 10) (hr : (rs.any fun r => decide ((r.f1.length : Int) > 4)) = false) : Ev (fun k => Zz.l1 k rs (rs.length : Int) 0 K N st rs) (if rs.any (ruleBad K N) = true then 2 else 0) := by
  have hs : ∀ i : Int, 0 ≤ i → i < rs.length → (Zb rs i).f1.length ≤ 4 := by
    intro i h0 h1
    have := (List.any_eq_false.1 hr) _ (rule_mem h0 h1)
    simp only [decide_eq_true_eq] at this; omega
  refine Ev.firstBad (L := fun k i => Zz.l1 k rs (rs.length : Int) i K N st rs) (rdf := Zb rs) (fun i h0 h1 => rd_rule h0 h1) ?_ ?_ ?_
  · intro _
    refine Ev.step (fun k => Zz.l1.eq_2 _ _ _ _ _ _ _ k) ?_
    simp (disch := omega) only [if_neg]; exact Ev.now _
  · intro i h0 h1 hb
    refine Ev.step (fun k => Zz.l1.eq_2 _ _ _ _ _ _ _ k) ?_
    simp (disch := omega) only [if_pos]
    unfold ruleBad at hb
    by_cases c1 : (Zb rs i).f0 < 0
    · simp only [if_pos c1]; exact Ev.now _
    by_cases c2 : (Zb rs i).f0 ≥ N
    · simp only [if_neg c1, if_pos c2]; exact Ev.now _
    have c3 : (Zb rs i).f1.any (sgnBad (K + N)) = true := by simpa [c1, c2] using hb
    simp only [if_neg c1, if_neg c2]
    refine Ev.bind (refSigns_ev K N st rs hK0 hK1 hN0 hN1 _ (by have := hs i h0 h1; omega)) ?_
    simp only [c3, Bool.not_true, Bool.false_eq_true, if_false]; exact Ev.now _
  · intro i r h0 h1 hb hr
    refine Ev.step (fun k => Zz.l1.eq_2 _ _ _ _ _ _ _ k) ?_
    simp (disch := omega) only [if_pos, w64]
    unfold ruleBad at hb
    simp only [Bool.or_eq_false_iff, decide_eq_false_iff_not] at hb
    simp only [if_neg hb.1, if_neg hb.2.1]
    refine Ev.bind (refSigns_ev K N st rs hK0 hK1 hN0 hN1 _ (by have := hs i h0 h1; omega)) ?_
    simp only [hb.2.2, Bool.not_false, if_true]
    exact hr
end
theorem gcheck_ev (K N st : Int) (rs : List S38) : Ev (fun k => Za1.f k K N st rs) (gcode K N st rs) := by
  unfold Za1.f
  have bad : (K < 1 ∨ K > 3 ∨ N < 1 ∨ N > 5 ∨ (rs.length : Int) > 10 ∨ (rs.any fun r => decide ((r.f1.length : Int) > 4)) = true) → Ev (fun k => Za1.j0 k true K N st rs) (gcode K N st rs) := by
    intro h
    rw [gcode_bad h]
    refine Ev.step (fun k => Za1.j0.eq_2 _ _ _ _ _ k) ?_
    simp only [if_true]; exact Ev.now _
  by_cases c1 : K < 1
  · simp only [if_pos c1]; exact bad (by omega)
  by_cases c2 : K > 3
  · simp only [if_neg c1, if_pos c2]; exact bad (by omega)
  by_cases c3 : N < 1
  · simp only [if_neg c1, if_neg c2, if_pos c3]; exact bad (by omega)
  by_cases c4 : N > 5
  · simp only [if_neg c1, if_neg c2, if_neg c3, if_pos c4]; exact bad (by omega)
  by_cases c5 : (rs.length : Int) > 10
  · simp only [if_neg c1, if_neg c2, if_neg c3, if_neg c4, if_pos c5]; exact bad (by omega)
  simp only [if_neg c1, if_neg c2, if_neg c3, if_neg c4, if_neg c5]
  have e : grammar_Check_1_any.f rs = some (rs.any fun r => decide ((r.f1.length : Int) > 4)) := anyO_some _ rs
  simp only [e, Option.bind_some]
  cases c6 : (rs.any fun r => decide ((r.f1.length : Int) > 4)) with
  | true => exact bad (.inr (.inr (.inr (.inr (.inr c6)))))
  | false =>
    refine Ev.step (fun k => Za1.j0.eq_2 _ _ _ _ _ k) ?_
    have hg : gcode K N st rs = if st < 0 ∨ st ≥ N then 2 else if rs.any (ruleBad K N) = true then 2 else 0 := by
      unfold gcode; rw [if_neg (by rw [c6]; simp; omega)]
    have j1t : (st < 0 ∨ st ≥ N) → Ev (fun k => Za1.j1 k true K N st rs) (gcode K N st rs) := by
      intro h
      rw [hg, if_pos h]
      refine Ev.step (fun k => Za1.j1.eq_2 _ _ _ _ _ k) ?_
      simp only [if_true]; exact Ev.now _
    simp only [Bool.false_eq_true, if_false]
    by_cases d1 : st < 0
    · simp only [if_pos d1]; exact j1t (.inl d1)
    by_cases d2 : st ≥ N
    · simp only [if_neg d1, decide_eq_true d2]; exact j1t (.inr d2)
    · simp only [if_neg d1, decide_eq_false d2]
      rw [hg, if_neg (by omega)]
      refine Ev.step (fun k => Za1.j1.eq_2 _ _ _ _ _ k) ?_
      simp only [Bool.false_eq_true, if_false]
      exact gcheck_l0 K N st rs (by omega) (by omega) (by omega) (by omega) (by omega)
theorem rcheck_ev (K N st : Int) (rs : List S38) : Ev (fun k => Zz.f k K N st rs) (gcode K N st rs) := by
  unfold Zz.f
  have bad : (K < 1 ∨ K > 3 ∨ N < 1 ∨ N > 5 ∨ (rs.length : Int) > 10 ∨ (rs.any fun r => decide ((r.f1.length : Int) > 4)) = true) → Ev (fun k => Zz.j0 k true K N st rs) (gcode K N st rs) := by
    intro h
    rw [gcode_bad h]
    refine Ev.step (fun k => Zz.j0.eq_2 _ _ _ _ _ k) ?_
    simp only [if_true]; exact Ev.now _
  by_cases c1 : K < 1
  · simp only [if_pos c1]; exact bad (by omega)
  by_cases c2 : K > 3
  · simp only [if_neg c1, if_pos c2]; exact bad (by omega)
  by_cases c3 : N < 1
  · simp only [if_neg c1, if_neg c2, if_pos c3]; exact bad (by omega)
  by_cases c4 : N > 5
  · simp only [if_neg c1, if_neg c2, if_neg c3, if_pos c4]; exact bad (by omega)
  simp only [if_neg c1, if_neg c2, if_neg c3, if_neg c4]
  by_cases c5 : (rs.length : Int) > 10
  · simp only [c5, decide_true]; exact bad (by omega)
  simp only [c5, decide_false]
  refine Ev.step (fun k => Zz.j0.eq_2 _ _ _ _ _ k) ?_
  simp only [Bool.false_eq_true, if_false]
  have hg : gcode K N st rs = if (rs.any fun r => decide ((r.f1.length : Int) > 4)) = true then 1 else if st < 0 ∨ st ≥ N then 2 else if rs.any (ruleBad K N) = true then 2 else 0 := by
    unfold gcode
    cases c6 : (rs.any fun r => decide ((r.f1.length : Int) > 4)) with
    | true => rw [if_pos (by simp), if_pos rfl]
    | false => rw [if_neg (by simp; omega)]; simp only [Bool.false_eq_true, if_false]
  rw [hg]
  refine Ev.firstBad (L := fun k i => Zz.l0 k rs (rs.length : Int) i K N st rs) (rdf := Zb rs) (fun i h0 h1 => rd_rule h0 h1) ?_ ?_ ?_
  · intro c6
    refine Ev.step (fun k => Zz.l0.eq_2 _ _ _ _ _ _ _ k) ?_
    simp (disch := omega) only [if_neg]
    have j2t : (st < 0 ∨ st ≥ N) → Ev (fun k => Zz.j2 k true K N st rs) (if st < 0 ∨ st ≥ N then 2 else if rs.any (ruleBad K N) = true then 2 else 0) := by
      intro h
      rw [if_pos h]
      refine Ev.step (fun k => Zz.j2.eq_2 _ _ _ _ _ k) ?_
      simp only [if_true]; exact Ev.now _
    by_cases d1 : st < 0
    · simp only [if_pos d1]; exact j2t (.inl d1)
    by_cases d2 : st ≥ N
    · simp only [if_neg d1, decide_eq_true d2]; exact j2t (.inr d2)
    · simp only [if_neg d1, decide_eq_false d2]
      rw [if_neg (by omega)]
      refine Ev.step (fun k => Zz.j2.eq_2 _ _ _ _ _ k) ?_
      simp only [Bool.false_eq_true, if_false]
      exact rcheck_l1 K N st rs (by omega) (by omega) (by omega) (by omega) (by omega) c6
  · intro i h0 h1 hb
    refine Ev.step (fun k => Zz.l0.eq_2 _ _ _ _ _ _ _ k) ?_
    simp only [decide_eq_true_eq] at hb
    simp (disch := omega) only [if_pos]; exact Ev.now _
  · intro i r h0 h1 hb hr
    refine Ev.step (fun k => Zz.l0.eq_2 _ _ _ _ _ _ _ k) ?_
    simp only [decide_eq_false_iff_not] at hb
    simp (disch := omega) only [if_pos, if_neg, w64]; exact hr
structure GOK (K N st : Int) (rs : List S38) : Prop where
  K0 : 1 ≤ K
  K1 : K ≤ 3
  N0 : 1 ≤ N
  N1 : N ≤ 5
  len : rs.length ≤ 10
  s0 : 0 ≤ st
  s1 : st < N
  rl : ∀ r ∈ rs, r.f1.length ≤ 4
  r0 : ∀ r ∈ rs, 0 ≤ r.f0
  r1 : ∀ r ∈ rs, r.f0 < N
  x0 : ∀ r ∈ rs, ∀ x ∈ r.f1, 0 ≤ x
  x1 : ∀ r ∈ rs, ∀ x ∈ r.f1, x < K + N
theorem gcode_ok {K N st : Int} {rs : List S38} (h : gcode K N st rs = 0) : GOK K N st rs := by
  unfold gcode at h
  split at h
  · omega
  rename_i h1
  split at h
  · omega
  rename_i h2
  split at h
  · omega
  rename_i h3
  simp only [not_or] at h1 h2
  have h4 : (rs.any fun r => decide ((r.f1.length : Int) > 4)) = false := by simpa using h1.2.2.2.2.2
  have h5 : rs.any (ruleBad K N) = false := by simpa using h3
  rw [List.any_eq_false] at h4 h5
  have h6 : ∀ r ∈ rs, 0 ≤ r.f0 ∧ r.f0 < N ∧ ∀ x ∈ r.f1, 0 ≤ x ∧ x < K + N := by
    intro r hr
    have h7 : ruleBad K N r = false := by simpa using h5 r hr
    unfold ruleBad at h7
    simp only [Bool.or_eq_false_iff, decide_eq_false_iff_not, List.any_eq_false] at h7
    refine ⟨by omega, by omega, fun x hx => ?_⟩
    have h8 := h7.2.2 x hx
    unfold sgnBad at h8
    simp only [Bool.or_eq_true, decide_eq_true_eq, not_or] at h8
    omega
  refine ⟨by omega, by omega, by omega, by omega, by omega, by omega, by omega, ?_, fun r hr => (h6 r hr).1, fun r hr => (h6 r hr).2.1, fun r hr x hx => ((h6 r hr).2.2 x hx).1, fun r hr x hx => ((h6 r hr).2.2 x hx).2⟩
  intro r hr
  have := h4 r hr
  simp only [decide_eq_true_eq] at this; omega
def okS (K : Int) (sy : Bool) (S : Nat) (x : Int) : Bool := if x < K then sy else S.testBit (x - K).toNat
def passG (K : Int) (sy : Bool) (rs : List S38) (S : Nat) : Nat := rs.foldl (fun S r => if r.f1.all (okS K sy S) = true then S ||| 2 ^ r.f0.toNat else S) S
def leastG (K N : Int) (sy : Bool) (rs : List S38) : Nat := rep (passG K sy rs) N.toNat 0
def mkG (K : Int) (sy : Bool) (rs : List S38) : Nat → Int → Bool
  | 0, x => if x < K then sy else false
  | d + 1, x => if x < K then sy else rs.any fun r => r.f0 == x - K && r.f1.all (mkG K sy rs d)
theorem passG_lt (K : Int) (sy : Bool) (n : Nat) : ∀ (rs : List S38) (S : Nat), (∀ r ∈ rs, r.f0.toNat < n) → S < 2 ^ n → passG K sy rs S < 2 ^ n
  | [], S, _, h => h
  | r :: rs, S, hr, h => by
    unfold passG
    rw [List.foldl_cons]
    refine passG_lt K sy n rs _ (fun q hq => hr q (by simp [hq])) ?_
    split
    · exact Nat.or_lt_two_pow h (Nat.pow_lt_pow_right (by omega) (hr r (by simp)))
    · exact h
theorem passG_sub (K : Int) (sy : Bool) : ∀ (rs : List S38) (S i : Nat), S.testBit i = true → (passG K sy rs S).testBit i = true
  | [], _, _, h => h
  | r :: rs, S, i, h => by
    unfold passG
    rw [List.foldl_cons]
    refine passG_sub K sy rs _ i ?_
    split
    · rw [Nat.testBit_or, h, Bool.true_or]
    · exact h
theorem okS_mono {K : Int} {sy : Bool} {S T : Nat} (h : ∀ i, S.testBit i = true → T.testBit i = true) (x : Int) (hx : okS K sy S x = true) : okS K sy T x = true := by
  unfold okS at hx ⊢
  split
  · rename_i c; rwa [if_pos c] at hx
  · rename_i c; rw [if_neg c] at hx; exact h _ hx
theorem all_mono {p q : Int → Bool} {l : List Int} (h : ∀ x ∈ l, p x = true → q x = true) (hp : l.all p = true) : l.all q = true := by
  rw [List.all_eq_true] at hp ⊢; exact fun x hx => h x hx (hp x hx)
theorem passG_mem (K : Int) (sy : Bool) : ∀ (rs : List S38) (S : Nat) (r : S38), r ∈ rs → r.f1.all (okS K sy S) = true → (passG K sy rs S).testBit r.f0.toNat = true
  | [], _, _, h, _ => by simp at h
  | q :: rs, S, r, h, hok => by
    unfold passG
    rw [List.foldl_cons]
    have hsub : ∀ i, S.testBit i = true → (if q.f1.all (okS K sy S) = true then S ||| 2 ^ q.f0.toNat else S).testBit i = true := by
      intro i hi
      split
      · rw [Nat.testBit_or, hi, Bool.true_or]
      · exact hi
    rcases List.mem_cons.1 h with rfl | h
    · refine passG_sub K sy rs _ _ ?_
      rw [if_pos hok, Nat.testBit_or, Nat.testBit_two_pow_self, Bool.or_true]
    · exact passG_mem K sy rs _ r h (all_mono (fun x _ => okS_mono hsub x) hok)
theorem passG_in (K : Int) (sy : Bool) (D : Nat → Bool) : ∀ (rs : List S38) (S : Nat), (∀ i, S.testBit i = true → D i = true) →
    (∀ r ∈ rs, ∀ T : Nat, (∀ i, T.testBit i = true → D i = true) → r.f1.all (okS K sy T) = true → D r.f0.toNat = true) → ∀ i, (passG K sy rs S).testBit i = true → D i = true
  | [], _, h, _, i, hi => h i hi
  | r :: rs, S, h, hc, i, hi => by
    unfold passG at hi
    rw [List.foldl_cons] at hi
    refine passG_in K sy D rs _ ?_ (fun q hq => hc q (by simp [hq])) i hi
    intro j hj
    split at hj
    · rename_i c
      rw [Nat.testBit_or, Bool.or_eq_true] at hj
      rcases hj with hj | hj
      · exact h j hj
      · rw [Nat.testBit_two_pow, decide_eq_true_eq] at hj
        subst hj
        exact hc r (by simp) S h c
    · exact h j hj
theorem mkG_step (K : Int) (sy : Bool) (rs : List S38) : ∀ (d : Nat) (x : Int), mkG K sy rs d x = true → mkG K sy rs (d + 1) x = true
  | 0, x, h => by
    unfold mkG at h ⊢
    split
    · rename_i c; rwa [if_pos c] at h
    · rename_i c; rw [if_neg c] at h; cases h
  | d + 1, x, h => by
    unfold mkG at h ⊢
    split
    · rename_i c; rwa [if_pos c] at h
    · rename_i c; rw [if_neg c, List.any_eq_true] at h
      obtain ⟨r, hr, h⟩ := h
      rw [List.any_eq_true]
      rw [Bool.and_eq_true] at h
      exact ⟨r, hr, by rw [Bool.and_eq_true]; exact ⟨h.1, all_mono (fun y _ => mkG_step K sy rs d y) h.2⟩⟩
theorem mkG_stop {K N st : Int} {rs : List S38} (G : GOK K N st rs) (sy : Bool) : ∀ x : Int, x < K + N → mkG K sy rs (N.toNat + 1) x = mkG K sy rs N.toNat x := by
  have stab : ∀ d, (∀ i, i < N.toNat → mkG K sy rs (d + 1) (K + (i : Int)) = mkG K sy rs d (K + (i : Int))) → ∀ x : Int, x < K + N → mkG K sy rs (d + 1) x = mkG K sy rs d x := by
    intro d h x hx
    by_cases c : x < K
    · cases d <;> simp only [mkG, if_pos c]
    · have := h (x - K).toNat (by omega)
      rwa [show K + ((x - K).toNat : Int) = x by omega] at this
  have key := chain_stop N.toNat (fun d i => mkG K sy rs d (K + (i : Int))) (fun d i _ h => mkG_step K sy rs d _ h) (by
    intro d h i hi
    have h2 := stab d h
    show mkG K sy rs (d + 2) (K + (i : Int)) = mkG K sy rs (d + 1) (K + (i : Int))
    have c : ¬ (K + (i : Int) < K) := by omega
    simp only [mkG, if_neg c]
    rw [Bool.eq_iff_iff, List.any_eq_true, List.any_eq_true]
    have e : ∀ r ∈ rs, r.f1.all (mkG K sy rs (d + 1)) = r.f1.all (mkG K sy rs d) := by
      intro r hr
      rw [Bool.eq_iff_iff]
      exact ⟨all_mono (fun x hx q => by rw [← h2 x (G.x1 r hr x hx)]; exact q), all_mono (fun x hx q => by rw [h2 x (G.x1 r hr x hx)]; exact q)⟩
    constructor
    · rintro ⟨r, hr, q⟩
      refine ⟨r, hr, ?_⟩
      have e1 := e r hr
      simp only [mkG] at e1
      rwa [e1] at q
    · rintro ⟨r, hr, q⟩
      refine ⟨r, hr, ?_⟩
      have e1 := e r hr
      simp only [mkG] at e1
      rwa [e1])
  exact stab N.toNat key
theorem leastG_eq {K N st : Int} {rs : List S38} (G : GOK K N st rs) (sy : Bool) : leastG K N sy rs = maskB (fun i => mkG K sy rs N.toNat (K + (i : Int))) N.toNat := by
  have hK := G.K0; have hN := G.N0
  apply Nat.eq_of_testBit_eq
  intro i
  rw [maskB_bit]
  have hlt : leastG K N sy rs < 2 ^ N.toNat := rep_lt _ _ (fun s hs => passG_lt K sy N.toNat rs s (fun r hr => by have := G.r0 r hr; have := G.r1 r hr; omega) hs) _ _ (Nat.two_pow_pos _)
  by_cases hi : i < N.toNat
  · rw [decide_eq_true hi, Bool.true_and, Bool.eq_iff_iff]
    constructor
    ·
      have key : ∀ n, ∀ j, (rep (passG K sy rs) n 0).testBit j = true → mkG K sy rs N.toNat (K + (j : Int)) = true := by
        intro n
        induction n with
        | zero => intro j hj; simp [rep] at hj
        | succ n ih =>
          rw [rep_succ]
          refine passG_in K sy (fun j => mkG K sy rs N.toNat (K + (j : Int))) rs _ ih ?_
          intro r hr T hT hok
          show mkG K sy rs N.toNat (K + (r.f0.toNat : Int)) = true
          have h0 := G.r0 r hr
          have h1 := G.r1 r hr
          rw [← mkG_stop G sy _ (by omega)]
          have c : ¬ (K + (r.f0.toNat : Int) < K) := by omega
          simp only [mkG, if_neg c]
          rw [List.any_eq_true]
          refine ⟨r, hr, ?_⟩
          rw [Bool.and_eq_true]
          refine ⟨by rw [beq_iff_eq]; omega, all_mono (fun x hx q => ?_) hok⟩
          unfold okS at q
          by_cases c2 : x < K
          · rw [if_pos c2] at q
            cases e : N.toNat <;> simp only [mkG, if_pos c2, q]
          · rw [if_neg c2] at q
            have := hT _ q
            rwa [show K + ((x - K).toNat : Int) = x by omega] at this
      exact key _ i
    · have key : ∀ d, ∀ j : Nat, mkG K sy rs d (K + (j : Int)) = true → (rep (passG K sy rs) d 0).testBit j = true := by
        intro d
        induction d with
        | zero => intro j hj; unfold mkG at hj; rw [if_neg (by omega)] at hj; cases hj
        | succ d ih =>
          intro j hj
          unfold mkG at hj
          rw [if_neg (by omega), List.any_eq_true] at hj
          obtain ⟨r, hr, h⟩ := hj
          rw [Bool.and_eq_true, beq_iff_eq] at h
          rw [rep_succ]
          have := passG_mem K sy rs (rep (passG K sy rs) d 0) r hr (all_mono (fun x hx q => ?_) h.2)
          · rwa [show r.f0.toNat = j by omega] at this
          · unfold okS
            by_cases c : x < K
            · rw [if_pos c]
              cases d <;> simpa only [mkG, if_pos c] using q
            · rw [if_neg c]
              exact ih (x - K).toNat (by rwa [show K + ((x - K).toNat : Int) = x by omega])
      exact key _ i
  · rw [decide_eq_false hi, Bool.false_and]
    exact Nat.testBit_lt_two_pow (Nat.lt_of_lt_of_le hlt (Nat.pow_le_pow_right (by omega) (by omega)))
section
variable (K N st : Int) (rs : List S38) (G : GOK K N st rs) (sy : Bool)
include G
theorem lt32G {S : Nat} (h : S < 2 ^ N.toNat) : S < 2 ^ 32 := Nat.lt_of_lt_of_le h (Nat.pow_le_pow_right (by omega) (by have := G.N1; omega))
theorem leastBad (S : Nat) (hS : S < 2 ^ N.toNat) (l : List Int) (hl : ∀ x ∈ l, 0 ≤ x ∧ x < K + N) : grammar_Least_1_any.f l K N st rs sy (S : Int) = some (!(l.all (okS K sy S))) := by
  have hK := G.K0; have hK1 := G.K1; have hN := G.N0; have hN1 := G.N1
  unfold grammar_Least_1_any.f
  rw [anyO_of (p := fun x => !(okS K sy S x)), List.all_eq_not_any_not]
  · simp
  intro x hx
  have h0 := hl x hx
  unfold grammar_Least_1.f okS
  by_cases c : x < K
  · simp only [if_pos c, if_neg (show ¬ x ≥ K by omega)]
    cases sy <;> rfl
  · obtain ⟨i, hi⟩ := Int.eq_ofNat_of_zero_le (show 0 ≤ x - K by omega)
    have h32 := lt32G K N st rs G hS
    simp only [if_neg c, if_pos (show x ≥ K by omega), w64 (show -9223372036854775808 ≤ x - K by omega) (by omega), if_pos (show 0 ≤ x - K by omega)]
    rw [hi, bit_shr0 S i h32 (by omega), Int.toNat_natCast]
theorem least_l0 (d : Nat) : ∀ (j : Int) (S : Nat), 0 ≤ j → j + d = N → S < 2 ^ N.toNat → Ev (fun k => Zm1.l0 k N j K N st rs sy (S : Int)) ((rep (passG K sy rs) d S : Nat) : Int) := by
  have hlen := G.len; have hN1 := G.N1
  induction d with
  | zero =>
    intro j S h0 h1 hS
    refine Ev.step (fun k => Zm1.l0.eq_2 _ _ _ _ _ _ _ _ k) ?_
    simp (disch := omega) only [if_neg]; exact Ev.now _
  | succ d ih =>
    intro j S h0 h1 hS
    refine Ev.step (fun k => Zm1.l0.eq_2 _ _ _ _ _ _ _ _ k) ?_
    simp (disch := omega) only [if_pos]
    refine Ev.loop (L := fun k i (T : Nat) => Zm1.l1 k N j rs (rs.length : Int) i K N st rs sy (T : Int)) (n := rs.length) (fun i T => T < 2 ^ N.toNat ∧ passG K sy (rs.drop i.toNat) T = passG K sy rs S) ?_ ?_ 0 S (Int.le_refl _) (by omega) ⟨hS, rfl⟩
    · intro T hT
      refine Ev.step (fun k => Zm1.l1.eq_2 _ _ _ _ _ _ _ _ _ _ _ k) ?_
      simp (disch := omega) only [if_neg, w64]
      have e : T = passG K sy rs S := by have := hT.2; rw [Int.toNat_natCast, List.drop_length] at this; exact this
      have := ih (j + 1) T (by omega) (by omega) hT.1
      rw [e] at this ⊢; exact this
    · intro i T h2 h3 hT
      right
      have hm := rule_mem h2 h3
      obtain ⟨hT1, hT2⟩ := hT
      rw [rd_rule h2 h3] at hT2
      unfold passG at hT2
      rw [List.foldl_cons] at hT2
      obtain ⟨q, hq⟩ := Int.eq_ofNat_of_zero_le (G.r0 _ hm)
      have hq1 := G.r1 _ hm
      refine ⟨if (Zb rs i).f1.all (okS K sy T) = true then T ||| 2 ^ (Zb rs i).f0.toNat else T, ⟨?_, hT2⟩, ?_⟩
      · split
        · exact Nat.or_lt_two_pow hT1 (Nat.pow_lt_pow_right (by omega) (by omega))
        · exact hT1
      · intro h
        refine Ev.step (fun k => Zm1.l1.eq_2 _ _ _ _ _ _ _ _ _ _ _ k) ?_
        simp (disch := omega) only [if_pos, w64, leastBad K N st rs G sy T hT1 _ (fun x hx => ⟨G.x0 _ hm x hx, G.x1 _ hm x hx⟩), Option.bind_some]
        cases c : (Zb rs i).f1.all (okS K sy T) with
        | false => simp only [c, Bool.false_eq_true, if_false] at h; simp only [Bool.not_false, if_true]; exact h
        | true =>
          simp only [c, if_true, hq, Int.toNat_natCast] at h
          simp only [Bool.not_true, Bool.false_eq_true, if_false, hq, bit_or T q (lt32G K N st rs G hT1) (by omega)]; exact h
theorem least_ev : Ev (fun k => Zm1.f k K N st rs sy) ((leastG K N sy rs : Nat) : Int) := by
  unfold Zm1.f
  exact least_l0 K N st rs G sy N.toNat 0 0 (by omega) (by have := G.N0; omega) (Nat.two_pow_pos _)
theorem least_lt : leastG K N sy rs < 2 ^ N.toNat := rep_lt _ _ (fun s hs => passG_lt K sy N.toNat rs s (fun r hr => by have := G.r0 r hr; have := G.r1 r hr; omega) hs) _ _ (Nat.two_pow_pos _)
end
section
variable (K N st : Int) (rs : List S38) (G : GOK K N st rs) (vo : Bool)
include G
theorem refMakes_ev (d : Nat) (hd : d ≤ 5) : ∀ x : Int, 0 ≤ x → x < K + N → Ev (fun k => Zg1.f k K N st rs x (d : Int) vo) (mkG K (!vo) rs d x) := by
  have hK := G.K0; have hK1 := G.K1; have hN := G.N0; have hN1 := G.N1; have hlen := G.len
  induction d with
  | zero =>
    intro x h0 h1
    refine Ev.step (fun k => Zg1.f.eq_2 _ _ _ _ _ _ _ k) ?_
    unfold mkG
    by_cases c : x < K
    · simp only [if_pos c]; exact Ev.now _
    · simp only [if_neg c, if_pos (show ((0 : Nat) : Int) = 0 from rfl)]; exact Ev.now _
  | succ d ih =>
    intro x h0 h1
    refine Ev.step (fun k => Zg1.f.eq_2 _ _ _ _ _ _ _ k) ?_
    unfold mkG
    by_cases c : x < K
    · simp only [if_pos c]; exact Ev.now _
    simp only [if_neg c, if_neg (show ¬ ((d + 1 : Nat) : Int) = 0 by omega)]
    have hr : (rs.any fun r => r.f0 == x - K && r.f1.all (mkG K (!vo) rs d)) = (if (rs.any fun r => r.f0 == x - K && r.f1.all (mkG K (!vo) rs d)) = true then true else false) := by
      cases (rs.any fun r => r.f0 == x - K && r.f1.all (mkG K (!vo) rs d)) <;> simp
    rw [hr]
    have inner : ∀ (i : Int) (R : Bool), 0 ≤ i → i < rs.length → (Zb rs i).f0 = x - K → ((Zb rs i).f1.all (mkG K (!vo) rs d) = true → R = true) →
        ((Zb rs i).f1.all (mkG K (!vo) rs d) = false → Ev (fun k => Zg1.l0 k x ((d + 1 : Nat) : Int) vo rs (rs.length : Int) (i + 1) K N st rs) R) →
        Ev (fun k => Zg1.l1 k x ((d + 1 : Nat) : Int) vo true rs (rs.length : Int) i (Zb rs i).f1 (((Zb rs i).f1.length : Nat) : Int) 0 K N st rs) R := by
      intro i R h2 h3 _ hyes hno
      have hm := rule_mem h2 h3
      have hl4 := G.rl _ hm
      refine Ev.loop (L := fun k j (ok : Bool) => Zg1.l1 k x ((d + 1 : Nat) : Int) vo ok rs (rs.length : Int) i (Zb rs i).f1 (((Zb rs i).f1.length : Nat) : Int) j K N st rs) (n := (Zb rs i).f1.length) (fun j ok => (Zb rs i).f1.all (mkG K (!vo) rs d) = (ok && ((Zb rs i).f1.drop j.toNat).all (mkG K (!vo) rs d))) ?_ ?_ 0 true (Int.le_refl _) (by omega) (by simp)
      · intro ok he
        rw [Int.toNat_natCast, List.drop_length, List.all_nil, Bool.and_true] at he
        refine Ev.step (fun k => Zg1.l1.eq_2 _ _ _ _ _ _ _ _ _ _ _ _ _ _ k) ?_
        simp (disch := omega) only [if_neg (show ¬ (((Zb rs i).f1.length : Nat) : Int) < ((Zb rs i).f1.length : Nat) by omega), w64]
        cases ok with
        | true => simp only [if_true]; exact Ev.val (hyes he).symm
        | false => simp only [Bool.false_eq_true, if_false]; exact hno he
      · intro j ok h4 h5 he
        right
        have hx := rd_mem h4 h5
        rw [rd_cons h4 h5, List.all_cons] at he
        cases ok with
        | false =>
          refine ⟨false, by rw [he]; rfl, ?_⟩
          intro h
          refine Ev.step (fun k => Zg1.l1.eq_2 _ _ _ _ _ _ _ _ _ _ _ _ _ _ k) ?_
          simp (disch := omega) only [if_pos, w64, Bool.false_eq_true, if_false]
          exact h
        | true =>
          refine ⟨mkG K (!vo) rs d (rd (Zb rs i).f1 j), by rw [he, Bool.true_and], ?_⟩
          intro h
          refine Ev.step (fun k => Zg1.l1.eq_2 _ _ _ _ _ _ _ _ _ _ _ _ _ _ k) ?_
          simp (disch := omega) only [if_pos, w64, if_true]
          refine Ev.bind ?_ h
          have := ih (by omega) (rd (Zb rs i).f1 j) (G.x0 _ hm _ hx) (G.x1 _ hm _ hx)
          rwa [show ((d + 1 : Nat) : Int) - 1 = (d : Int) by omega]
    refine Ev.firstBad (L := fun k i => Zg1.l0 k x ((d + 1 : Nat) : Int) vo rs (rs.length : Int) i K N st rs) (rdf := Zb rs) (fun i h0 h1 => rd_rule h0 h1) ?_ ?_ ?_
    · intro _
      refine Ev.step (fun k => Zg1.l0.eq_2 _ _ _ _ _ _ _ _ _ _ k) ?_
      simp (disch := omega) only [if_neg (show ¬ ((rs.length : Nat) : Int) < rs.length by omega)]; exact Ev.now _
    · intro i h2 h3 hb
      rw [Bool.and_eq_true, beq_iff_eq] at hb
      refine Ev.step (fun k => Zg1.l0.eq_2 _ _ _ _ _ _ _ _ _ _ k) ?_
      simp (disch := omega) only [if_pos, w64, hb.1]
      exact inner i true h2 h3 hb.1 (fun _ => rfl) (fun h => by rw [hb.2] at h; cases h)
    · intro i r h2 h3 hb hr
      refine Ev.step (fun k => Zg1.l0.eq_2 _ _ _ _ _ _ _ _ _ _ k) ?_
      simp (disch := omega) only [if_pos, w64]
      by_cases e : (Zb rs i).f0 = x - K
      · simp only [if_pos e]
        have hb2 : (Zb rs i).f1.all (mkG K (!vo) rs d) = false := by simpa [e] using hb
        exact inner i r h2 h3 e (fun h => by rw [hb2] at h; cases h) (fun _ => hr)
      · simp only [if_neg e]; exact hr
theorem refNames_ev : Ev (fun k => Zo1.f k K N st rs vo) ((leastG K N (!vo) rs : Nat) : Int) := by
  have hK := G.K0; have hK1 := G.K1; have hN := G.N0; have hN1 := G.N1
  rw [leastG_eq G]
  unfold Zo1.f
  refine Ev.loop (L := fun k i (a : Nat) => Zo1.l0 k vo (a : Int) i K N st rs) (n := N) (fun i a => a = maskB (fun i => mkG K (!vo) rs N.toNat (K + (i : Int))) i.toNat) ?_ ?_ 0 0 (Int.le_refl _) (by omega) rfl
  · intro a ha
    refine Ev.step (fun k => Zo1.l0.eq_2 _ _ _ _ _ _ _ k) ?_
    simp (disch := omega) only [if_neg (show ¬ N < N by omega)]
    rw [ha]; exact Ev.now _
  · intro i a h0 h1 ha
    right
    obtain ⟨j, rfl⟩ := Int.eq_ofNat_of_zero_le h0
    rw [Int.toNat_natCast] at ha
    have hlt := maskB_lt (fun i => mkG K (!vo) rs N.toNat (K + (i : Int))) j
    have h25 : 2 ^ j ≤ 2 ^ 5 := Nat.pow_le_pow_right (by omega) (by omega)
    refine ⟨maskB (fun i => mkG K (!vo) rs N.toNat (K + (i : Int))) (j + 1), by rw [show ((j : Int) + 1).toNat = j + 1 by omega], ?_⟩
    intro h
    refine Ev.step (fun k => Zo1.l0.eq_2 _ _ _ _ _ _ _ k) ?_
    simp (disch := omega) only [if_pos, w64]
    have hm := refMakes_ev K N st rs G vo N.toNat (by omega) (K + (j : Int)) (by omega) (by omega)
    rw [show ((N.toNat : Nat) : Int) = N by omega] at hm
    refine Ev.bind hm ?_
    rw [maskB_succ] at h
    cases c : mkG K (!vo) rs N.toNat (K + (j : Int)) with
    | true =>
      simp only [c, if_true] at h
      simp (disch := omega) only [if_true, u64_id, if_pos, shl1 j (by omega)]
      rw [show ((a : Int) + ((2 ^ j : Nat) : Int)) % 4294967296 = ((maskB (fun i => mkG K (!vo) rs N.toNat (K + (i : Int))) j + 2 ^ j : Nat) : Int) by rw [← ha]; omega]
      exact h
    | false =>
      simp only [c, Bool.false_eq_true, if_false, Nat.add_zero] at h
      simp only [Bool.false_eq_true, if_false]
      rw [ha]; exact h
end
def edgesG (rs : List S38) : List (Int × Int) := rs.flatMap fun r => r.f1.map fun x => (r.f0, x)
theorem edgesG_cons (r : S38) (rs : List S38) : edgesG (r :: rs) = r.f1.map (fun x => (r.f0, x)) ++ edgesG rs := by unfold edgesG; rw [List.flatMap_cons]
theorem edgesG_mem {rs : List S38} {e : Int × Int} (h : e ∈ edgesG rs) : ∃ r ∈ rs, r.f0 = e.1 ∧ e.2 ∈ r.f1 := by
  unfold edgesG at h
  rw [List.mem_flatMap] at h
  obtain ⟨r, hr, h⟩ := h
  rw [List.mem_map] at h
  obtain ⟨x, hx, rfl⟩ := h
  exact ⟨r, hr, rfl, hx⟩
def addC (K : Int) (S : Nat) (e : Int × Int) : Nat := if S.testBit e.1.toNat = true ∧ e.2 ≥ K then S ||| 2 ^ (e.2 - K).toNat else S
def passE (K : Int) (E : List (Int × Int)) (S : Nat) : Nat := E.foldl (addC K) S
theorem addC_sub (K : Int) (S : Nat) (e : Int × Int) (i : Nat) (h : S.testBit i = true) : (addC K S e).testBit i = true := by
  unfold addC
  split
  · rw [Nat.testBit_or, h, Bool.true_or]
  · exact h
theorem passE_sub (K : Int) : ∀ (E : List (Int × Int)) (S i : Nat), S.testBit i = true → (passE K E S).testBit i = true
  | [], _, _, h => h
  | e :: E, S, i, h => by
    unfold passE; rw [List.foldl_cons]
    exact passE_sub K E _ i (addC_sub K S e i h)
theorem passE_mem (K : Int) : ∀ (E : List (Int × Int)) (S : Nat) (e : Int × Int), e ∈ E → S.testBit e.1.toNat = true → e.2 ≥ K → (passE K E S).testBit (e.2 - K).toNat = true
  | [], _, _, h, _, _ => by simp at h
  | f :: E, S, e, h, h1, h2 => by
    unfold passE; rw [List.foldl_cons]
    rcases List.mem_cons.1 h with rfl | h
    · refine passE_sub K E _ _ ?_
      unfold addC
      rw [if_pos ⟨h1, h2⟩, Nat.testBit_or, Nat.testBit_two_pow_self, Bool.or_true]
    · exact passE_mem K E _ e h (addC_sub K S f _ h1) h2
theorem passE_in (K : Int) (D : Nat → Bool) : ∀ (E : List (Int × Int)) (S : Nat), (∀ e ∈ E, D e.1.toNat = true → e.2 ≥ K → D (e.2 - K).toNat = true) → (∀ i, S.testBit i = true → D i = true) → ∀ i, (passE K E S).testBit i = true → D i = true
  | [], _, _, h, i, hi => h i hi
  | e :: E, S, hc, h, i, hi => by
    unfold passE at hi; rw [List.foldl_cons] at hi
    refine passE_in K D E _ (fun f hf => hc f (by simp [hf])) ?_ i hi
    intro j hj
    unfold addC at hj
    split at hj
    · rename_i c
      rw [Nat.testBit_or, Bool.or_eq_true] at hj
      rcases hj with hj | hj
      · exact h j hj
      · rw [Nat.testBit_two_pow, decide_eq_true_eq] at hj
        subst hj
        exact hc e (by simp) (h _ c.1) c.2
    · exact h j hj
theorem addC_lt (K : Int) (n : Nat) (S : Nat) (e : Int × Int) (he : (e.2 - K).toNat < n) (h : S < 2 ^ n) : addC K S e < 2 ^ n := by
  unfold addC
  split
  · exact Nat.or_lt_two_pow h (Nat.pow_lt_pow_right (by omega) he)
  · exact h
theorem passE_lt (K : Int) (n : Nat) : ∀ (E : List (Int × Int)) (S : Nat), (∀ e ∈ E, (e.2 - K).toNat < n) → S < 2 ^ n → passE K E S < 2 ^ n
  | [], _, _, h => h
  | e :: E, S, he, h => by
    unfold passE; rw [List.foldl_cons]
    exact passE_lt K n E _ (fun f hf => he f (by simp [hf])) (addC_lt K n S e (he e (by simp)) h)
def comesG (K N st : Int) (rs : List S38) : Nat := rep (passE K (edgesG rs)) N.toNat (2 ^ st.toNat)
theorem cntP_add (p q : Nat → Bool) (j : Nat) (hj : p j = false) (hq : ∀ i, q i = (decide (i = j) || p i)) : ∀ n, cntP q n = cntP p n + (if j < n then 1 else 0)
  | 0 => by simp [cntP]
  | n + 1 => by
    have ih := cntP_add p q j hj hq n
    simp only [cntP, hq n, ih]
    by_cases e : n = j
    · subst e; simp [hj]
    · by_cases c : j < n
      · simp [e, c, show j < n + 1 by omega]; omega
      · simp [e, c, show ¬ j < n + 1 by omega]
theorem maskB_add (p q : Nat → Bool) (j : Nat) (hj : p j = false) (hq : ∀ i, q i = (decide (i = j) || p i)) : ∀ n, maskB q n = maskB p n + (if j < n then 2 ^ j else 0)
  | 0 => by simp [maskB]
  | n + 1 => by
    have ih := maskB_add p q j hj hq n
    simp only [maskB, hq n, ih]
    by_cases e : n = j
    · subst e; simp [hj]
    · by_cases c : j < n
      · simp [e, c, show j < n + 1 by omega]; omega
      · simp [e, c, show ¬ j < n + 1 by omega]
structure QOK (N : Int) (q : List Int) : Prop where
  nd : q.Nodup
  rg : ∀ y ∈ q, 0 ≤ y ∧ y < N
def inQ (q : List Int) (i : Nat) : Bool := decide ((i : Int) ∈ q)
def msum (q : List Int) : Nat := (q.map fun x => 2 ^ x.toNat).sum
theorem inQ_cons {y : Int} {q : List Int} (h0 : 0 ≤ y) (i : Nat) : inQ (y :: q) i = (decide (i = y.toNat) || inQ q i) := by
  unfold inQ
  rw [Bool.eq_iff_iff]
  simp only [List.mem_cons, decide_eq_true_eq, Bool.or_eq_true]
  constructor
  · rintro (h | h)
    · left; omega
    · right; exact h
  · rintro (h | h)
    · left; omega
    · right; exact h
theorem QOK.tail {N y : Int} {q : List Int} (h : QOK N (y :: q)) : QOK N q := ⟨(List.nodup_cons.1 h.nd).2, fun z hz => h.rg z (by simp [hz])⟩
theorem inQ_no {y : Int} {q : List Int} (h0 : 0 ≤ y) (h : y ∉ q) : inQ q y.toNat = false := by
  unfold inQ; rw [Int.toNat_of_nonneg h0]; exact decide_eq_false h
theorem QOK.cnt {N : Int} : ∀ {q : List Int}, QOK N q → cntP (inQ q) N.toNat = q.length
  | [], _ => by
    have : ∀ n, cntP (inQ []) n = 0 := by intro n; induction n with | zero => rfl | succ n ih => simp [cntP, ih, inQ]
    rw [this]; rfl
  | y :: q, h => by
    have hy := h.rg y (by simp)
    have := cntP_add (inQ q) (inQ (y :: q)) y.toNat (inQ_no hy.1 (List.nodup_cons.1 h.nd).1) (inQ_cons hy.1) N.toNat
    rw [this, QOK.cnt h.tail, if_pos (by omega), List.length_cons]
theorem QOK.len {N : Int} {q : List Int} (h : QOK N q) : q.length ≤ N.toNat := by rw [← h.cnt]; exact cntP_le _ _
theorem QOK.sum {N : Int} : ∀ {q : List Int}, QOK N q → maskB (inQ q) N.toNat = msum q
  | [], _ => by
    have : ∀ n, maskB (inQ []) n = 0 := by intro n; induction n with | zero => rfl | succ n ih => simp [maskB, ih, inQ]
    rw [this]; rfl
  | y :: q, h => by
    have hy := h.rg y (by simp)
    have := maskB_add (inQ q) (inQ (y :: q)) y.toNat (inQ_no hy.1 (List.nodup_cons.1 h.nd).1) (inQ_cons hy.1) N.toNat
    rw [this, QOK.sum h.tail, if_pos (by omega)]
    unfold msum
    rw [List.map_cons, List.sum_cons, Nat.add_comm]
theorem QOK.put {N y : Int} {q : List Int} (h : QOK N q) (h0 : 0 ≤ y) (h1 : y < N) (hn : y ∉ q) : QOK N (q ++ [y]) := by
  refine ⟨?_, ?_⟩
  · rw [List.nodup_append]
    refine ⟨h.nd, by simp, ?_⟩
    intro a ha b hb
    rw [List.mem_singleton] at hb
    subst hb
    intro e; subst e; exact hn ha
  · intro z hz
    rcases List.mem_append.1 hz with hz | hz
    · exact h.rg z hz
    · rw [List.mem_singleton] at hz; subst hz; exact ⟨h0, h1⟩
def addQ (K h : Int) (q : List Int) (e : Int × Int) : List Int := if e.1 = rd q h ∧ e.2 ≥ K ∧ ¬ e.2 - K ∈ q then q ++ [e.2 - K] else q
theorem rd_app (q t : List Int) (h : Int) (h0 : 0 ≤ h) (h1 : h < q.length) : rd (q ++ t) h = rd q h := by
  rw [rd_getElem (l := q) (by omega), rd_getElem (l := q ++ t) (by rw [List.length_append]; omega), List.getElem_append_left]
theorem addQ_pre (K h : Int) (q : List Int) (e : Int × Int) : ∃ t, addQ K h q e = q ++ t := by
  unfold addQ
  split
  · exact ⟨_, rfl⟩
  · exact ⟨[], by simp⟩
theorem addQ_ok {K N h : Int} {q : List Int} {e : Int × Int} (H : QOK N q) (he : e.2 < K + N) : QOK N (addQ K h q e) := by
  unfold addQ
  split
  · rename_i c; exact H.put (by omega) (by omega) c.2.2
  · exact H
theorem foldQ_pre (K h : Int) : ∀ (E : List (Int × Int)) (q : List Int), ∃ t, E.foldl (addQ K h) q = q ++ t
  | [], q => ⟨[], by simp⟩
  | e :: E, q => by
    rw [List.foldl_cons]
    obtain ⟨t, ht⟩ := addQ_pre K h q e
    obtain ⟨u, hu⟩ := foldQ_pre K h E (addQ K h q e)
    exact ⟨t ++ u, by rw [hu, ht, List.append_assoc]⟩
theorem foldQ_ok {K N h : Int} : ∀ (E : List (Int × Int)) (q : List Int), QOK N q → (∀ e ∈ E, e.2 < K + N) → QOK N (E.foldl (addQ K h) q)
  | [], _, H, _ => H
  | e :: E, q, H, he => by rw [List.foldl_cons]; exact foldQ_ok E _ (addQ_ok H (he e (by simp))) (fun f hf => he f (by simp [hf]))
theorem foldQ_mem {K h : Int} (h0 : 0 ≤ h) : ∀ (E : List (Int × Int)) (q : List Int), h < q.length → ∀ e ∈ E, e.1 = rd q h → e.2 ≥ K → e.2 - K ∈ E.foldl (addQ K h) q
  | [], _, _, _, he, _, _ => by simp at he
  | f :: E, q, h1, e, he, h2, h3 => by
    rw [List.foldl_cons]
    obtain ⟨t, ht⟩ := addQ_pre K h q f
    rcases List.mem_cons.1 he with rfl | he
    · obtain ⟨u, hu⟩ := foldQ_pre K h E (addQ K h q e)
      rw [hu, List.mem_append]; left
      unfold addQ
      split
      · simp
      · rename_i c
        by_cases m : e.2 - K ∈ q
        · exact m
        · exact absurd ⟨h2, h3, m⟩ c
    · refine foldQ_mem h0 E _ ?_ e he ?_ h3
      · rw [ht, List.length_append]; omega
      · rw [ht, rd_app q t h h0 h1]; exact h2
theorem foldQ_in {K h : Int} (h0 : 0 ≤ h) (D : Int → Prop) : ∀ (E : List (Int × Int)) (q : List Int), h < q.length → (∀ e ∈ E, D e.1 → e.2 ≥ K → D (e.2 - K)) → (∀ y ∈ q, D y) → ∀ y ∈ E.foldl (addQ K h) q, D y
  | [], _, _, _, g => g
  | e :: E, q, h1, hc, g => by
    rw [List.foldl_cons]
    obtain ⟨t, ht⟩ := addQ_pre K h q e
    refine foldQ_in h0 D E _ (by rw [ht, List.length_append]; omega) (fun f hf => hc f (by simp [hf])) ?_
    intro y hy
    unfold addQ at hy
    split at hy
    · rename_i c
      rcases List.mem_append.1 hy with hy | hy
      · exact g y hy
      · rw [List.mem_singleton] at hy; subst hy
        exact hc e (by simp) (by rw [c.1]; exact g _ (rd_mem h0 h1)) c.2.1
    · exact g y hy
theorem has_ev (q : List Int) (y : Int) (hq : q.length ≤ 1000) : Ev (fun k => Zy.f k q y) (decide (y ∈ q)) := by
  unfold Zy.f
  have := Ev.firstBad (L := fun k i => Zy.l0 k y q (q.length : Int) i) (l := q) (rdf := rd q) (bad := fun z => decide (y = z)) (c := true) (fin := false) (fun i h0 h1 => rd_cons h0 h1) ?_ ?_ ?_
  · have e : decide (y ∈ q) = q.any fun z => decide (y = z) := by
      rw [Bool.eq_iff_iff, decide_eq_true_eq, List.any_eq_true]
      constructor
      · intro h; exact ⟨y, h, decide_eq_true rfl⟩
      · rintro ⟨z, hz, h⟩; rw [of_decide_eq_true h]; exact hz
    rw [e]
    cases h : q.any fun z => decide (y = z) <;> rw [h] at this <;> exact this
  · intro _
    refine Ev.step (fun k => Zy.l0.eq_2 _ _ _ _ k) ?_
    simp (disch := omega) only [if_neg]; exact Ev.now _
  · intro i h0 h1 hb
    refine Ev.step (fun k => Zy.l0.eq_2 _ _ _ _ k) ?_
    simp (disch := omega) only [if_pos, if_pos (of_decide_eq_true hb)]; exact Ev.now _
  · intro i r h0 h1 hb hr
    refine Ev.step (fun k => Zy.l0.eq_2 _ _ _ _ k) ?_
    simp (disch := omega) only [if_pos, if_neg (of_decide_eq_false hb), w64]; exact hr
section
variable (K N st : Int) (rs : List S38) (G : GOK K N st rs)
include G
theorem edge_ok {e : Int × Int} (h : e ∈ edgesG rs) : 0 ≤ e.1 ∧ e.1 < N ∧ 0 ≤ e.2 ∧ e.2 < K + N := by
  obtain ⟨r, hr, h1, h2⟩ := edgesG_mem h
  rw [← h1]
  exact ⟨G.r0 r hr, G.r1 r hr, G.x0 r hr _ h2, G.x1 r hr _ h2⟩
theorem comes_lt : comesG K N st rs < 2 ^ N.toNat := by
  have hN := G.N0; have h0 := G.s0; have h1 := G.s1
  exact rep_lt _ _ (fun s hs => passE_lt K N.toNat _ s (fun e he => by have := edge_ok K N st rs G he; omega) hs) _ _ (Nat.pow_lt_pow_right (by omega) (by omega))
theorem comes_start : (comesG K N st rs).testBit st.toNat = true := by
  unfold comesG
  induction N.toNat with
  | zero => simp [rep]
  | succ n ih => rw [rep_succ]; exact passE_sub K _ _ _ ih
theorem comes_closed {e : Int × Int} (he : e ∈ edgesG rs) (h1 : (comesG K N st rs).testBit e.1.toNat = true) (h2 : e.2 ≥ K) : (comesG K N st rs).testBit (e.2 - K).toNat = true := by
  have hp := passE_mem K (edgesG rs) (comesG K N st rs) e he h1 h2
  have ho := edge_ok K N st rs G he
  have hlt : ∀ d, rep (passE K (edgesG rs)) d (2 ^ st.toNat) < 2 ^ N.toNat := fun d => rep_lt _ _ (fun s hs => passE_lt K N.toNat _ s (fun e he => by have := edge_ok K N st rs G he; omega) hs) _ _ (Nat.pow_lt_pow_right (by omega) (by have := G.s1; have := G.s0; omega))
  have key := chain_stop N.toNat (fun d i => (rep (passE K (edgesG rs)) d (2 ^ st.toNat)).testBit i) (fun d i _ h => by rw [rep_succ]; exact passE_sub K _ _ i h) (by
    intro d h
    have e : rep (passE K (edgesG rs)) (d + 1) (2 ^ st.toNat) = rep (passE K (edgesG rs)) d (2 ^ st.toNat) := by
      apply Nat.eq_of_testBit_eq
      intro i
      by_cases hi : i < N.toNat
      · exact h i hi
      · have hi2 : 2 ^ N.toNat ≤ 2 ^ i := Nat.pow_le_pow_right (by omega) (by omega)
        rw [Nat.testBit_lt_two_pow (Nat.lt_of_lt_of_le (hlt _) hi2), Nat.testBit_lt_two_pow (Nat.lt_of_lt_of_le (hlt _) hi2)]
    intro i _
    have e2 := e
    rw [rep_succ] at e2
    rw [rep_succ _ (d + 1), e, e2])
  have := key (e.2 - K).toNat (by omega)
  rw [rep_succ] at this
  unfold comesG at hp ⊢
  rw [← this]; exact hp
theorem comes_least (D : Nat → Bool) (hc : ∀ e ∈ edgesG rs, D e.1.toNat = true → e.2 ≥ K → D (e.2 - K).toNat = true) (hs : D st.toNat = true) (i : Nat) (h : (comesG K N st rs).testBit i = true) : D i = true := by
  unfold comesG at h
  have key : ∀ n i, (rep (passE K (edgesG rs)) n (2 ^ st.toNat)).testBit i = true → D i = true := by
    intro n
    induction n with
    | zero => intro i h; simp only [rep, Nat.testBit_two_pow, decide_eq_true_eq] at h; subst h; exact hs
    | succ n ih => rw [rep_succ]; exact passE_in K D _ _ hc ih
  exact key _ i h
theorem lt32C {S : Nat} (h : S < 2 ^ N.toNat) : S < 2 ^ 32 := Nat.lt_of_lt_of_le h (Nat.pow_le_pow_right (by omega) (by have := G.N1; omega))
theorem comes_l0 (d : Nat) : ∀ (j : Int) (S : Nat), 0 ≤ j → j + d = N → S < 2 ^ N.toNat → Ev (fun k => Ze1.l0 k (S : Int) N j K N st rs) (((rep (passE K (edgesG rs)) d S : Nat) : Int), 0) := by
  have hlen := G.len; have hN1 := G.N1; have hK0 := G.K0; have hK1 := G.K1
  induction d with
  | zero =>
    intro j S h0 h1 hS
    refine Ev.step (fun k => Ze1.l0.eq_2 _ _ _ _ _ _ _ k) ?_
    simp (disch := omega) only [if_neg]; exact Ev.now _
  | succ d ih =>
    intro j S h0 h1 hS
    refine Ev.step (fun k => Ze1.l0.eq_2 _ _ _ _ _ _ _ k) ?_
    simp (disch := omega) only [if_pos]
    refine Ev.loop (L := fun k i (T : Nat) => Ze1.l1 k (T : Int) N j rs (rs.length : Int) i K N st rs) (n := rs.length) (fun i T => T < 2 ^ N.toNat ∧ passE K (edgesG (rs.drop i.toNat)) T = passE K (edgesG rs) S) ?_ ?_ 0 S (Int.le_refl _) (by omega) ⟨hS, rfl⟩
    · intro T hT
      refine Ev.step (fun k => Ze1.l1.eq_2 _ _ _ _ _ _ _ _ _ _ k) ?_
      simp (disch := omega) only [if_neg, w64]
      have e : T = passE K (edgesG rs) S := by have := hT.2; rw [Int.toNat_natCast, List.drop_length] at this; exact this
      have := ih (j + 1) T (by omega) (by omega) hT.1
      rw [e] at this ⊢; exact this
    · intro i T h2 h3 hT
      right
      have hm := rule_mem h2 h3
      obtain ⟨hT1, hT2⟩ := hT
      rw [rd_rule h2 h3, edgesG_cons] at hT2
      unfold passE at hT2
      rw [List.foldl_append] at hT2
      have hrl := G.rl _ hm
      have hx0 := G.x0 _ hm
      have hx1 := G.x1 _ hm
      obtain ⟨q, hq⟩ := Int.eq_ofNat_of_zero_le (G.r0 _ hm)
      have hq1 := G.r1 _ hm
      obtain ⟨r, hr⟩ : ∃ r, Zb rs i = r := ⟨_, rfl⟩
      rw [hr] at hm hT2 hrl hx0 hx1 hq hq1
      have hE : ∀ e ∈ r.f1.map (fun x => (r.f0, x)), (e.2 - K).toNat < N.toNat := by
        intro e he
        rw [List.mem_map] at he
        obtain ⟨x, hx, rfl⟩ := he
        have := hx0 x hx; have := hx1 x hx
        show (x - K).toNat < N.toNat
        omega
      refine ⟨(r.f1.map fun x => (r.f0, x)).foldl (addC K) T, ⟨passE_lt K N.toNat _ T hE hT1, hT2⟩, ?_⟩
      intro h
      refine Ev.step (fun k => Ze1.l1.eq_2 _ _ _ _ _ _ _ _ _ _ k) ?_
      simp (disch := omega) only [if_pos, hr]
      refine Ev.loop (L := fun k t (U : Nat) => Ze1.l2 k (U : Int) N j rs (rs.length : Int) i r.f1 (r.f1.length : Int) t K N st rs r.f0 r.f1) (n := r.f1.length) (fun t U => U < 2 ^ N.toNat ∧ ((r.f1.drop t.toNat).map fun x => (r.f0, x)).foldl (addC K) U = (r.f1.map fun x => (r.f0, x)).foldl (addC K) T) ?_ ?_ 0 T (Int.le_refl _) (by omega) ⟨hT1, rfl⟩
      · intro U hU
        have e := hU.2
        rw [Int.toNat_natCast, List.drop_length, List.map_nil, List.foldl_nil] at e
        refine Ev.step (fun k => Ze1.l2.eq_2 _ _ _ _ _ _ _ _ _ _ _ _ _ _ _ k) ?_
        simp (disch := omega) only [if_neg (show ¬ ((r.f1.length : Nat) : Int) < (r.f1.length : Nat) by omega), w64]
        rw [e]; exact h
      · intro t U h4 h5 hU
        right
        obtain ⟨hU1, hU2⟩ := hU
        rw [rd_cons h4 h5, List.map_cons, List.foldl_cons] at hU2
        have hx := rd_mem h4 h5
        have hy0 := hx0 _ hx
        have hy1 := hx1 _ hx
        refine ⟨addC K U (r.f0, rd r.f1 t), ⟨addC_lt K N.toNat U _ (by show (rd r.f1 t - K).toNat < N.toNat; omega) hU1, hU2⟩, ?_⟩
        intro h6
        have hU32 := lt32C K N st rs G hU1
        refine Ev.step (fun k => Ze1.l2.eq_2 _ _ _ _ _ _ _ _ _ _ _ _ _ _ _ k) ?_
        simp (disch := omega) only [if_pos, w64]
        unfold addC at h6
        rw [hq] at h6 ⊢
        simp only [Int.toNat_natCast] at h6
        have hb := bit_shr U q hU32 (by omega)
        by_cases c1 : U.testBit q = true
        · by_cases c2 : rd r.f1 t ≥ K
          · obtain ⟨y, hy⟩ := Int.eq_ofNat_of_zero_le (show 0 ≤ rd r.f1 t - K by omega)
            simp only [c1, c2, and_self, if_true, hy, Int.toNat_natCast] at h6
            simp only [if_pos (hb.2 c1), if_pos c2]
            simp (disch := omega) only [w64, hy, if_pos (show (0 : Int) ≤ (y : Int) by omega), bit_or U y hU32 (by omega)]
            exact h6
          · simp only [c2, and_false, if_false] at h6
            simp only [if_pos (hb.2 c1), if_neg c2]; exact h6
        · simp only [c1, false_and, if_false] at h6
          simp only [if_neg (fun q2 => c1 (hb.1 q2))]; exact h6
theorem comes_ev : Ev (fun k => Ze1.l0 k (shl .u32 1 st) N 0 K N st rs) (((comesG K N st rs : Nat) : Int), 0) := by
  obtain ⟨s, hs⟩ := Int.eq_ofNat_of_zero_le G.s0
  have h1 := G.s1; have hN := G.N1; have hN0 := G.N0
  have := comes_l0 K N st rs G N.toNat 0 (2 ^ s) (by omega) (by omega) (Nat.pow_lt_pow_right (by omega) (by omega))
  unfold comesG
  have e : shl .u32 1 st = ((2 ^ s : Nat) : Int) := by rw [hs]; exact shl1 s (by omega)
  rw [e, show st.toNat = s by omega]; exact this
theorem rcomes_l1 (h : Int) (h0 : 0 ≤ h) (q0 : List Int) (hq0 : QOK N q0) (hl : h < q0.length) (R : Int)
    (hk : Ev (fun k => Zw.l0 k ((edgesG rs).foldl (addQ K h) q0) (h + 1) K N st rs) R) : Ev (fun k => Zw.l1 k q0 h rs (rs.length : Int) 0 K N st rs) R := by
  have hlen := G.len; have hN1 := G.N1; have hN0 := G.N0; have hK0 := G.K0; have hK1 := G.K1
  refine Ev.loop (L := fun k i (q : List Int) => Zw.l1 k q h rs (rs.length : Int) i K N st rs) (n := rs.length) (fun i q => QOK N q ∧ h < q.length ∧ (edgesG (rs.drop i.toNat)).foldl (addQ K h) q = (edgesG rs).foldl (addQ K h) q0) ?_ ?_ 0 q0 (Int.le_refl _) (by omega) ⟨hq0, hl, rfl⟩
  · rintro q ⟨g1, g2, g3⟩
    rw [Int.toNat_natCast, List.drop_length] at g3
    have g3 : q = (edgesG rs).foldl (addQ K h) q0 := g3
    have hql := g1.len
    refine Ev.step (fun k => Zw.l1.eq_2 _ _ _ _ _ _ _ _ _ k) ?_
    simp (disch := omega) only [if_neg (show ¬ ((rs.length : Nat) : Int) < (rs.length : Nat) by omega), w64]
    rw [g3]; exact hk
  · rintro i q h2 h3 ⟨g1, g2, g3⟩
    right
    have hm := rule_mem h2 h3
    rw [rd_rule h2 h3, edgesG_cons, List.foldl_append] at g3
    have hrl := G.rl _ hm
    have hx0 := G.x0 _ hm
    have hx1 := G.x1 _ hm
    obtain ⟨r, hr⟩ : ∃ r, Zb rs i = r := ⟨_, rfl⟩
    rw [hr] at hm g3 hrl hx0 hx1
    have hE : ∀ e ∈ r.f1.map (fun x => (r.f0, x)), e.2 < K + N := by
      intro e he
      rw [List.mem_map] at he
      obtain ⟨x, hx, rfl⟩ := he
      exact hx1 x hx
    have hpre := foldQ_pre K h (r.f1.map fun x => (r.f0, x)) q
    refine ⟨(r.f1.map fun x => (r.f0, x)).foldl (addQ K h) q, ⟨foldQ_ok _ q g1 hE, ?_, g3⟩, ?_⟩
    · obtain ⟨t, ht⟩ := hpre; rw [ht, List.length_append]; omega
    intro h4
    refine Ev.step (fun k => Zw.l1.eq_2 _ _ _ _ _ _ _ _ _ k) ?_
    simp (disch := omega) only [if_pos, hr]
    refine Ev.loop (L := fun k t (u : List Int) => Zw.l2 k u h rs (rs.length : Int) i r.f1 (r.f1.length : Int) t K N st rs r.f0 r.f1) (n := r.f1.length) (fun t u => QOK N u ∧ h < u.length ∧ ((r.f1.drop t.toNat).map fun x => (r.f0, x)).foldl (addQ K h) u = (r.f1.map fun x => (r.f0, x)).foldl (addQ K h) q) ?_ ?_ 0 q (Int.le_refl _) (by omega) ⟨g1, g2, rfl⟩
    · rintro u ⟨f1, f2, f3⟩
      rw [Int.toNat_natCast, List.drop_length, List.map_nil, List.foldl_nil] at f3
      refine Ev.step (fun k => Zw.l2.eq_2 _ _ _ _ _ _ _ _ _ _ _ _ _ _ k) ?_
      simp (disch := omega) only [if_neg (show ¬ ((r.f1.length : Nat) : Int) < (r.f1.length : Nat) by omega), w64]
      rw [f3]; exact h4
    · rintro t u h5 h6 ⟨f1, f2, f3⟩
      right
      rw [rd_cons h5 h6, List.map_cons, List.foldl_cons] at f3
      have hx := rd_mem h5 h6
      have hy0 := hx0 _ hx
      have hy1 := hx1 _ hx
      have hul := f1.len
      refine ⟨addQ K h u (r.f0, rd r.f1 t), ⟨addQ_ok f1 hy1, ?_, f3⟩, ?_⟩
      · obtain ⟨v, hv⟩ := addQ_pre K h u (r.f0, rd r.f1 t); rw [hv, List.length_append]; omega
      intro h7
      refine Ev.step (fun k => Zw.l2.eq_2 _ _ _ _ _ _ _ _ _ _ _ _ _ _ k) ?_
      simp (disch := omega) only [if_pos, w64]
      unfold addQ at h7
      simp only at h7
      by_cases c1 : r.f0 = rd u h
      · by_cases c2 : rd r.f1 t ≥ K
        · simp only [if_pos c1, if_pos c2]
          refine Ev.bind (has_ev u _ (by omega)) ?_
          by_cases c3 : rd r.f1 t - K ∈ u
          · rw [if_neg (by simp [c3])] at h7
            simp only [decide_eq_true c3, if_true]; exact h7
          · rw [if_pos ⟨c1, c2, c3⟩] at h7
            simp only [decide_eq_false c3, Bool.false_eq_true, if_false]; exact h7
        · rw [if_neg (by simp [c2])] at h7
          simp only [if_pos c1, if_neg c2]; exact h7
      · rw [if_neg (by simp [c1])] at h7
        simp only [if_neg c1]; exact h7
theorem rcomes_l3 (q : List Int) (hq : QOK N q) : Ev (fun k => Zw.l3 k 0 q (q.length : Int) 0) ((msum q : Nat) : Int) := by
  have hlen := hq.len; have hN1 := G.N1
  have hlt : msum q < 2 ^ 32 := by rw [← hq.sum]; exact lt32C K N st rs G (maskB_lt _ _)
  refine Ev.loop (L := fun k i (a : Nat) => Zw.l3 k (a : Int) q (q.length : Int) i) (n := q.length) (fun i a => a + msum (q.drop i.toNat) = msum q) ?_ ?_ 0 0 (Int.le_refl _) (by omega) (by simp)
  · intro a ha
    rw [Int.toNat_natCast, List.drop_length] at ha
    have ha : a = msum q := ha
    refine Ev.step (fun k => Zw.l3.eq_2 _ _ _ _ k) ?_
    simp (disch := omega) only [if_neg (show ¬ ((q.length : Nat) : Int) < (q.length : Nat) by omega)]
    rw [ha]; exact Ev.now _
  · intro i a h0 h1 ha
    right
    have hr := hq.rg _ (rd_mem h0 h1)
    rw [rd_cons h0 h1] at ha
    have ha : a + (2 ^ (rd q i).toNat + msum (q.drop (i + 1).toNat)) = msum q := ha
    obtain ⟨y, hy⟩ := Int.eq_ofNat_of_zero_le hr.1
    refine ⟨a + 2 ^ y, by rw [hy, Int.toNat_natCast] at ha; omega, ?_⟩
    intro h2
    rw [hy, Int.toNat_natCast] at ha
    refine Ev.step (fun k => Zw.l3.eq_2 _ _ _ _ k) ?_
    simp (disch := omega) only [if_pos, w64]
    rw [hy, u64_id (by omega) (by omega), shl1 y (by omega)]
    simp only [if_pos (show (0 : Int) ≤ (y : Int) by omega)]
    obtain ⟨z, hz⟩ : ∃ z : Nat, 2 ^ y = z := ⟨_, rfl⟩
    rw [hz] at ha h2 ⊢
    rw [show ((a : Int) + ((z : Nat) : Int)) % 4294967296 = ((a + z : Nat) : Int) by omega]
    exact h2
theorem rcomes_l0 (d : Nat) : ∀ (q : List Int) (h : Int), 0 ≤ h → h ≤ q.length → h + d = N → QOK N q → st ∈ q → (∀ i, 0 ≤ i → i < h → ∀ e ∈ edgesG rs, e.1 = rd q i → e.2 ≥ K → e.2 - K ∈ q) → (∀ y ∈ q, (comesG K N st rs).testBit y.toNat = true) →
    Ev (fun k => Zw.l0 k q h K N st rs) ((comesG K N st rs : Nat) : Int) := by
  have fin : ∀ (q : List Int) (h : Int), h = q.length → QOK N q → st ∈ q → (∀ i, 0 ≤ i → i < h → ∀ e ∈ edgesG rs, e.1 = rd q i → e.2 ≥ K → e.2 - K ∈ q) → (∀ y ∈ q, (comesG K N st rs).testBit y.toNat = true) →
    Ev (fun k => Zw.l0 k q h K N st rs) ((comesG K N st rs : Nat) : Int) := by
    intro q h hl hq hs hc hin
    have e : comesG K N st rs = msum q := by
      rw [← hq.sum]
      apply Nat.eq_of_testBit_eq
      intro i
      rw [maskB_bit]
      by_cases hi : i < N.toNat
      · rw [decide_eq_true hi, Bool.true_and, Bool.eq_iff_iff]
        constructor
        · refine comes_least K N st rs G (inQ q) ?_ ?_ i
          · intro e he h1 h2
            have ho := edge_ok K N st rs G he
            unfold inQ at h1 ⊢
            rw [Int.toNat_of_nonneg ho.1, decide_eq_true_eq] at h1
            rw [Int.toNat_of_nonneg (by omega), decide_eq_true_eq]
            obtain ⟨j, hj, e2⟩ := List.mem_iff_getElem.1 h1
            refine hc j (by omega) (by omega) e he ?_ h2
            rw [rd_getElem (by omega)]; simpa using e2.symm
          · unfold inQ; rw [Int.toNat_of_nonneg G.s0]; exact decide_eq_true hs
        · intro h1
          unfold inQ at h1
          have := hin _ (of_decide_eq_true h1)
          rwa [Int.toNat_natCast] at this
      · rw [decide_eq_false hi, Bool.false_and]
        exact Nat.testBit_lt_two_pow (Nat.lt_of_lt_of_le (comes_lt K N st rs G) (Nat.pow_le_pow_right (by omega) (by omega)))
    refine Ev.step (fun k => Zw.l0.eq_2 _ _ _ _ _ _ k) ?_
    simp (disch := omega) only [if_neg]
    rw [e]; exact rcomes_l3 K N st rs G q hq
  induction d with
  | zero =>
    intro q h h0 h1 hd hq hs hc hin
    have := hq.len
    exact fin q h (by omega) hq hs hc hin
  | succ d ih =>
    intro q h h0 h1 hd hq hs hc hin
    by_cases hl : h < q.length
    · refine Ev.step (fun k => Zw.l0.eq_2 _ _ _ _ _ _ k) ?_
      simp (disch := omega) only [if_pos]
      refine rcomes_l1 K N st rs G h h0 q hq hl _ ?_
      obtain ⟨t, ht⟩ := foldQ_pre K h (edgesG rs) q
      have hmem := foldQ_mem (K := K) h0 (edgesG rs) q hl
      have hin2 := foldQ_in (K := K) h0 (fun y => (comesG K N st rs).testBit y.toNat = true) (edgesG rs) q hl (fun e he a b => comes_closed K N st rs G he a b) hin
      have hok := foldQ_ok (K := K) (h := h) (edgesG rs) q hq (fun e he => (edge_ok K N st rs G he).2.2.2)
      refine ih _ (h + 1) (by omega) ?_ (by omega) hok ?_ ?_ hin2
      · rw [ht, List.length_append]; omega
      · rw [ht, List.mem_append]; exact .inl hs
      · intro i i0 i1 e he h2 h3
        by_cases c : i = h
        · subst c
          refine hmem e he ?_ h3
          rw [h2, ht, rd_app q t i h0 hl]
        · rw [ht, rd_app q t i i0 (by omega)] at h2
          rw [ht, List.mem_append]
          exact .inl (hc i i0 (by omega) e he h2 h3)
    · exact fin q h (by omega) hq hs hc hin
theorem rcomes_ev : Ev (fun k => Zw.f k K N st rs) ((comesG K N st rs : Nat) : Int) := by
  unfold Zw.f
  have h0 := G.s0; have h1 := G.s1; have hN := G.N0
  refine rcomes_l0 K N st rs G N.toNat [st] 0 (by omega) (by simp) (by omega) ⟨by simp, ?_⟩ (by simp) (fun i a b => by omega) ?_
  · intro y hy; rw [List.mem_singleton] at hy; subst hy; exact ⟨h0, h1⟩
  · intro y hy; rw [List.mem_singleton] at hy; subst hy; exact comes_start K N y rs G
end
theorem Bit_eq (a i : Nat) (ha : a < 2 ^ 32) (hi : i < 32) : Zt1.f (a : Int) (i : Int) = some (a.testBit i) := by
  unfold Zt1.f
  simp (disch := omega) only [if_pos, u64_id, bit_and a i ha hi]
theorem andNot_ne (a b : Nat) (ha : a < 2 ^ 32) (hb : b < 2 ^ 32) : (Go.bits .andNot .u32 (a : Int) (b : Int) != 0) = decide (b ||| a ≠ b) := by
  rw [Go.u32_andNot_nat a b (by omega) (by omega)]
  have e : 4294967295 - b = 2 ^ 32 - (b + 1) := by omega
  rw [e, Bool.eq_iff_iff, bne_iff_ne, decide_eq_true_eq]
  constructor
  · intro h q
    apply h
    have : a &&& (2 ^ 32 - (b + 1)) = 0 := by
      apply Nat.eq_of_testBit_eq
      intro i
      rw [Nat.testBit_and, Nat.testBit_two_pow_sub_succ hb, Nat.zero_testBit]
      have := congrArg (fun z => z.testBit i) q
      simp only [Nat.testBit_or] at this
      cases h1 : a.testBit i <;> cases h2 : b.testBit i <;> simp_all
    rw [this]; rfl
  · intro h q
    apply h
    have q : a &&& (2 ^ 32 - (b + 1)) = 0 := by omega
    apply Nat.eq_of_testBit_eq
    intro i
    have h3 := congrArg (fun z => z.testBit i) q
    simp only [Nat.testBit_and, Nat.testBit_two_pow_sub_succ hb, Nat.zero_testBit] at h3
    rw [Nat.testBit_or]
    cases h1 : a.testBit i with
    | false => simp
    | true =>
      have hi : i < 32 := by
        rcases Nat.lt_or_ge i 32 with c | c
        · exact c
        · rw [Nat.testBit_lt_two_pow (Nat.lt_of_lt_of_le ha (Nat.pow_le_pow_right (by omega) c))] at h1; cases h1
      rw [h1, decide_eq_true hi] at h3
      cases h2 : b.testBit i with
      | true => rfl
      | false => rw [h2] at h3; simp at h3
theorem bits_in {a b n : Nat} (ha : a < 2 ^ n) (h : b ||| a ≠ b) : ∃ i, i < n ∧ b.testBit i = false ∧ (b ||| a).testBit i = true := by
  rcases Classical.em (∃ i, i < n ∧ b.testBit i = false ∧ (b ||| a).testBit i = true) with q | q
  · exact q
  · exfalso; apply h
    apply Nat.eq_of_testBit_eq
    intro i
    rw [Nat.testBit_or]
    cases h1 : a.testBit i with
    | false => simp
    | true =>
      have hi : i < n := by
        rcases Nat.lt_or_ge i n with c | c
        · exact c
        · rw [Nat.testBit_lt_two_pow (Nat.lt_of_lt_of_le ha (Nat.pow_le_pow_right (by omega) c))] at h1; cases h1
      cases h2 : b.testBit i with
      | true => rfl
      | false => exact absurd ⟨i, hi, h2, by rw [Nat.testBit_or, h1, Bool.or_true]⟩ q
def reachE (K N : Int) (E : List (Int × Int)) (S : Nat) : Nat := rep (passE K E) N.toNat S
section
variable (K N : Int) (E : List (Int × Int)) (S : Nat) (hE : ∀ e ∈ E, 0 ≤ e.1 ∧ e.1 < N ∧ 0 ≤ e.2 ∧ e.2 < K + N) (hS : S < 2 ^ N.toNat) (hN : 1 ≤ N)
include hE hS hN
theorem reach_lts (d : Nat) : rep (passE K E) d S < 2 ^ N.toNat := rep_lt _ _ (fun s hs => passE_lt K N.toNat _ s (fun e he => by have := hE e he; omega) hs) _ _ hS
theorem reach_lt : reachE K N E S < 2 ^ N.toNat := reach_lts K N E S hE hS hN _
theorem reach_start (i : Nat) (h : S.testBit i = true) : (reachE K N E S).testBit i = true := by
  unfold reachE
  induction N.toNat with
  | zero => exact h
  | succ n ih => rw [rep_succ]; exact passE_sub K _ _ _ ih
theorem reach_closed {e : Int × Int} (he : e ∈ E) (h1 : (reachE K N E S).testBit e.1.toNat = true) (h2 : e.2 ≥ K) : (reachE K N E S).testBit (e.2 - K).toNat = true := by
  have hp := passE_mem K E (reachE K N E S) e he h1 h2
  have ho := hE e he
  have hlt := reach_lts K N E S hE hS hN
  have key := chain_stop N.toNat (fun d i => (rep (passE K E) d S).testBit i) (fun d i _ h => by rw [rep_succ]; exact passE_sub K _ _ i h) (by
    intro d h
    have e : rep (passE K E) (d + 1) S = rep (passE K E) d S := by
      apply Nat.eq_of_testBit_eq
      intro i
      by_cases hi : i < N.toNat
      · exact h i hi
      · have hi2 : 2 ^ N.toNat ≤ 2 ^ i := Nat.pow_le_pow_right (by omega) (by omega)
        rw [Nat.testBit_lt_two_pow (Nat.lt_of_lt_of_le (hlt _) hi2), Nat.testBit_lt_two_pow (Nat.lt_of_lt_of_le (hlt _) hi2)]
    intro i _
    have e2 := e
    rw [rep_succ] at e2
    rw [rep_succ _ (d + 1), e, e2])
  have := key (e.2 - K).toNat (by omega)
  rw [rep_succ] at this
  unfold reachE at hp ⊢
  rw [← this]; exact hp
theorem reach_least (D : Nat → Bool) (hc : ∀ e ∈ E, D e.1.toNat = true → e.2 ≥ K → D (e.2 - K).toNat = true) (hs : ∀ i, S.testBit i = true → D i = true) (i : Nat) (h : (reachE K N E S).testBit i = true) : D i = true := by
  unfold reachE at h
  have key : ∀ n i, (rep (passE K E) n S).testBit i = true → D i = true := by
    intro n
    induction n with
    | zero => intro i h; exact hs i h
    | succ n ih => rw [rep_succ]; exact passE_in K D _ _ hc ih
  exact key _ i h
end
theorem take_rd1 {q : List Int} {h : Int} (h0 : 0 ≤ h) (h1 : h < q.length) : q.take (h + 1).toNat = q.take h.toNat ++ [rd q h] := take_rd h0 h1
theorem bfs {σ ρ : Type} {K N : Int} {E : List (Int × Int)} {S : Nat} (hE : ∀ e ∈ E, 0 ≤ e.1 ∧ e.1 < N ∧ 0 ≤ e.2 ∧ e.2 < K + N) (hN : 1 ≤ N) {L : Nat → List Int → Int → σ → Option ρ} {R : ρ} (upd : σ → Int → σ) (s0 : σ)
    (fin : ∀ (q : List Int), QOK N q → maskB (inQ q) N.toNat = reachE K N E S → Ev (fun k => L k q q.length (q.foldl upd s0)) R)
    (step : ∀ (q : List Int) (h : Int) (s : σ), 0 ≤ h → h < q.length → QOK N q → (∀ y ∈ q, (reachE K N E S).testBit y.toNat = true) → s = (q.take h.toNat).foldl upd s0 → Ev (fun k => L k (E.foldl (addQ K h) q) (h + 1) (upd s (rd q h))) R → Ev (fun k => L k q h s) R)
    (q0 : List Int) (hq0 : QOK N q0) (hS : S = maskB (inQ q0) N.toNat) : Ev (fun k => L k q0 0 s0) R := by
  have hS2 : S < 2 ^ N.toNat := by rw [hS]; exact maskB_lt _ _
  have key : ∀ (d : Nat) (q : List Int) (h : Int), 0 ≤ h → h ≤ q.length → h + d = N → QOK N q → (∀ y ∈ q0, y ∈ q) → (∀ i, 0 ≤ i → i < h → ∀ e ∈ E, e.1 = rd q i → e.2 ≥ K → e.2 - K ∈ q) → (∀ y ∈ q, (reachE K N E S).testBit y.toNat = true) →
      Ev (fun k => L k q h ((q.take h.toNat).foldl upd s0)) R := by
    have stop : ∀ (q : List Int) (h : Int), h = q.length → QOK N q → (∀ y ∈ q0, y ∈ q) → (∀ i, 0 ≤ i → i < h → ∀ e ∈ E, e.1 = rd q i → e.2 ≥ K → e.2 - K ∈ q) → (∀ y ∈ q, (reachE K N E S).testBit y.toNat = true) →
      Ev (fun k => L k q h ((q.take h.toNat).foldl upd s0)) R := by
      intro q h hl hq hs hc hin
      subst hl
      rw [Int.toNat_natCast, List.take_length]
      refine fin q hq ?_
      apply Nat.eq_of_testBit_eq
      intro i
      rw [maskB_bit]
      by_cases hi : i < N.toNat
      · rw [decide_eq_true hi, Bool.true_and, Bool.eq_iff_iff]
        constructor
        · intro h1
          unfold inQ at h1
          have := hin _ (of_decide_eq_true h1)
          rwa [Int.toNat_natCast] at this
        · refine reach_least K N E S hE hS2 hN (inQ q) ?_ ?_ i
          · intro e he h1 h2
            have ho := hE e he
            unfold inQ at h1 ⊢
            rw [Int.toNat_of_nonneg ho.1, decide_eq_true_eq] at h1
            rw [Int.toNat_of_nonneg (by omega), decide_eq_true_eq]
            obtain ⟨j, hj, e2⟩ := List.mem_iff_getElem.1 h1
            refine hc j (by omega) (by omega) e he ?_ h2
            rw [rd_getElem (by omega)]; simpa using e2.symm
          · intro j hj
            rw [hS, maskB_bit, Bool.and_eq_true] at hj
            have := of_decide_eq_true hj.2
            exact decide_eq_true (hs _ this)
      · rw [decide_eq_false hi, Bool.false_and]
        exact (Nat.testBit_lt_two_pow (Nat.lt_of_lt_of_le (reach_lt K N E S hE hS2 hN) (Nat.pow_le_pow_right (by omega) (by omega)))).symm
    intro d
    induction d with
    | zero =>
      intro q h h0 h1 hd hq hs hc hin
      have := hq.len
      exact stop q h (by omega) hq hs hc hin
    | succ d ih =>
      intro q h h0 h1 hd hq hs hc hin
      by_cases hl : h < q.length
      · refine step q h _ h0 hl hq hin rfl ?_
        obtain ⟨t, ht⟩ := foldQ_pre K h E q
        have hmem := foldQ_mem (K := K) h0 E q hl
        have hin2 := foldQ_in (K := K) h0 (fun y => (reachE K N E S).testBit y.toNat = true) E q hl (fun e he a b => reach_closed K N E S hE hS2 hN he a b) hin
        have hok := foldQ_ok (K := K) (h := h) E q hq (fun e he => (hE e he).2.2.2)
        have e1 : upd ((q.take h.toNat).foldl upd s0) (rd q h) = ((E.foldl (addQ K h) q).take (h + 1).toNat).foldl upd s0 := by
          rw [ht, List.take_append_of_le_length (by omega), take_rd1 h0 hl, List.foldl_append]; rfl
        rw [e1]
        refine ih _ (h + 1) (by omega) ?_ (by omega) hok ?_ ?_ hin2
        · rw [ht, List.length_append]; omega
        · intro y hy; rw [ht, List.mem_append]; exact .inl (hs y hy)
        · intro i i0 i1 e he h2 h3
          by_cases c : i = h
          · subst c
            refine hmem e he ?_ h3
            rw [h2, ht, rd_app q t i h0 hl]
          · rw [ht, rd_app q t i i0 (by omega)] at h2
            rw [ht, List.mem_append]
            exact .inl (hc i i0 (by omega) e he h2 h3)
      · exact stop q h (by omega) hq hs hc hin
  have hlen := hq0.len
  have := key N.toNat q0 0 (by omega) (by omega) (by omega) hq0 (fun y hy => hy) (fun i a b => by omega) (fun y hy => by
    have h := hq0.rg y hy
    refine reach_start K N E S hE hS2 hN _ ?_
    rw [hS, maskB_bit, decide_eq_true (by omega), Bool.true_and]
    unfold inQ
    rw [Int.toNat_of_nonneg h.1]; exact decide_eq_true hy)
  simpa using this
def tot (n : Nat) (F : List Nat) : Nat := (F.map (cnt n)).sum
theorem tot_le (n : Nat) : ∀ F, tot n F ≤ F.length * n
  | [] => by simp [tot]
  | s :: F => by
    have := tot_le n F
    have h := cnt_le n s
    unfold tot at this ⊢
    rw [List.map_cons, List.sum_cons, List.length_cons, Nat.succ_mul]; omega
theorem tot_set (n v : Nat) : ∀ (F : List Nat) (i : Nat), i < F.length → tot n (F.set i v) + cnt n (F.getD i 0) = tot n F + cnt n v
  | [], i, h => by simp at h
  | s :: F, 0, _ => by simp [tot]; omega
  | s :: F, i + 1, h => by
    have := tot_set n v F i (by simpa using h)
    unfold tot at this ⊢
    simp only [List.set_cons_succ, List.map_cons, List.sum_cons, List.getD_cons_succ]; omega
theorem rdF (F : List Nat) (i : Int) : rd (F.map fun n : Nat => (n : Int)) i = ((F.getD i.toNat 0 : Nat) : Int) := by
  unfold rd
  rw [List.getD_eq_getElem?_getD, List.getD_eq_getElem?_getD, List.getElem?_map]
  cases F[i.toNat]? <;> rfl
theorem setF (F : List Nat) (i v : Nat) : (F.map fun n : Nat => (n : Int)).set i (v : Int) = (F.set i v).map fun n : Nat => (n : Int) := by rw [List.map_set]
theorem getD_set (F : List Nat) (i j v : Nat) (h : i < F.length) : (F.set i v).getD j 0 = if i = j then v else F.getD j 0 := by
  rw [List.getD_eq_getElem?_getD, List.getD_eq_getElem?_getD, List.getElem?_set]
  by_cases c : i = j
  · subst c; simp [h]
  · simp [c]
def hs (K : Int) (V : Nat) : List Int → List Int
  | [] => []
  | x :: l => x :: (if x < K then [] else if V.testBit (x - K).toNat = true then hs K V l else [])
def allV (K : Int) (V : Nat) (l : List Int) : Bool := l.all fun x => decide (x ≥ K) && V.testBit (x - K).toNat
def valF (K : Int) (F : List Nat) (x : Int) : Nat := if x < K then 2 ^ x.toNat else F.getD (x - K).toNat 0
def bgo (K : Int) (F : List Nat) (xs : List Int) (a : Nat) : Nat := xs.foldl (fun a x => a ||| valF K F x) a
def bgin (K : Int) (V : Nat) (F : List Nat) (l : List Int) : Nat := bgo K F (hs K V l) 0
theorem hs_sub (K : Int) (V : Nat) : ∀ (l : List Int) (x : Int), x ∈ hs K V l → x ∈ l
  | [], x, h => h
  | y :: l, x, h => by
    unfold hs at h
    rcases List.mem_cons.1 h with rfl | h
    · simp
    · split at h
      · simp at h
      · split at h
        · exact List.mem_cons_of_mem _ (hs_sub K V l x h)
        · simp at h
theorem bgo_bit (K : Int) (F : List Nat) (b : Nat) : ∀ (xs : List Int) (a : Nat), (bgo K F xs a).testBit b = (a.testBit b || xs.any fun x => (valF K F x).testBit b)
  | [], a => by simp [bgo]
  | x :: xs, a => by
    have := bgo_bit K F b xs (a ||| valF K F x)
    unfold bgo at this ⊢
    rw [List.foldl_cons, this, Nat.testBit_or, List.any_cons, Bool.or_assoc]
theorem bgin_bit (K : Int) (V : Nat) (F : List Nat) (l : List Int) (b : Nat) : (bgin K V F l).testBit b = true ↔ ∃ x ∈ hs K V l, (valF K F x).testBit b = true := by
  unfold bgin
  rw [bgo_bit, Nat.zero_testBit, Bool.false_or, List.any_eq_true]
theorem getD_lt {F : List Nat} {m : Nat} (h : ∀ s ∈ F, s < m) (hm : 0 < m) (i : Nat) : F.getD i 0 < m := by
  rw [List.getD_eq_getElem?_getD]
  cases e : F[i]? with
  | none => exact hm
  | some s => exact h s (List.mem_of_getElem? e)
theorem valF_lt {K : Int} {F : List Nat} (h : ∀ s ∈ F, s < 2 ^ K.toNat) {x : Int} (h0 : 0 ≤ x) : valF K F x < 2 ^ K.toNat := by
  unfold valF
  split
  · exact Nat.pow_lt_pow_right (by omega) (by omega)
  · exact getD_lt h (Nat.two_pow_pos _) _
theorem bgo_lt {K : Int} {F : List Nat} (h : ∀ s ∈ F, s < 2 ^ K.toNat) : ∀ (xs : List Int) (a : Nat), (∀ x ∈ xs, 0 ≤ x) → a < 2 ^ K.toNat → bgo K F xs a < 2 ^ K.toNat
  | [], a, _, ha => ha
  | x :: xs, a, hx, ha => by
    unfold bgo; rw [List.foldl_cons]
    exact bgo_lt h xs _ (fun y hy => hx y (by simp [hy])) (Nat.or_lt_two_pow ha (valF_lt h (hx x (by simp))))
theorem bgin_lt {K : Int} {V : Nat} {F : List Nat} (h : ∀ s ∈ F, s < 2 ^ K.toNat) {l : List Int} (hl : ∀ x ∈ l, 0 ≤ x) : bgin K V F l < 2 ^ K.toNat :=
  bgo_lt h _ _ (fun x hx => hl x (hs_sub K V l x hx)) (Nat.two_pow_pos _)
def stepF (K : Int) (V : Nat) (s : List Nat × Bool) (r : S38) : List Nat × Bool :=
  (s.1.set r.f0.toNat (s.1.getD r.f0.toNat 0 ||| bgin K V s.1 r.f1), s.2 || decide (s.1.getD r.f0.toNat 0 ||| bgin K V s.1 r.f1 ≠ s.1.getD r.f0.toNat 0))
theorem set_self (F : List Nat) (i : Nat) : F.set i (F.getD i 0) = F := by
  apply List.ext_getElem?
  intro j
  rw [List.getElem?_set]
  split
  · rename_i c
    subst c
    split
    · rename_i c2
      rw [List.getD_eq_getElem?_getD, List.getElem?_eq_getElem c2]; rfl
    · rename_i c2
      rw [List.getElem?_eq_none (by omega)]
  · rfl
def addH (o : List Int) (x : Int) : List Int := if x ∈ o then o else o ++ [x]
def hq (K : Int) (V : Nat) (l : List Int) : List Int := (hs K V l).foldl addH []
theorem addH_mem (o : List Int) (x y : Int) : y ∈ addH o x ↔ y ∈ o ∨ y = x := by
  unfold addH
  split
  · rename_i c
    constructor
    · exact .inl
    · rintro (h | rfl)
      · exact h
      · exact c
  · simp
theorem foldH_mem : ∀ (xs o : List Int) (y : Int), y ∈ xs.foldl addH o ↔ y ∈ o ∨ y ∈ xs
  | [], o, y => by simp
  | x :: xs, o, y => by
    rw [List.foldl_cons, foldH_mem xs, addH_mem, List.mem_cons, or_assoc]
theorem hq_mem (K : Int) (V : Nat) (l : List Int) (y : Int) : y ∈ hq K V l ↔ y ∈ hs K V l := by
  unfold hq; rw [foldH_mem]; simp
theorem addH_ok {M x : Int} {o : List Int} (h : QOK M o) (h0 : 0 ≤ x) (h1 : x < M) : QOK M (addH o x) := by
  unfold addH
  split
  · exact h
  · rename_i c; exact h.put h0 h1 c
theorem foldH_ok {M : Int} : ∀ (xs o : List Int), QOK M o → (∀ x ∈ xs, 0 ≤ x ∧ x < M) → QOK M (xs.foldl addH o)
  | [], _, h, _ => h
  | x :: xs, o, h, hx => by rw [List.foldl_cons]; exact foldH_ok xs _ (addH_ok h (hx x (by simp)).1 (hx x (by simp)).2) (fun y hy => hx y (by simp [hy]))
theorem hq_ok {M K : Int} {V : Nat} {l : List Int} (hl : ∀ x ∈ l, 0 ≤ x ∧ x < M) : QOK M (hq K V l) := foldH_ok _ _ ⟨by simp, by simp⟩ (fun x hx => hl x (hs_sub K V l x hx))
def edgesF (K : Int) (V : Nat) (rs : List S38) : List (Int × Int) := rs.flatMap fun r => (hq K V r.f1).map fun x => (K + r.f0, x)
theorem edgesF_cons (K : Int) (V : Nat) (r : S38) (rs : List S38) : edgesF K V (r :: rs) = (hq K V r.f1).map (fun x => (K + r.f0, x)) ++ edgesF K V rs := by unfold edgesF; rw [List.flatMap_cons]
theorem edgesF_mem {K : Int} {V : Nat} {rs : List S38} {e : Int × Int} : e ∈ edgesF K V rs ↔ ∃ r ∈ rs, K + r.f0 = e.1 ∧ e.2 ∈ hs K V r.f1 := by
  unfold edgesF
  rw [List.mem_flatMap]
  constructor
  · rintro ⟨r, hr, h⟩
    rw [List.mem_map] at h
    obtain ⟨x, hx, rfl⟩ := h
    exact ⟨r, hr, rfl, (hq_mem K V _ _).1 hx⟩
  · rintro ⟨r, hr, h1, h2⟩
    refine ⟨r, hr, ?_⟩
    rw [List.mem_map]
    exact ⟨e.2, (hq_mem K V _ _).2 h2, by rw [h1]⟩
def firstR (K N : Int) (V : Nat) (rs : List S38) (l : List Int) : Nat := maskB (fun b => (reachE 0 (K + N) (edgesF K V rs) (maskB (inQ (hq K V l)) (K + N).toNat)).testBit b) K.toNat
def rch (K : Int) (V : Nat) (rs : List S38) (x : Int) (b : Nat) : Prop := ∀ D : Nat → Bool, (∀ e ∈ edgesF K V rs, D e.1.toNat = true → D e.2.toNat = true) → D x.toNat = true → D b = true
structure FOK (K N : Int) (V : Nat) (rs : List S38) (F : List Nat) : Prop where
  len : F.length = N.toNat
  lt : ∀ s ∈ F, s < 2 ^ K.toNat
  snd : ∀ i, i < N.toNat → ∀ b, (F.getD i 0).testBit b = true → (b : Int) < K ∧ rch K V rs (K + (i : Int)) b
section
variable (K N st : Int) (rs : List S38) (G : GOK K N st rs) (V : Nat) (hV : V < 2 ^ 32)
include G
theorem edgeF_ok : ∀ e ∈ edgesF K V rs, 0 ≤ e.1 ∧ e.1 < K + N ∧ 0 ≤ e.2 ∧ e.2 < 0 + (K + N) := by
  intro e h
  obtain ⟨r, hr, h1, h2⟩ := edgesF_mem.1 h
  have h3 := hs_sub K V _ _ h2
  have := G.r0 r hr; have := G.r1 r hr; have := G.x0 r hr _ h3; have := G.x1 r hr _ h3; have := G.K0
  omega
theorem bgin_snd {F : List Nat} (h : FOK K N V rs F) {l : List Int} (hl : ∀ x ∈ l, 0 ≤ x ∧ x < K + N) {b : Nat} (hb : (bgin K V F l).testBit b = true) : (b : Int) < K ∧ ∃ x ∈ hs K V l, rch K V rs x b := by
  obtain ⟨x, hx, h1⟩ := (bgin_bit K V F l b).1 hb
  have hr := hl x (hs_sub K V l x hx)
  unfold valF at h1
  split at h1
  · rename_i c
    rw [Nat.testBit_two_pow, decide_eq_true_eq] at h1
    exact ⟨by omega, x, hx, fun D _ hD => by rw [← h1]; exact hD⟩
  · rename_i c
    have := h.snd (x - K).toNat (by omega) b h1
    rw [show K + ((x - K).toNat : Int) = x by omega] at this
    exact ⟨this.1, x, hx, this.2⟩
theorem fok_set {F : List Nat} (h : FOK K N V rs F) {r : S38} (hr : r ∈ rs) : FOK K N V rs (F.set r.f0.toNat (F.getD r.f0.toNat 0 ||| bgin K V F r.f1)) := by
  have h0 := G.r0 r hr; have h1 := G.r1 r hr; have hx0 := G.x0 r hr; have hx1 := G.x1 r hr
  have hlen := h.len
  refine ⟨by rw [List.length_set]; exact hlen, ?_, ?_⟩
  · intro s hs
    rcases List.mem_or_eq_of_mem_set hs with q | q
    · exact h.lt s q
    · rw [q]; exact Nat.or_lt_two_pow (getD_lt h.lt (Nat.two_pow_pos _) _) (bgin_lt h.lt hx0)
  · intro i hi b hb
    rw [getD_set F _ _ _ (by omega)] at hb
    split at hb
    · rename_i c
      rw [Nat.testBit_or, Bool.or_eq_true] at hb
      rcases hb with hb | hb
      · rw [c] at hb; exact h.snd i hi b hb
      · obtain ⟨h2, x, hx, h3⟩ := bgin_snd K N st rs G V h (fun x hx => ⟨hx0 x hx, hx1 x hx⟩) hb
        refine ⟨h2, fun D hD hs => h3 D hD ?_⟩
        refine hD (K + r.f0, x) (edgesF_mem.2 ⟨r, hr, rfl, hx⟩) ?_
        rw [← c] at hs
        rwa [show K + ((r.f0.toNat : Nat) : Int) = K + r.f0 by omega] at hs
    · exact h.snd i hi b hb
theorem bgin_eq {F : List Nat} (h : FOK K N V rs F) (hfix : ∀ r ∈ rs, F.getD r.f0.toNat 0 ||| bgin K V F r.f1 = F.getD r.f0.toNat 0) {l : List Int} (hl : ∀ x ∈ l, 0 ≤ x ∧ x < K + N) : bgin K V F l = firstR K N V rs l := by
  have hK := G.K0; have hN := G.N0
  have hE := edgeF_ok K N st rs G V
  have hS : maskB (inQ (hq K V l)) (K + N).toNat < 2 ^ (K + N).toNat := maskB_lt _ _
  have hin : ∀ x ∈ hs K V l, (maskB (inQ (hq K V l)) (K + N).toNat).testBit x.toNat = true := by
    intro x hx
    have hr := hl x (hs_sub K V l x hx)
    rw [maskB_bit, decide_eq_true (by omega), Bool.true_and]
    unfold inQ
    rw [Int.toNat_of_nonneg hr.1]; exact decide_eq_true ((hq_mem K V l x).2 hx)
  apply Nat.eq_of_testBit_eq
  intro b
  unfold firstR
  rw [maskB_bit, Bool.eq_iff_iff, Bool.and_eq_true, decide_eq_true_eq]
  constructor
  · intro hb
    obtain ⟨h1, x, hx, h2⟩ := bgin_snd K N st rs G V h hl hb
    refine ⟨by omega, h2 (fun i => (reachE 0 (K + N) (edgesF K V rs) (maskB (inQ (hq K V l)) (K + N).toNat)).testBit i) ?_ ?_⟩
    · intro e he h3
      have := reach_closed 0 (K + N) _ _ hE hS (by omega) he h3 (by have := hE e he; omega)
      rwa [Int.sub_zero] at this
    · exact reach_start 0 (K + N) _ _ hE hS (by omega) _ (hin x hx)
  · rintro ⟨h1, h2⟩
    have key := reach_least 0 (K + N) _ _ hE hS (by omega) (fun u => if (u : Int) < K then (bgin K V F l).testBit u else decide (F.getD ((u : Int) - K).toNat 0 ||| bgin K V F l = bgin K V F l)) ?_ ?_ b h2
    · have key := key
      simp only [if_pos (show (b : Int) < K by omega)] at key
      exact key
    · have sub : ∀ {a c : Nat}, a ||| c = c ↔ ∀ b, a.testBit b = true → c.testBit b = true := by
        intro a c
        constructor
        · intro q b hb
          rw [← q, Nat.testBit_or, hb, Bool.true_or]
        · intro q
          apply Nat.eq_of_testBit_eq
          intro b
          rw [Nat.testBit_or]
          cases e : a.testBit b with
          | false => simp
          | true => rw [q b e]; rfl
      intro e he h3 _
      have ho := hE e he
      obtain ⟨r, hr, e1, e2⟩ := edgesF_mem.1 he
      have hf := hfix r hr
      have h0 := G.r0 r hr
      rw [Int.sub_zero]
      simp only [Int.toNat_of_nonneg ho.1, Int.toNat_of_nonneg ho.2.2.1] at h3 ⊢
      rw [if_neg (by omega), decide_eq_true_eq, ← e1, show (K + r.f0 - K).toNat = r.f0.toNat by omega, sub] at h3
      have hf2 : ∀ b, (bgin K V F r.f1).testBit b = true → (F.getD r.f0.toNat 0).testBit b = true := by
        intro b hb; rw [← hf, Nat.testBit_or, hb, Bool.or_true]
      have hin2 : ∀ b, (valF K F e.2).testBit b = true → (bgin K V F l).testBit b = true := fun b hb => h3 b (hf2 b ((bgin_bit K V F r.f1 b).2 ⟨e.2, e2, hb⟩))
      by_cases c : e.2 < K
      · rw [if_pos c]
        refine hin2 _ ?_
        unfold valF
        rw [if_pos c, Nat.testBit_two_pow_self]
      · rw [if_neg c, decide_eq_true_eq, sub]
        intro b hb
        refine hin2 b ?_
        unfold valF
        rw [if_neg c]; exact hb
    · intro i hi
      rw [maskB_bit, Bool.and_eq_true] at hi
      have hx := (hq_mem K V l _).1 (of_decide_eq_true hi.2)
      have hb : ∀ b, (valF K F (i : Int)).testBit b = true → (bgin K V F l).testBit b = true := fun b hb => (bgin_bit K V F l b).2 ⟨_, hx, hb⟩
      by_cases c : (i : Int) < K
      · simp only [if_pos c]
        refine hb _ ?_
        unfold valF
        rw [if_pos c, Int.toNat_natCast, Nat.testBit_two_pow_self]
      · simp only [if_neg c]
        rw [decide_eq_true_eq]
        apply Nat.eq_of_testBit_eq
        intro b
        rw [Nat.testBit_or]
        cases e : (F.getD ((i : Int) - K).toNat 0).testBit b with
        | false => simp
        | true =>
          rw [hb b (by unfold valF; rw [if_neg c]; exact e)]; rfl
theorem foldF_ok (F0 : Nat) : ∀ (L : List S38) (s : List Nat × Bool), (∀ r ∈ L, r ∈ rs) → FOK K N V rs s.1 →
    FOK K N V rs (L.foldl (stepF K V) s).1 ∧ tot K.toNat s.1 ≤ tot K.toNat (L.foldl (stepF K V) s).1 ∧ ((L.foldl (stepF K V) s).2 = true → s.2 = true ∨ tot K.toNat s.1 < tot K.toNat (L.foldl (stepF K V) s).1) ∧
    ((L.foldl (stepF K V) s).2 = false → s.2 = false ∧ (L.foldl (stepF K V) s).1 = s.1 ∧ ∀ r ∈ L, s.1.getD r.f0.toNat 0 ||| bgin K V s.1 r.f1 = s.1.getD r.f0.toNat 0)
  | [], s, _, h => ⟨h, Nat.le_refl _, fun q => .inl q, fun q => ⟨q, rfl, by simp⟩⟩
  | r :: L, s, hL, h => by
    have hr := hL r (by simp)
    have h0 := G.r0 r hr; have h1 := G.r1 r hr
    have hs := fok_set K N st rs G V h hr
    have ih := foldF_ok F0 L (stepF K V s r) (fun q hq => hL q (by simp [hq])) hs
    rw [List.foldl_cons]
    have ht := tot_set K.toNat (s.1.getD r.f0.toNat 0 ||| bgin K V s.1 r.f1) s.1 r.f0.toNat (by rw [h.len]; omega)
    have hm := cnt_mono (s.1.getD r.f0.toNat 0) (s.1.getD r.f0.toNat 0 ||| bgin K V s.1 r.f1) (fun i hi => by rw [Nat.testBit_or, hi, Bool.true_or]) K.toNat
    have hle : tot K.toNat s.1 ≤ tot K.toNat (stepF K V s r).1 := by unfold stepF; simp only; omega
    refine ⟨ih.1, by omega, ?_, ?_⟩
    · intro q
      rcases ih.2.2.1 q with q | q
      · unfold stepF at q
        simp only [Bool.or_eq_true, decide_eq_true_eq] at q
        rcases q with q | q
        · exact .inl q
        · right
          obtain ⟨i, hi, a, b⟩ := bits_in (bgin_lt h.lt (G.x0 r hr)) q
          have := cnt_lt _ _ (fun i hi => by rw [Nat.testBit_or, hi, Bool.true_or]) i a b K.toNat hi
          have e : tot K.toNat (stepF K V s r).1 = tot K.toNat (s.1.set r.f0.toNat (s.1.getD r.f0.toNat 0 ||| bgin K V s.1 r.f1)) := rfl
          omega
      · right; omega
    · intro q
      obtain ⟨a, b, c⟩ := ih.2.2.2 q
      have a2 : s.2 = false ∧ ¬ (s.1.getD r.f0.toNat 0 ||| bgin K V s.1 r.f1 ≠ s.1.getD r.f0.toNat 0) := by
        unfold stepF at a
        simpa only [Bool.or_eq_false_iff, decide_eq_false_iff_not] using a
      have a3 := Decidable.not_not.1 a2.2
      have e : (stepF K V s r).1 = s.1 := by
        show s.1.set _ _ = _
        rw [a3, set_self]
      rw [e] at b c
      refine ⟨a2.1, b, ?_⟩
      intro x hx
      rcases List.mem_cons.1 hx with rfl | hx
      · exact a3
      · exact c x hx
include hV
theorem begin_ev (F : List Nat) (hF : F.length = N.toNat) (hlt : ∀ s ∈ F, s < 2 ^ K.toNat) (l : List Int) (hl : ∀ x ∈ l, 0 ≤ x ∧ x < K + N) (hlen : l.length ≤ 1000) :
    Ev (fun k => Zh1.f k K N st rs (F.map fun n : Nat => (n : Int)) (V : Int) l) (((bgin K V F l : Nat) : Int), allV K V l) := by
  have hK0 := G.K0; have hK1 := G.K1; have hN0 := G.N0; have hN1 := G.N1
  have h32 : 2 ^ K.toNat ≤ 2 ^ 32 := Nat.pow_le_pow_right (by omega) (by omega)
  unfold Zh1.f
  refine Ev.loop (L := fun k i (a : Nat) => Zh1.l0 k (F.map fun n : Nat => (n : Int)) (V : Int) (a : Int) l (l.length : Int) i K N st rs) (n := l.length) (fun i a => a < 2 ^ K.toNat ∧ bgo K F (hs K V (l.drop i.toNat)) a = bgin K V F l ∧ allV K V (l.drop i.toNat) = allV K V l) ?_ ?_ 0 0 (Int.le_refl _) (by omega) ⟨Nat.two_pow_pos _, rfl, rfl⟩
  · rintro a ⟨g0, g1, g2⟩
    rw [Int.toNat_natCast, List.drop_length] at g1 g2
    have g1 : a = bgin K V F l := g1
    have g2 : true = allV K V l := g2
    refine Ev.step (fun k => Zh1.l0.eq_2 _ _ _ _ _ _ _ _ _ _ k) ?_
    simp (disch := omega) only [if_neg (show ¬ ((l.length : Nat) : Int) < (l.length : Nat) by omega)]
    rw [← g1, ← g2]; exact Ev.now _
  · rintro i a h0 h1 ⟨g0, g1, g2⟩
    have hx := hl _ (rd_mem h0 h1)
    rw [rd_cons h0 h1] at g1 g2
    have ha32 : a < 2 ^ 32 := by omega
    have hv := valF_lt hlt hx.1
    by_cases c : rd l i < K
    · left
      obtain ⟨x, hxe⟩ := Int.eq_ofNat_of_zero_le hx.1
      refine Ev.step (fun k => Zh1.l0.eq_2 _ _ _ _ _ _ _ _ _ _ k) ?_
      simp (disch := omega) only [if_pos, if_pos c]
      have e1 : a ||| 2 ^ x = bgin K V F l := by
        rw [← g1]
        unfold hs
        rw [if_pos c]
        simp [bgo, valF, c, hxe]
        rw [if_pos (show (x : Int) < K by omega)]
      have e2 : false = allV K V l := by
        rw [← g2]; unfold allV; rw [List.all_cons]
        rw [decide_eq_false (show ¬ rd l i ≥ K by omega)]; rfl
      rw [hxe, bit_or a x ha32 (by omega), e1, ← e2]; exact Ev.now _
    · obtain ⟨y, hy⟩ := Int.eq_ofNat_of_zero_le (show 0 ≤ rd l i - K by omega)
      have hyN : y < N.toNat := by omega
      have hval : valF K F (rd l i) = F.getD y 0 := by unfold valF; rw [if_neg c, hy, Int.toNat_natCast]
      rw [hval] at hv
      have hb := bit_shr V y hV (by omega)
      have hb0 : (Go.bits .and .u32 (shr .u32 (V : Int) (y : Int)) 1 = 0) ↔ ¬ V.testBit y = true := by
        have := bit_shr0 V y hV (by omega)
        rw [Bool.eq_iff_iff, beq_iff_eq] at this
        rw [this]; simp
      by_cases c2 : V.testBit y = true
      · right
        refine ⟨a ||| F.getD y 0, ⟨Nat.or_lt_two_pow g0 hv, ?_, ?_⟩, ?_⟩
        · rw [← g1]
          conv => rhs; unfold hs
          rw [if_neg c, hy, Int.toNat_natCast, if_pos c2]
          unfold bgo; rw [List.foldl_cons, hval]
        · rw [← g2]; conv => rhs; unfold allV
          rw [List.all_cons, decide_eq_true (show rd l i ≥ K by omega), hy, Int.toNat_natCast, c2]; rfl
        · intro h
          refine Ev.step (fun k => Zh1.l0.eq_2 _ _ _ _ _ _ _ _ _ _ k) ?_
          simp (disch := omega) only [if_pos, if_neg c, w64, List.length_map, hy]
          refine Ev.neg (fun q => hb0.1 q c2) ?_
          rw [rdF, Int.toNat_natCast, u32_or a _ ha32 (by omega)]
          exact h
      · left
        refine Ev.step (fun k => Zh1.l0.eq_2 _ _ _ _ _ _ _ _ _ _ k) ?_
        simp (disch := omega) only [if_pos, if_neg c, w64, List.length_map, hy]
        refine Ev.pos (hb0.2 c2) ?_
        rw [rdF, Int.toNat_natCast, u32_or a _ ha32 (by omega)]
        have e1 : a ||| F.getD y 0 = bgin K V F l := by
          rw [← g1]
          unfold hs
          rw [if_neg c, hy, Int.toNat_natCast, if_neg c2]
          unfold bgo; rw [List.foldl_cons, hval]; rfl
        have e2 : false = allV K V l := by
          rw [← g2]; unfold allV
          rw [List.all_cons, hy, Int.toNat_natCast]; simp [c2]
        rw [e1, ← e2]; exact Ev.now _
theorem firsts_l1 (F : List Nat) (hF : FOK K N V rs F) (R : List Int) (h : Ev (fun k => Zi1.l0 k (V : Int) ((rs.foldl (stepF K V) (F, false)).1.map fun n : Nat => (n : Int)) (rs.foldl (stepF K V) (F, false)).2 K N st rs) R) :
    Ev (fun k => Zi1.l1 k (V : Int) (F.map fun n : Nat => (n : Int)) false rs (rs.length : Int) 0 K N st rs) R := by
  have hK0 := G.K0; have hK1 := G.K1; have hN0 := G.N0; have hN1 := G.N1; have hlen := G.len
  have h32 : 2 ^ K.toNat ≤ 2 ^ 31 := Nat.pow_le_pow_right (by omega) (by omega)
  refine Ev.loop (L := fun k i (s : List Nat × Bool) => Zi1.l1 k (V : Int) (s.1.map fun n : Nat => (n : Int)) s.2 rs (rs.length : Int) i K N st rs) (n := rs.length) (fun i s => FOK K N V rs s.1 ∧ (rs.drop i.toNat).foldl (stepF K V) s = rs.foldl (stepF K V) (F, false)) ?_ ?_ 0 (F, false) (Int.le_refl _) (by omega) ⟨hF, rfl⟩
  · rintro s ⟨_, g⟩
    rw [Int.toNat_natCast, List.drop_length] at g
    have g : s = rs.foldl (stepF K V) (F, false) := g
    refine Ev.step (fun k => Zi1.l1.eq_2 _ _ _ _ _ _ _ _ _ _ k) ?_
    simp (disch := omega) only [if_neg (show ¬ ((rs.length : Nat) : Int) < (rs.length : Nat) by omega)]
    rw [g]; exact h
  · rintro i s h0 h1 ⟨g0, g⟩
    right
    have hm := rule_mem h0 h1
    rw [rd_rule h0 h1, List.foldl_cons] at g
    have hrl := G.rl _ hm
    obtain ⟨r, hr⟩ : ∃ r, Zb rs i = r := ⟨_, rfl⟩
    rw [hr] at hm hrl g
    have hr0 := G.r0 r hm; have hr1 := G.r1 r hm; have hx0 := G.x0 r hm; have hx1 := G.x1 r hm
    refine ⟨stepF K V s r, ⟨fok_set K N st rs G V g0 hm, g⟩, ?_⟩
    intro h2
    obtain ⟨T, c⟩ := s
    have hb : bgin K V T r.f1 < 2 ^ K.toNat := bgin_lt (V := V) g0.lt hx0
    have hv : T.getD r.f0.toNat 0 < 2 ^ K.toNat := getD_lt g0.lt (Nat.two_pow_pos _) r.f0.toNat
    have hTl : T.length = N.toNat := g0.len
    refine Ev.step (fun k => Zi1.l1.eq_2 _ _ _ _ _ _ _ _ _ _ k) ?_
    simp (disch := omega) only [if_pos, hr]
    refine Ev.bind (begin_ev K N st rs G V hV T hTl g0.lt r.f1 (fun x hx => ⟨hx0 x hx, hx1 x hx⟩) (by omega)) ?_
    simp (disch := omega) only [if_pos, w64, List.length_map, rdF]
    rw [u32_or _ _ (by omega) (by omega), setF, andNot_ne _ _ (by omega) (by omega)]
    unfold stepF at h2
    cases c with
    | true => simp only [if_true]; simpa only [Bool.true_or] using h2
    | false => simp only [Bool.false_eq_true, if_false]; simpa only [Bool.false_or] using h2
theorem firsts_l0 (d : Nat) : ∀ (F : List Nat), FOK K N V rs F → N.toNat * K.toNat < tot K.toNat F + d → ∃ F' : List Nat, FOK K N V rs F' ∧ (∀ r ∈ rs, F'.getD r.f0.toNat 0 ||| bgin K V F' r.f1 = F'.getD r.f0.toNat 0) ∧
    Ev (fun k => Zi1.l0 k (V : Int) (F.map fun n : Nat => (n : Int)) true K N st rs) (F'.map fun n : Nat => (n : Int)) := by
  induction d with
  | zero =>
    intro F hF h
    have := tot_le K.toNat F
    rw [hF.len] at this; omega
  | succ d ih =>
    intro F hF h
    have P := foldF_ok K N st rs G V 0 rs (F, false) (fun r hr => hr) hF
    have go : ∀ R, Ev (fun k => Zi1.l0 k (V : Int) ((rs.foldl (stepF K V) (F, false)).1.map fun n : Nat => (n : Int)) (rs.foldl (stepF K V) (F, false)).2 K N st rs) R → Ev (fun k => Zi1.l0 k (V : Int) (F.map fun n : Nat => (n : Int)) true K N st rs) R := by
      intro R hR
      refine Ev.step (fun k => Zi1.l0.eq_2 _ _ _ _ _ _ _ k) ?_
      simp only [if_true]
      exact firsts_l1 K N st rs G V hV F hF R hR
    cases e : (rs.foldl (stepF K V) (F, false)).2 with
    | true =>
      rcases P.2.2.1 e with q | q
      · cases q
      · obtain ⟨F', h1, h2, h3⟩ := ih _ P.1 (by have q : tot K.toNat F < _ := q; omega)
        exact ⟨F', h1, h2, go _ (by rw [e]; exact h3)⟩
    | false =>
      obtain ⟨_, h1, h2⟩ := P.2.2.2 e
      refine ⟨F, hF, h2, go _ ?_⟩
      rw [e, h1]
      refine Ev.step (fun k => Zi1.l0.eq_2 _ _ _ _ _ _ _ k) ?_
      simp only [Bool.false_eq_true, if_false]; exact Ev.now _
theorem firsts_ev : ∃ F : List Nat, F.length = N.toNat ∧ (∀ s ∈ F, s < 2 ^ K.toNat) ∧ (∀ l : List Int, (∀ x ∈ l, 0 ≤ x ∧ x < K + N) → bgin K V F l = firstR K N V rs l) ∧ Ev (fun k => Zi1.f k K N st rs (V : Int)) (F.map fun n : Nat => (n : Int)) := by
  have hN0 := G.N0; have hN1 := G.N1
  have F0 : FOK K N V rs (List.replicate N.toNat 0) := by
    refine ⟨by simp, ?_, ?_⟩
    · intro s hs; rw [List.eq_of_mem_replicate hs]; exact Nat.two_pow_pos _
    · intro i hi b hb
      rw [List.getD_eq_getElem?_getD, List.getElem?_replicate, if_pos hi] at hb
      simp at hb
  obtain ⟨F, h1, h2, h3⟩ := firsts_l0 K N st rs G V hV (N.toNat * K.toNat + 1) _ F0 (by omega)
  refine ⟨F, h1.len, h1.lt, fun l hl => bgin_eq K N st rs G V h1 h2 hl, ?_⟩
  unfold Zi1.f
  simp (disch := omega) only [if_pos]
  simpa using h3
end
section
variable (K N st : Int) (rs : List S38) (G : GOK K N st rs)
include G
def voidG (K N : Int) (rs : List S38) : Nat := leastG K N false rs
theorem void_lt : voidG K N rs < 2 ^ 32 := lt32G K N st rs G (least_lt K N st rs G false)
theorem heads_ev (l : List Int) (hl : ∀ x ∈ l, 0 ≤ x ∧ x < K + N) (hlen : l.length ≤ 1000) : Ev (fun k => Zj1.f k K N st rs l) (hq K (voidG K N rs) l) := by
  have hK0 := G.K0; have hK1 := G.K1; have hN0 := G.N0; have hN1 := G.N1
  have hV := void_lt K N st rs G
  have hn := refNames_ev K N st rs G true
  unfold Zj1.f
  refine Ev.bind hn ?_
  have ev : leastG K N (!true) rs = voidG K N rs := rfl
  rw [ev]
  generalize voidG K N rs = V at hV
  refine Ev.loop (L := fun k i (o : List Int) => Zj1.l0 k (V : Int) o l (l.length : Int) i K N st rs) (n := l.length) (fun i o => QOK (K + N) o ∧ (hs K V (l.drop i.toNat)).foldl addH o = hq K V l) ?_ ?_ 0 [] (Int.le_refl _) (by omega) ⟨⟨by simp, by simp⟩, rfl⟩
  · rintro o ⟨_, g⟩
    rw [Int.toNat_natCast, List.drop_length] at g
    have g : o = hq K V l := g
    refine Ev.step (fun k => Zj1.l0.eq_2 _ _ _ _ _ _ _ _ _ k) ?_
    simp (disch := omega) only [if_neg (show ¬ ((l.length : Nat) : Int) < (l.length : Nat) by omega)]
    rw [g]; exact Ev.now _
  · rintro i o h0 h1 ⟨g0, g⟩
    have hx := hl _ (rd_mem h0 h1)
    have hol := g0.len
    rw [rd_cons h0 h1] at g
    unfold hs at g
    rw [List.foldl_cons] at g
    have g1 : QOK (K + N) (addH o (rd l i)) := addH_ok g0 hx.1 hx.2
    have hol1 := g1.len
    have next : ∀ R, Ev (fun k => if rd l i < K then some (addH o (rd l i)) else (Zt1.f (V : Int) (rd l i - K)).bind fun t => if t = true then Zj1.l0 k (V : Int) (addH o (rd l i)) l (l.length : Int) (i + 1) K N st rs else some (addH o (rd l i))) R →
        Ev (fun k => Zj1.l0 k (V : Int) o l (l.length : Int) i K N st rs) R := by
      intro R h
      refine Ev.step (fun k => Zj1.l0.eq_2 _ _ _ _ _ _ _ _ _ k) ?_
      simp (disch := omega) only [if_pos, w64]
      refine Ev.bind (has_ev o _ (by omega)) ?_
      unfold addH at h
      by_cases c : rd l i ∈ o
      · simp only [if_pos c] at h
        simp only [decide_eq_true c, if_true]; exact h
      · simp only [if_neg c] at h
        simp only [decide_eq_false c, Bool.false_eq_true, if_false, Option.bind_some]; exact h
    by_cases c : rd l i < K
    · left
      refine next _ ?_
      rw [if_pos c] at g
      have g : addH o (rd l i) = hq K V l := g
      simp only [if_pos c]; rw [g]; exact Ev.now _
    · obtain ⟨y, hy⟩ := Int.eq_ofNat_of_zero_le (show 0 ≤ rd l i - K by omega)
      rw [if_neg c, hy, Int.toNat_natCast] at g
      by_cases c2 : V.testBit y = true
      · right
        rw [if_pos c2] at g
        refine ⟨addH o (rd l i), ⟨g1, g⟩, ?_⟩
        intro h
        refine next _ ?_
        simp only [if_neg c, hy, Bit_eq V y hV (by omega), Option.bind_some, if_pos c2]; exact h
      · left
        refine next _ ?_
        rw [if_neg c2] at g
        have g : addH o (rd l i) = hq K V l := g
        simp only [if_neg c, hy, Bit_eq V y hV (by omega), Option.bind_some, if_neg c2]; rw [g]; exact Ev.now _
theorem rfirsts_l1 (h : Int) (h0 : 0 ≤ h) (q0 : List Int) (hq0 : QOK (K + N) q0) (hl : h < q0.length) (R : Int)
    (hk : Ev (fun k => Zv.l0 k ((edgesF K (voidG K N rs) rs).foldl (addQ 0 h) q0) (h + 1) K N st rs) R) : Ev (fun k => Zv.l1 k q0 h rs (rs.length : Int) 0 K N st rs) R := by
  have hlen := G.len; have hN1 := G.N1; have hN0 := G.N0; have hK0 := G.K0; have hK1 := G.K1
  obtain ⟨V, hV⟩ : ∃ V, voidG K N rs = V := ⟨_, rfl⟩
  rw [hV] at hk
  refine Ev.loop (L := fun k i (q : List Int) => Zv.l1 k q h rs (rs.length : Int) i K N st rs) (n := rs.length) (fun i q => QOK (K + N) q ∧ h < q.length ∧ (edgesF K V (rs.drop i.toNat)).foldl (addQ 0 h) q = (edgesF K V rs).foldl (addQ 0 h) q0) ?_ ?_ 0 q0 (Int.le_refl _) (by omega) ⟨hq0, hl, rfl⟩
  · rintro q ⟨g1, g2, g3⟩
    rw [Int.toNat_natCast, List.drop_length] at g3
    have g3 : q = (edgesF K V rs).foldl (addQ 0 h) q0 := g3
    have hql := g1.len
    refine Ev.step (fun k => Zv.l1.eq_2 _ _ _ _ _ _ _ _ _ k) ?_
    simp (disch := omega) only [if_neg (show ¬ ((rs.length : Nat) : Int) < (rs.length : Nat) by omega), w64]
    rw [g3]; exact hk
  · rintro i q h2 h3 ⟨g1, g2, g3⟩
    right
    have hm := rule_mem h2 h3
    rw [rd_rule h2 h3, edgesF_cons, List.foldl_append] at g3
    obtain ⟨r, hr⟩ : ∃ r, Zb rs i = r := ⟨_, rfl⟩
    rw [hr] at hm g3
    have hrl := G.rl _ hm; have hr0 := G.r0 _ hm; have hr1 := G.r1 _ hm
    have hx : ∀ x ∈ r.f1, 0 ≤ x ∧ x < K + N := fun x hx => ⟨G.x0 r hm x hx, G.x1 r hm x hx⟩
    have hH := hq_ok (K := K) (V := V) hx
    have hHl := hH.len
    have hev := heads_ev K N st rs G r.f1 hx (by omega)
    rw [hV] at hev
    have hE : ∀ e ∈ (hq K V r.f1).map (fun x => (K + r.f0, x)), e.2 < 0 + (K + N) := by
      intro e he
      rw [List.mem_map] at he
      obtain ⟨x, hx, rfl⟩ := he
      have := (hH.rg x hx).2
      show x < 0 + (K + N)
      omega
    have hql := g1.len
    refine ⟨((hq K V r.f1).map fun x => (K + r.f0, x)).foldl (addQ 0 h) q, ⟨foldQ_ok _ q g1 hE, ?_, g3⟩, ?_⟩
    · obtain ⟨t, ht⟩ := foldQ_pre 0 h ((hq K V r.f1).map fun x => (K + r.f0, x)) q
      rw [ht, List.length_append]; omega
    intro h4
    refine Ev.step (fun k => Zv.l1.eq_2 _ _ _ _ _ _ _ _ _ k) ?_
    simp (disch := omega) only [if_pos, hr, w64]
    by_cases c : rd q h = K + r.f0
    · simp only [if_pos c]
      refine Ev.bind hev ?_
      generalize hq K V r.f1 = H at hH hHl hE h4
      refine Ev.loop (L := fun k t (u : List Int) => Zv.l2 k u h rs (rs.length : Int) i H (H.length : Int) t K N st rs) (n := H.length) (fun t u => QOK (K + N) u ∧ h < u.length ∧ rd u h = K + r.f0 ∧ ((H.drop t.toNat).map fun x => (K + r.f0, x)).foldl (addQ 0 h) u = (H.map fun x => (K + r.f0, x)).foldl (addQ 0 h) q) ?_ ?_ 0 q (Int.le_refl _) (by omega) ⟨g1, g2, c, rfl⟩
      · rintro u ⟨f1, f2, f4, f3⟩
        rw [Int.toNat_natCast, List.drop_length, List.map_nil, List.foldl_nil] at f3
        refine Ev.step (fun k => Zv.l2.eq_2 _ _ _ _ _ _ _ _ _ _ _ _ k) ?_
        simp (disch := omega) only [if_neg (show ¬ ((H.length : Nat) : Int) < (H.length : Nat) by omega), w64]
        rw [f3]; exact h4
      · rintro t u h5 h6 ⟨f1, f2, f4, f3⟩
        right
        rw [rd_cons h5 h6, List.map_cons, List.foldl_cons] at f3
        have hy := hH.rg _ (rd_mem h5 h6)
        have hul := f1.len
        have hpre := addQ_pre 0 h u (K + r.f0, rd H t)
        refine ⟨addQ 0 h u (K + r.f0, rd H t), ⟨addQ_ok f1 (by show rd H t < 0 + (K + N); omega), ?_, ?_, f3⟩, ?_⟩
        · obtain ⟨v, hv⟩ := hpre; rw [hv, List.length_append]; omega
        · obtain ⟨v, hv⟩ := hpre; rw [hv, rd_app u v h h0 f2]; exact f4
        intro h7
        refine Ev.step (fun k => Zv.l2.eq_2 _ _ _ _ _ _ _ _ _ _ _ _ k) ?_
        simp (disch := omega) only [if_pos, w64]
        unfold addQ at h7
        simp only [f4, Int.sub_zero, true_and, show (rd H t ≥ 0) = True from eq_true hy.1] at h7
        refine Ev.bind (has_ev u _ (by omega)) ?_
        by_cases c3 : rd H t ∈ u
        · rw [if_neg (by simp [c3])] at h7
          simp only [decide_eq_true c3, if_true]; exact h7
        · rw [if_pos c3] at h7
          simp only [decide_eq_false c3, Bool.false_eq_true, if_false]; exact h7
    · simp only [if_neg c]
      have same : ∀ (H : List Int), (H.map fun x => (K + r.f0, x)).foldl (addQ 0 h) q = q := by
        intro H
        induction H with
        | nil => rfl
        | cons x H ih =>
          rw [List.map_cons, List.foldl_cons]
          have : addQ 0 h q (K + r.f0, x) = q := by
            unfold addQ
            rw [if_neg]
            rintro ⟨z, _⟩
            exact c z.symm
          rw [this]; exact ih
      rw [same] at h4; exact h4
theorem rfirsts_l3 (q : List Int) (hq0 : QOK (K + N) q) : Ev (fun k => Zv.l3 k 0 q (q.length : Int) 0 K N st rs) ((maskB (inQ q) K.toNat : Nat) : Int) := by
  have hN1 := G.N1; have hK0 := G.K0; have hK1 := G.K1
  have hlen := hq0.len
  have h8 : 2 ^ K.toNat ≤ 2 ^ 3 := Nat.pow_le_pow_right (by omega) (by omega)
  refine Ev.loop (L := fun k i (a : Nat) => Zv.l3 k (a : Int) q (q.length : Int) i K N st rs) (n := q.length) (fun i a => a < 2 ^ K.toNat ∧ ∀ b, a.testBit b = true ↔ b < K.toNat ∧ (b : Int) ∈ q.take i.toNat) ?_ ?_ 0 0 (Int.le_refl _) (by omega) ⟨Nat.two_pow_pos _, by simp⟩
  · rintro a ⟨_, g⟩
    rw [Int.toNat_natCast, List.take_length] at g
    have e : a = maskB (inQ q) K.toNat := by
      apply Nat.eq_of_testBit_eq
      intro b
      rw [maskB_bit, Bool.eq_iff_iff, g b, Bool.and_eq_true, decide_eq_true_eq]
      unfold inQ
      rw [decide_eq_true_eq]
    refine Ev.step (fun k => Zv.l3.eq_2 _ _ _ _ _ _ _ _ k) ?_
    simp (disch := omega) only [if_neg (show ¬ ((q.length : Nat) : Int) < (q.length : Nat) by omega)]
    rw [e]; exact Ev.now _
  · rintro i a h0 h1 ⟨g0, g⟩
    right
    have hr := hq0.rg _ (rd_mem h0 h1)
    obtain ⟨y, hy⟩ := Int.eq_ofNat_of_zero_le hr.1
    by_cases c : rd q i < K
    · refine ⟨a ||| 2 ^ y, ⟨Nat.or_lt_two_pow g0 (Nat.pow_lt_pow_right (by omega) (by omega)), ?_⟩, ?_⟩
      · intro b
        rw [take_rd h0 h1, Nat.testBit_or, Bool.or_eq_true, g b, Nat.testBit_two_pow, decide_eq_true_eq, List.mem_append, List.mem_singleton, hy]
        constructor
        · rintro (⟨p, r⟩ | p)
          · exact ⟨p, .inl r⟩
          · exact ⟨by omega, .inr (by omega)⟩
        · rintro ⟨p, r | r⟩
          · exact .inl ⟨p, r⟩
          · exact .inr (by omega)
      · intro h2
        refine Ev.step (fun k => Zv.l3.eq_2 _ _ _ _ _ _ _ _ k) ?_
        simp (disch := omega) only [if_pos, if_pos c, w64, u64_id]
        rw [hy, bit_or a y (by omega) (by omega)]; exact h2
    · refine ⟨a, ⟨g0, ?_⟩, ?_⟩
      · intro b
        rw [take_rd h0 h1, g b, List.mem_append, List.mem_singleton]
        constructor
        · rintro ⟨p, r⟩; exact ⟨p, .inl r⟩
        · rintro ⟨p, r | r⟩
          · exact ⟨p, r⟩
          · omega
      · intro h2
        refine Ev.step (fun k => Zv.l3.eq_2 _ _ _ _ _ _ _ _ k) ?_
        simp (disch := omega) only [if_pos, if_neg c, w64]; exact h2
theorem rfirsts_ev (l : List Int) (hl : ∀ x ∈ l, 0 ≤ x ∧ x < K + N) (hlen : l.length ≤ 1000) : Ev (fun k => Zv.f k K N st rs l) ((firstR K N (voidG K N rs) rs l : Nat) : Int) := by
  have hN1 := G.N1; have hN0 := G.N0; have hK0 := G.K0; have hK1 := G.K1
  unfold Zv.f
  refine Ev.bind (heads_ev K N st rs G l hl hlen) ?_
  refine bfs (σ := Unit) (K := 0) (N := K + N) (E := edgesF K (voidG K N rs) rs) (S := maskB (inQ (hq K (voidG K N rs) l)) (K + N).toNat) (edgeF_ok K N st rs G _) (by omega) (L := fun k q h _ => Zv.l0 k q h K N st rs) (fun _ _ => ()) () ?_ ?_ _ (hq_ok hl) rfl
  · intro q hq1 he
    have hql := hq1.len
    refine Ev.step (fun k => Zv.l0.eq_2 _ _ _ _ _ _ k) ?_
    simp (disch := omega) only [if_neg]
    have e : firstR K N (voidG K N rs) rs l = maskB (inQ q) K.toNat := by
      unfold firstR
      rw [← he]
      apply Nat.eq_of_testBit_eq
      intro b
      rw [maskB_bit, maskB_bit, maskB_bit]
      by_cases c : b < K.toNat
      · rw [decide_eq_true c, decide_eq_true (show b < (K + N).toNat by omega)]; rfl
      · rw [decide_eq_false c]; rfl
    rw [e]; exact rfirsts_l3 K N st rs G q hq1
  · intro q h _ h0 h1 hq1 _ _ hk
    have hql := hq1.len
    refine Ev.step (fun k => Zv.l0.eq_2 _ _ _ _ _ _ k) ?_
    simp (disch := omega) only [if_pos]
    exact rfirsts_l1 K N st rs G h h0 q hq1 h1 _ hk
end
def tripG (a : Int) : List Int → List (Int × Int × List Int)
  | [] => []
  | x :: l => (a, x, l) :: tripG a l
def tripsG (rs : List S38) : List (Int × Int × List Int) := rs.flatMap fun r => tripG r.f0 r.f1
theorem tripsG_cons (r : S38) (rs : List S38) : tripsG (r :: rs) = tripG r.f0 r.f1 ++ tripsG rs := by unfold tripsG; rw [List.flatMap_cons]
theorem tripG_mem {a : Int} {t : Int × Int × List Int} : ∀ {l : List Int}, t ∈ tripG a l → t.1 = a ∧ t.2.1 ∈ l ∧ (∀ y ∈ t.2.2, y ∈ l) ∧ t.2.2.length ≤ l.length
  | [], h => by simp [tripG] at h
  | x :: l, h => by
    unfold tripG at h
    rcases List.mem_cons.1 h with rfl | h
    · exact ⟨rfl, by simp, fun y hy => List.mem_cons_of_mem _ hy, by simp⟩
    · obtain ⟨h1, h2, h3, h4⟩ := tripG_mem h
      exact ⟨h1, List.mem_cons_of_mem _ h2, fun y hy => List.mem_cons_of_mem _ (h3 y hy), by rw [List.length_cons]; omega⟩
theorem tripsG_mem {rs : List S38} {t : Int × Int × List Int} (h : t ∈ tripsG rs) : ∃ r ∈ rs, t.1 = r.f0 ∧ t.2.1 ∈ r.f1 ∧ (∀ y ∈ t.2.2, y ∈ r.f1) ∧ t.2.2.length ≤ r.f1.length := by
  unfold tripsG at h
  rw [List.mem_flatMap] at h
  obtain ⟨r, hr, h⟩ := h
  exact ⟨r, hr, tripG_mem h⟩
theorem edgesG_in {rs : List S38} {r : S38} {x : Int} (hr : r ∈ rs) (hx : x ∈ r.f1) : (r.f0, x) ∈ edgesG rs := by
  unfold edgesG
  rw [List.mem_flatMap]
  exact ⟨r, hr, List.mem_map.2 ⟨x, hx, rfl⟩⟩
def valT (K : Int) (V : Nat) (Fr : List Int → Nat) (T : List Nat) (t : Int × Int × List Int) : Nat := Fr t.2.2 ||| (if allV K V t.2.2 = true then T.getD t.1.toNat 0 else 0)
def stepT (K : Int) (V C : Nat) (Fr : List Int → Nat) (s : List Nat × Bool) (t : Int × Int × List Int) : List Nat × Bool :=
  if C.testBit t.1.toNat = true ∧ t.2.1 ≥ K then
    (s.1.set (t.2.1 - K).toNat (s.1.getD (t.2.1 - K).toNat 0 ||| valT K V Fr s.1 t), s.2 || decide (s.1.getD (t.2.1 - K).toNat 0 ||| valT K V Fr s.1 t ≠ s.1.getD (t.2.1 - K).toNat 0))
  else s
def condT (K : Int) (V C : Nat) (t : Int × Int × List Int) : Bool := C.testBit t.1.toNat && (decide (t.2.1 ≥ K) && allV K V t.2.2)
def edgesT (K : Int) (V C : Nat) (L : List (Int × Int × List Int)) : List (Int × Int) := (L.filter (condT K V C)).map fun t => (t.2.1 - K, t.1)
def baseB (K st : Int) (C : Nat) (Fr : List Int → Nat) (rs : List S38) (u b : Nat) : Prop := ((u : Int) = st ∧ b = K.toNat) ∨ ∃ t ∈ tripsG rs, C.testBit t.1.toNat = true ∧ t.2.1 = K + (u : Int) ∧ (Fr t.2.2).testBit b = true
def rch2 (E : List (Int × Int)) (i u : Nat) : Prop := ∀ D : Nat → Bool, (∀ e ∈ E, D e.1.toNat = true → D e.2.toNat = true) → D i = true → D u = true
structure FOK2 (K N st : Int) (V C : Nat) (Fr : List Int → Nat) (rs : List S38) (T : List Nat) : Prop where
  len : T.length = N.toNat
  lt : ∀ s ∈ T, s < 2 ^ (K.toNat + 1)
  top : (T.getD st.toNat 0).testBit K.toNat = true
  snd : ∀ i, i < N.toNat → ∀ b, (T.getD i 0).testBit b = true → C.testBit i = true ∧ ∃ u, rch2 (edgesT K V C (tripsG rs)) i u ∧ baseB K st C Fr rs u b
section
variable (K N st : Int) (rs : List S38) (G : GOK K N st rs) (V C : Nat) (Fr : List Int → Nat) (hFr : ∀ l, Fr l < 2 ^ K.toNat) (hC : ∀ e ∈ edgesG rs, C.testBit e.1.toNat = true → e.2 ≥ K → C.testBit (e.2 - K).toNat = true)
include G hFr
theorem trip_ok {t : Int × Int × List Int} (h : t ∈ tripsG rs) : 0 ≤ t.1 ∧ t.1 < N ∧ 0 ≤ t.2.1 ∧ t.2.1 < K + N ∧ (∀ y ∈ t.2.2, 0 ≤ y ∧ y < K + N) ∧ t.2.2.length ≤ 4 := by
  obtain ⟨r, hr, h1, h2, h3, h4⟩ := tripsG_mem h
  have := G.r0 r hr; have := G.r1 r hr; have := G.x0 r hr _ h2; have := G.x1 r hr _ h2; have := G.rl r hr
  exact ⟨by omega, by omega, by omega, by omega, fun y hy => ⟨G.x0 r hr y (h3 y hy), G.x1 r hr y (h3 y hy)⟩, by omega⟩
theorem valT_lt {T : List Nat} (h : ∀ s ∈ T, s < 2 ^ (K.toNat + 1)) (t : Int × Int × List Int) : valT K V Fr T t < 2 ^ (K.toNat + 1) := by
  unfold valT
  refine Nat.or_lt_two_pow ?_ ?_
  · exact Nat.lt_of_lt_of_le (hFr _) (Nat.pow_le_pow_right (by omega) (by omega))
  · split
    · exact getD_lt h (Nat.two_pow_pos _) _
    · exact Nat.two_pow_pos _
include hC
theorem fok2_step {s : List Nat × Bool} (h : FOK2 K N st V C Fr rs s.1) {t : Int × Int × List Int} (ht : t ∈ tripsG rs) : FOK2 K N st V C Fr rs (stepT K V C Fr s t).1 := by
  unfold stepT
  split
  · rename_i c
    have ho := trip_ok K N st rs G Fr hFr ht
    have hlen := h.len
    have s0 := G.s0; have s1 := G.s1
    refine ⟨by rw [List.length_set]; exact hlen, ?_, ?_, ?_⟩
    · intro x hx
      rcases List.mem_or_eq_of_mem_set hx with q | q
      · exact h.lt x q
      · rw [q]; exact Nat.or_lt_two_pow (getD_lt h.lt (Nat.two_pow_pos _) _) (valT_lt K N st rs G V Fr hFr h.lt t)
    · rw [getD_set _ _ _ _ (by omega)]
      split
      · rename_i e
        rw [Nat.testBit_or, e, h.top, Bool.true_or]
      · exact h.top
    · intro i hi b hb
      rw [getD_set _ _ _ _ (by omega)] at hb
      split at hb
      · rename_i e
        rw [Nat.testBit_or, Bool.or_eq_true] at hb
        rcases hb with hb | hb
        · rw [e] at hb; exact h.snd i hi b hb
        · obtain ⟨r, hr, h1, h2, _, _⟩ := tripsG_mem ht
          have hCi : C.testBit i = true := by
            rw [← e]
            have := hC (r.f0, t.2.1) (edgesG_in hr h2) (by rw [← h1]; exact c.1) c.2
            exact this
          refine ⟨hCi, ?_⟩
          unfold valT at hb
          rw [Nat.testBit_or, Bool.or_eq_true] at hb
          rcases hb with hb | hb
          · exact ⟨i, fun D _ q => q, .inr ⟨t, ht, c.1, by omega, hb⟩⟩
          · split at hb
            · rename_i a
              obtain ⟨_, u, hu, hu2⟩ := h.snd t.1.toNat (by omega) b hb
              refine ⟨u, fun D hD q => hu D hD ?_, hu2⟩
              refine hD (t.2.1 - K, t.1) ?_ (by rw [← e] at q; exact q)
              unfold edgesT
              rw [List.mem_map]
              refine ⟨t, List.mem_filter.2 ⟨ht, ?_⟩, rfl⟩
              unfold condT
              rw [c.1, a, decide_eq_true c.2]; rfl
            · simp at hb
      · exact h.snd i hi b hb
  · exact h
theorem foldT_ok : ∀ (L : List (Int × Int × List Int)) (s : List Nat × Bool), (∀ t ∈ L, t ∈ tripsG rs) → FOK2 K N st V C Fr rs s.1 →
    FOK2 K N st V C Fr rs (L.foldl (stepT K V C Fr) s).1 ∧ tot (K.toNat + 1) s.1 ≤ tot (K.toNat + 1) (L.foldl (stepT K V C Fr) s).1 ∧ ((L.foldl (stepT K V C Fr) s).2 = true → s.2 = true ∨ tot (K.toNat + 1) s.1 < tot (K.toNat + 1) (L.foldl (stepT K V C Fr) s).1) ∧
    ((L.foldl (stepT K V C Fr) s).2 = false → s.2 = false ∧ (L.foldl (stepT K V C Fr) s).1 = s.1 ∧ ∀ t ∈ L, C.testBit t.1.toNat = true → t.2.1 ≥ K → s.1.getD (t.2.1 - K).toNat 0 ||| valT K V Fr s.1 t = s.1.getD (t.2.1 - K).toNat 0)
  | [], s, _, h => ⟨h, Nat.le_refl _, fun q => .inl q, fun q => ⟨q, rfl, by simp⟩⟩
  | t :: L, s, hL, h => by
    have ht := hL t (by simp)
    have ho := trip_ok K N st rs G Fr hFr ht
    have hs := fok2_step K N st rs G V C Fr hFr hC h ht
    have ih := foldT_ok L (stepT K V C Fr s t) (fun q hq => hL q (by simp [hq])) hs
    rw [List.foldl_cons]
    by_cases c : C.testBit t.1.toNat = true ∧ t.2.1 ≥ K
    · have e0 : stepT K V C Fr s t = (s.1.set (t.2.1 - K).toNat (s.1.getD (t.2.1 - K).toNat 0 ||| valT K V Fr s.1 t), s.2 || decide (s.1.getD (t.2.1 - K).toNat 0 ||| valT K V Fr s.1 t ≠ s.1.getD (t.2.1 - K).toNat 0)) := by unfold stepT; rw [if_pos c]
      have hT := tot_set (K.toNat + 1) (s.1.getD (t.2.1 - K).toNat 0 ||| valT K V Fr s.1 t) s.1 (t.2.1 - K).toNat (by rw [h.len]; omega)
      have hm := cnt_mono (s.1.getD (t.2.1 - K).toNat 0) (s.1.getD (t.2.1 - K).toNat 0 ||| valT K V Fr s.1 t) (fun i hi => by rw [Nat.testBit_or, hi, Bool.true_or]) (K.toNat + 1)
      have e1 : tot (K.toNat + 1) (stepT K V C Fr s t).1 = tot (K.toNat + 1) (s.1.set (t.2.1 - K).toNat (s.1.getD (t.2.1 - K).toNat 0 ||| valT K V Fr s.1 t)) := by rw [e0]
      refine ⟨ih.1, by omega, ?_, ?_⟩
      · intro q
        rcases ih.2.2.1 q with q | q
        · rw [e0] at q
          simp only [Bool.or_eq_true, decide_eq_true_eq] at q
          rcases q with q | q
          · exact .inl q
          · right
            obtain ⟨i, hi, a, b⟩ := bits_in (valT_lt K N st rs G V Fr hFr h.lt t) q
            have := cnt_lt _ _ (fun i hi => by rw [Nat.testBit_or, hi, Bool.true_or]) i a b (K.toNat + 1) hi
            omega
        · right; omega
      · intro q
        obtain ⟨a, b, d⟩ := ih.2.2.2 q
        have a2 : s.2 = false ∧ ¬ (s.1.getD (t.2.1 - K).toNat 0 ||| valT K V Fr s.1 t ≠ s.1.getD (t.2.1 - K).toNat 0) := by
          rw [e0] at a
          simpa only [Bool.or_eq_false_iff, decide_eq_false_iff_not] using a
        have a3 := Decidable.not_not.1 a2.2
        have e : (stepT K V C Fr s t).1 = s.1 := by
          rw [e0]
          show s.1.set _ _ = _
          rw [a3, set_self]
        rw [e] at b d
        refine ⟨a2.1, b, ?_⟩
        intro x hx
        rcases List.mem_cons.1 hx with rfl | hx
        · exact fun _ _ => a3
        · exact d x hx
    · have e0 : stepT K V C Fr s t = s := by unfold stepT; rw [if_neg c]
      rw [e0] at ih ⊢
      refine ⟨ih.1, ih.2.1, ih.2.2.1, ?_⟩
      intro q
      obtain ⟨a, b, d⟩ := ih.2.2.2 q
      refine ⟨a, b, ?_⟩
      intro x hx
      rcases List.mem_cons.1 hx with rfl | hx
      · exact fun u v => absurd ⟨u, v⟩ c
      · exact d x hx
omit hC in
theorem edgeT_ok : ∀ e ∈ edgesT K V C (tripsG rs), 0 ≤ e.1 ∧ e.1 < N ∧ 0 ≤ e.2 ∧ e.2 < 0 + N := by
  intro e he
  unfold edgesT at he
  rw [List.mem_map] at he
  obtain ⟨t, ht, rfl⟩ := he
  rw [List.mem_filter] at ht
  have ho := trip_ok K N st rs G Fr hFr ht.1
  have h2 := ht.2
  unfold condT at h2
  simp only [Bool.and_eq_true, decide_eq_true_eq] at h2
  show 0 ≤ t.2.1 - K ∧ t.2.1 - K < N ∧ 0 ≤ t.1 ∧ t.1 < 0 + N
  omega
theorem follow_eq {T : List Nat} (h : FOK2 K N st V C Fr rs T) (hfix : ∀ t ∈ tripsG rs, C.testBit t.1.toNat = true → t.2.1 ≥ K → T.getD (t.2.1 - K).toNat 0 ||| valT K V Fr T t = T.getD (t.2.1 - K).toNat 0) (a : Nat) (ha : a < N.toNat) :
    (C.testBit a = false → T.getD a 0 = 0) ∧ ∀ b, (T.getD a 0).testBit b = true ↔ (C.testBit a = true ∧ ∃ u : Nat, (reachE 0 N (edgesT K V C (tripsG rs)) (2 ^ a)).testBit u = true ∧ baseB K st C Fr rs u b) := by
  have hE := edgeT_ok K N st rs G V C Fr hFr
  have hS : 2 ^ a < 2 ^ N.toNat := Nat.pow_lt_pow_right (by omega) ha
  have hN := G.N0
  refine ⟨?_, ?_⟩
  · intro hc
    apply Nat.eq_of_testBit_eq
    intro b
    rw [Nat.zero_testBit]
    cases e : (T.getD a 0).testBit b with
    | false => rfl
    | true => have := (h.snd a ha b e).1; rw [hc] at this; cases this
  · intro b
    constructor
    · intro hb
      obtain ⟨h1, u, h2, h3⟩ := h.snd a ha b hb
      refine ⟨h1, u, h2 (fun i => (reachE 0 N (edgesT K V C (tripsG rs)) (2 ^ a)).testBit i) ?_ ?_, h3⟩
      · intro e he q
        have := reach_closed 0 N _ _ hE hS hN he q (by have := hE e he; omega)
        rwa [Int.sub_zero] at this
      · exact reach_start 0 N _ _ hE hS hN _ (Nat.testBit_two_pow_self)
    · rintro ⟨h1, u, h2, h3⟩
      have sub : ∀ {a c : Nat}, a ||| c = c ↔ ∀ b, a.testBit b = true → c.testBit b = true := by
        intro a c
        constructor
        · intro q b hb
          rw [← q, Nat.testBit_or, hb, Bool.true_or]
        · intro q
          apply Nat.eq_of_testBit_eq
          intro b
          rw [Nat.testBit_or]
          cases e : a.testBit b with
          | false => simp
          | true => rw [q b e]; rfl
      have hfix2 : ∀ t ∈ tripsG rs, C.testBit t.1.toNat = true → t.2.1 ≥ K → ∀ b, (valT K V Fr T t).testBit b = true → (T.getD (t.2.1 - K).toNat 0).testBit b = true := by
        intro t ht c1 c2 b hb
        rw [← hfix t ht c1 c2, Nat.testBit_or, hb, Bool.or_true]
      have key := reach_least 0 N _ _ hE hS hN (fun u => decide (T.getD u 0 ||| T.getD a 0 = T.getD a 0)) ?_ ?_ u h2
      · rw [decide_eq_true_eq, sub] at key
        refine key b ?_
        rcases h3 with ⟨h4, h5⟩ | ⟨t, ht, c1, c2, h4⟩
        · rw [h5, show u = st.toNat by omega]; exact h.top
        · have := hfix2 t ht c1 (by omega) b (by unfold valT; rw [Nat.testBit_or, h4, Bool.true_or])
          rwa [c2, show (K + (u : Int) - K).toNat = u by omega] at this
      · intro e he h4 _
        have ho := hE e he
        unfold edgesT at he
        rw [List.mem_map] at he
        obtain ⟨t, ht, rfl⟩ := he
        rw [List.mem_filter] at ht
        have h5 := ht.2
        unfold condT at h5
        simp only [Bool.and_eq_true, decide_eq_true_eq] at h5
        rw [decide_eq_true_eq, sub] at h4
        rw [decide_eq_true_eq, sub, Int.sub_zero]
        intro b hb
        refine h4 b (hfix2 t ht.1 h5.1 h5.2.1 b ?_)
        unfold valT
        rw [if_pos h5.2.2, Nat.testBit_or, hb, Bool.or_true]
      · intro i hi
        rw [Nat.testBit_two_pow, decide_eq_true_eq] at hi
        subst hi
        rw [decide_eq_true_eq, Nat.or_self]
end
theorem tripG_cons (a x : Int) (l : List Int) : tripG a (x :: l) = (a, x, l) :: tripG a l := rfl
theorem stepT_no {K : Int} {V C : Nat} {Fr : List Int → Nat} {a : Int} (h : ¬ C.testBit a.toNat = true) : ∀ (l : List Int) (s : List Nat × Bool), (tripG a l).foldl (stepT K V C Fr) s = s
  | [], s => rfl
  | x :: l, s => by
    unfold tripG; rw [List.foldl_cons]
    have : stepT K V C Fr s (a, x, l) = s := by unfold stepT; rw [if_neg (fun q => h q.1)]
    rw [this]; exact stepT_no h l s
section
variable (K N st : Int) (rs : List S38) (G : GOK K N st rs) (V C : Nat) (hV : V < 2 ^ 32) (hC32 : C < 2 ^ 32) (Fr : List Int → Nat) (hFr : ∀ l, Fr l < 2 ^ K.toNat) (hC : ∀ e ∈ edgesG rs, C.testBit e.1.toNat = true → e.2 ≥ K → C.testBit (e.2 - K).toNat = true)
variable (F : List Nat) (hF : F.length = N.toNat) (hFl : ∀ s ∈ F, s < 2 ^ K.toNat) (hF3 : ∀ l : List Int, (∀ x ∈ l, 0 ≤ x ∧ x < K + N) → bgin K V F l = Fr l)
include G hV hC32 hFr hC hF hFl hF3
theorem follows_l1 (T : List Nat) (hT : FOK2 K N st V C Fr rs T) (R : List Int) (h : Ev (fun k => Zs.l0 k (F.map fun n : Nat => (n : Int)) (V : Int) (C : Int) (((tripsG rs).foldl (stepT K V C Fr) (T, false)).1.map fun n : Nat => (n : Int)) ((tripsG rs).foldl (stepT K V C Fr) (T, false)).2 K N st rs) R) :
    Ev (fun k => Zs.l1 k (F.map fun n : Nat => (n : Int)) (V : Int) (C : Int) (T.map fun n : Nat => (n : Int)) false rs (rs.length : Int) 0 K N st rs) R := by
  have hK0 := G.K0; have hK1 := G.K1; have hN0 := G.N0; have hN1 := G.N1; have hlen := G.len
  have h32 : 2 ^ (K.toNat + 1) ≤ 2 ^ 31 := Nat.pow_le_pow_right (by omega) (by omega)
  refine Ev.loop (L := fun k i (s : List Nat × Bool) => Zs.l1 k (F.map fun n : Nat => (n : Int)) (V : Int) (C : Int) (s.1.map fun n : Nat => (n : Int)) s.2 rs (rs.length : Int) i K N st rs) (n := rs.length) (fun i s => FOK2 K N st V C Fr rs s.1 ∧ (tripsG (rs.drop i.toNat)).foldl (stepT K V C Fr) s = (tripsG rs).foldl (stepT K V C Fr) (T, false)) ?_ ?_ 0 (T, false) (Int.le_refl _) (by omega) ⟨hT, rfl⟩
  · rintro s ⟨_, g⟩
    rw [Int.toNat_natCast, List.drop_length] at g
    have g : s = (tripsG rs).foldl (stepT K V C Fr) (T, false) := g
    refine Ev.step (fun k => Zs.l1.eq_2 _ _ _ _ _ _ _ _ _ _ _ _ k) ?_
    simp (disch := omega) only [if_neg (show ¬ ((rs.length : Nat) : Int) < (rs.length : Nat) by omega)]
    rw [g]; exact h
  · rintro i s h0 h1 ⟨g0, g⟩
    right
    have hm := rule_mem h0 h1
    have hsubt : ∀ t ∈ tripG (Zb rs i).f0 (Zb rs i).f1, t ∈ tripsG rs := by
      intro t ht
      unfold tripsG
      rw [List.mem_flatMap]
      exact ⟨_, hm, ht⟩
    rw [rd_rule h0 h1, tripsG_cons, List.foldl_append] at g
    have hrl := G.rl _ hm
    obtain ⟨r, hr⟩ : ∃ r, Zb rs i = r := ⟨_, rfl⟩
    rw [hr] at hm hrl g hsubt
    have hr0 := G.r0 r hm; have hr1 := G.r1 r hm; have hx0 := G.x0 r hm; have hx1 := G.x1 r hm
    have P := foldT_ok K N st rs G V C Fr hFr hC (tripG r.f0 r.f1) s hsubt g0
    refine ⟨(tripG r.f0 r.f1).foldl (stepT K V C Fr) s, ⟨P.1, g⟩, ?_⟩
    intro h2
    obtain ⟨y, hy⟩ := Int.eq_ofNat_of_zero_le hr0
    have hb := bit_shr C y hC32 (by omega)
    have hb0 : (Go.bits .and .u32 (shr .u32 (C : Int) (y : Int)) 1 = 0) ↔ ¬ C.testBit y = true := by
      have := bit_shr0 C y hC32 (by omega)
      rw [Bool.eq_iff_iff, beq_iff_eq] at this
      rw [this]; simp
    refine Ev.step (fun k => Zs.l1.eq_2 _ _ _ _ _ _ _ _ _ _ _ _ k) ?_
    simp (disch := omega) only [if_pos, hr, w64]
    by_cases c : C.testBit y = true
    · have hcy : C.testBit r.f0.toNat = true := by rw [hy, Int.toNat_natCast]; exact c
      rw [hy]
      refine Ev.neg (fun q => hb0.1 q c) ?_
      rw [← hy]
      refine Ev.loop (L := fun k j (s : List Nat × Bool) => Zs.l2 k (F.map fun n : Nat => (n : Int)) (V : Int) (C : Int) (s.1.map fun n : Nat => (n : Int)) s.2 rs (rs.length : Int) i r.f1 (r.f1.length : Int) j K N st rs r.f0 r.f1) (n := r.f1.length) (fun j u => FOK2 K N st V C Fr rs u.1 ∧ (tripG r.f0 (r.f1.drop j.toNat)).foldl (stepT K V C Fr) u = (tripG r.f0 r.f1).foldl (stepT K V C Fr) s ∧ ∀ t ∈ tripG r.f0 (r.f1.drop j.toNat), t ∈ tripsG rs) ?_ ?_ 0 s (Int.le_refl _) (by omega) ⟨g0, rfl, hsubt⟩
      · rintro u ⟨f0, f1, _⟩
        rw [Int.toNat_natCast, List.drop_length] at f1
        have f1 : u = (tripG r.f0 r.f1).foldl (stepT K V C Fr) s := f1
        refine Ev.step (fun k => Zs.l2.eq_2 _ _ _ _ _ _ _ _ _ _ _ _ _ _ _ _ _ k) ?_
        refine Ev.neg (by omega) ?_
        rw [f1, w64 (by omega) (by omega)]; exact h2
      · rintro j u h3 h4 ⟨f0, f1, f2⟩
        right
        have hx := rd_mem h3 h4
        have hy0 := hx0 _ hx
        have hy1 := hx1 _ hx
        rw [rd_cons h3 h4, tripG_cons] at f1 f2
        rw [List.foldl_cons] at f1
        have ht := f2 _ (List.mem_cons_self ..)
        refine ⟨stepT K V C Fr u (r.f0, rd r.f1 j, r.f1.drop (j + 1).toNat), ⟨fok2_step K N st rs G V C Fr hFr hC f0 ht, f1, fun t q => f2 t (List.mem_cons_of_mem _ q)⟩, ?_⟩
        intro h5
        obtain ⟨T1, c1⟩ := u
        have hTl : T1.length = N.toNat := f0.len
        have hTlt : ∀ s ∈ T1, s < 2 ^ (K.toNat + 1) := f0.lt
        refine Ev.step (fun k => Zs.l2.eq_2 _ _ _ _ _ _ _ _ _ _ _ _ _ _ _ _ _ k) ?_
        rw [w64 (show -9223372036854775808 ≤ j + 1 by omega) (by omega)]
        refine Ev.pos h4 (Ev.pos h3 (Ev.pos h4 ?_))
        by_cases c2 : rd r.f1 j < K
        · have e : stepT K V C Fr (T1, c1) (r.f0, rd r.f1 j, r.f1.drop (j + 1).toNat) = (T1, c1) := by
            unfold stepT; rw [if_neg (fun q => by have := q.2; simp only at this; omega)]
          rw [e] at h5
          exact Ev.pos c2 h5
        · have e : stepT K V C Fr (T1, c1) (r.f0, rd r.f1 j, r.f1.drop (j + 1).toNat) = (T1.set (rd r.f1 j - K).toNat (T1.getD (rd r.f1 j - K).toNat 0 ||| valT K V Fr T1 (r.f0, rd r.f1 j, r.f1.drop (j + 1).toNat)), c1 || decide (T1.getD (rd r.f1 j - K).toNat 0 ||| valT K V Fr T1 (r.f0, rd r.f1 j, r.f1.drop (j + 1).toNat) ≠ T1.getD (rd r.f1 j - K).toNat 0)) := by
            unfold stepT; rw [if_pos ⟨hcy, by show rd r.f1 j ≥ K; omega⟩]
          rw [e] at h5
          have hrest : ∀ x ∈ r.f1.drop (j + 1).toNat, 0 ≤ x ∧ x < K + N := fun x hx => ⟨hx0 x (List.mem_of_mem_drop hx), hx1 x (List.mem_of_mem_drop hx)⟩
          have hrl2 : (r.f1.drop (j + 1).toNat).length ≤ 1000 := by rw [List.length_drop]; omega
          have hev := begin_ev K N st rs G V hV F hF hFl (r.f1.drop (j + 1).toNat) hrest hrl2
          rw [hF3 _ hrest] at hev
          have hval := valT_lt K N st rs G V Fr hFr hTlt (r.f0, rd r.f1 j, r.f1.drop (j + 1).toNat)
          have hg1 := getD_lt hTlt (Nat.two_pow_pos _) (rd r.f1 j - K).toNat
          have hg2 := getD_lt hTlt (Nat.two_pow_pos _) r.f0.toNat
          have hfr := hFr (r.f1.drop (j + 1).toNat)
          have hfr2 : Fr (r.f1.drop (j + 1).toNat) < 2 ^ (K.toNat + 1) := Nat.lt_of_lt_of_le hfr (Nat.pow_le_pow_right (by omega) (by omega))
          have hlm : ((T1.map fun n : Nat => (n : Int)).length : Nat) = N.toNat := by rw [List.length_map]; exact hTl
          refine Ev.neg c2 (Ev.pos (by omega) (Ev.pos (by omega) ?_))
          refine Ev.bind hev ?_
          rw [w64 (show -9223372036854775808 ≤ rd r.f1 j - K by omega) (by omega)]
          simp only [rdF]
          by_cases c3 : allV K V (r.f1.drop (j + 1).toNat) = true
          · have ev : valT K V Fr T1 (r.f0, rd r.f1 j, r.f1.drop (j + 1).toNat) = Fr (r.f1.drop (j + 1).toNat) ||| T1.getD r.f0.toNat 0 := by
              unfold valT; simp only [c3, if_true]
            rw [ev] at h5 hval
            refine Ev.pos c3 (Ev.pos (by omega) (Ev.pos (by omega) ?_))
            rw [u32_or (Fr (r.f1.drop (j + 1).toNat)) (T1.getD r.f0.toNat 0) (by omega) (by omega)]
            rw [u32_or _ _ (by omega) (by omega), setF, andNot_ne _ _ (by omega) (by omega)]
            cases c1 with
            | true => refine Ev.pos rfl (Ev.pos (by omega) (Ev.pos (by omega) ?_)); simpa only [Bool.true_or] using h5
            | false => refine Ev.neg (by simp) (Ev.pos (by omega) (Ev.pos (by omega) ?_)); simpa only [Bool.false_or] using h5
          · have ev : valT K V Fr T1 (r.f0, rd r.f1 j, r.f1.drop (j + 1).toNat) = Fr (r.f1.drop (j + 1).toNat) := by
              unfold valT; simp only [if_neg c3, Nat.or_zero]
            rw [ev] at h5 hval
            refine Ev.neg c3 ?_
            rw [u32_or _ _ (by omega) (by omega), setF, andNot_ne _ _ (by omega) (by omega)]
            cases c1 with
            | true => refine Ev.pos rfl (Ev.pos (by omega) (Ev.pos (by omega) ?_)); simpa only [Bool.true_or] using h5
            | false => refine Ev.neg (by simp) (Ev.pos (by omega) (Ev.pos (by omega) ?_)); simpa only [Bool.false_or] using h5
    · rw [stepT_no (by rw [hy, Int.toNat_natCast]; exact c)] at h2
      rw [hy]
      refine Ev.pos (hb0.2 c) ?_
      exact h2
theorem follows_l0 (d : Nat) : ∀ (T : List Nat), FOK2 K N st V C Fr rs T → N.toNat * (K.toNat + 1) < tot (K.toNat + 1) T + d → ∃ T' : List Nat, FOK2 K N st V C Fr rs T' ∧ (∀ t ∈ tripsG rs, C.testBit t.1.toNat = true → t.2.1 ≥ K → T'.getD (t.2.1 - K).toNat 0 ||| valT K V Fr T' t = T'.getD (t.2.1 - K).toNat 0) ∧
    Ev (fun k => Zs.l0 k (F.map fun n : Nat => (n : Int)) (V : Int) (C : Int) (T.map fun n : Nat => (n : Int)) true K N st rs) (T'.map fun n : Nat => (n : Int)) := by
  induction d with
  | zero =>
    intro T hT h
    have := tot_le (K.toNat + 1) T
    rw [hT.len] at this; omega
  | succ d ih =>
    intro T hT h
    have P := foldT_ok K N st rs G V C Fr hFr hC (tripsG rs) (T, false) (fun r hr => hr) hT
    have go : ∀ R, Ev (fun k => Zs.l0 k (F.map fun n : Nat => (n : Int)) (V : Int) (C : Int) (((tripsG rs).foldl (stepT K V C Fr) (T, false)).1.map fun n : Nat => (n : Int)) ((tripsG rs).foldl (stepT K V C Fr) (T, false)).2 K N st rs) R → Ev (fun k => Zs.l0 k (F.map fun n : Nat => (n : Int)) (V : Int) (C : Int) (T.map fun n : Nat => (n : Int)) true K N st rs) R := by
      intro R hR
      refine Ev.step (fun k => Zs.l0.eq_2 _ _ _ _ _ _ _ _ _ k) ?_
      simp only [if_true]
      exact follows_l1 K N st rs G V C hV hC32 Fr hFr hC F hF hFl hF3 T hT R hR
    cases e : ((tripsG rs).foldl (stepT K V C Fr) (T, false)).2 with
    | true =>
      rcases P.2.2.1 e with q | q
      · cases q
      · obtain ⟨T', h1, h2, h3⟩ := ih _ P.1 (by have q : tot (K.toNat + 1) T < _ := q; omega)
        exact ⟨T', h1, h2, go _ (by rw [e]; exact h3)⟩
    | false =>
      obtain ⟨_, h1, h2⟩ := P.2.2.2 e
      refine ⟨T, hT, h2, go _ ?_⟩
      rw [e, h1]
      refine Ev.step (fun k => Zs.l0.eq_2 _ _ _ _ _ _ _ _ _ k) ?_
      simp only [Bool.false_eq_true, if_false]; exact Ev.now _
theorem follows_loop (hst : C.testBit st.toNat = true) : ∃ T : List Nat, T.length = N.toNat ∧ (∀ s ∈ T, s < 2 ^ (K.toNat + 1)) ∧ (∀ a, a < N.toNat → (C.testBit a = false → T.getD a 0 = 0) ∧ ∀ b, (T.getD a 0).testBit b = true ↔ (C.testBit a = true ∧ ∃ u : Nat, (reachE 0 N (edgesT K V C (tripsG rs)) (2 ^ a)).testBit u = true ∧ baseB K st C Fr rs u b)) ∧
    Ev (fun k => Zs.l0 k (F.map fun n : Nat => (n : Int)) (V : Int) (C : Int) ((List.replicate N.toNat (0 : Int)).set st.toNat (shl .u32 1 K)) true K N st rs) (T.map fun n : Nat => (n : Int)) := by
  have hK0 := G.K0; have hK1 := G.K1; have hN0 := G.N0; have hN1 := G.N1; have s0 := G.s0; have s1 := G.s1
  have T0 : FOK2 K N st V C Fr rs ((List.replicate N.toNat 0).set st.toNat (2 ^ K.toNat)) := by
    refine ⟨by simp, ?_, ?_, ?_⟩
    · intro s hs
      rcases List.mem_or_eq_of_mem_set hs with q | q
      · rw [List.eq_of_mem_replicate q]; exact Nat.two_pow_pos _
      · rw [q]; exact Nat.pow_lt_pow_right (by omega) (by omega)
    · rw [getD_set _ _ _ _ (by simp; omega), if_pos rfl, Nat.testBit_two_pow_self]
    · intro i hi b hb
      rw [getD_set _ _ _ _ (by simp; omega)] at hb
      split at hb
      · rename_i e
        rw [Nat.testBit_two_pow, decide_eq_true_eq] at hb
        subst e
        exact ⟨hst, st.toNat, fun D _ q => q, .inl ⟨by omega, hb.symm⟩⟩
      · rw [List.getD_eq_getElem?_getD, List.getElem?_replicate, if_pos hi] at hb
        simp at hb
  obtain ⟨T, h1, h2, h3⟩ := follows_l0 K N st rs G V C hV hC32 Fr hFr hC F hF hFl hF3 (N.toNat * (K.toNat + 1) + 1) _ T0 (by omega)
  refine ⟨T, h1.len, h1.lt, fun a ha => follow_eq K N st rs G V C Fr hFr hC h1 h2 a ha, ?_⟩
  obtain ⟨κ, hκ⟩ := Int.eq_ofNat_of_zero_le (show 0 ≤ K by omega)
  have e : (List.replicate N.toNat (0 : Int)).set st.toNat (shl .u32 1 K) = ((List.replicate N.toNat 0).set st.toNat (2 ^ K.toNat)).map fun n : Nat => (n : Int) := by
    rw [List.map_set, List.map_replicate]
    congr 1
    rw [hκ, Int.toNat_natCast]; exact shl1 κ (by omega)
  rw [e]; exact h3
end
def addQT (K u : Int) (V C : Nat) (q : List Int) (t : Int × Int × List Int) : List Int := if C.testBit t.1.toNat = true ∧ t.2.1 = K + u ∧ allV K V t.2.2 = true ∧ ¬ t.1 ∈ q then q ++ [t.1] else q
def updT (K u : Int) (C : Nat) (Fr : List Int → Nat) (o : Nat) (t : Int × Int × List Int) : Nat := if C.testBit t.1.toNat = true ∧ t.2.1 = K + u then o ||| Fr t.2.2 else o
def stepQ (K u : Int) (V C : Nat) (Fr : List Int → Nat) (s : List Int × Nat) (t : Int × Int × List Int) : List Int × Nat := (addQT K u V C s.1 t, updT K u C Fr s.2 t)
theorem stepQ_fold (K u : Int) (V C : Nat) (Fr : List Int → Nat) : ∀ (L : List (Int × Int × List Int)) (s : List Int × Nat), L.foldl (stepQ K u V C Fr) s = (L.foldl (addQT K u V C) s.1, L.foldl (updT K u C Fr) s.2)
  | [], s => rfl
  | t :: L, s => by rw [List.foldl_cons, List.foldl_cons, List.foldl_cons, stepQ_fold K u V C Fr L]; rfl
theorem stepQ_no {K u : Int} {V C : Nat} {Fr : List Int → Nat} {a : Int} (h : ¬ C.testBit a.toNat = true) : ∀ (l : List Int) (s : List Int × Nat), (tripG a l).foldl (stepQ K u V C Fr) s = s
  | [], s => rfl
  | x :: l, s => by
    rw [tripG_cons, List.foldl_cons]
    have : stepQ K u V C Fr s (a, x, l) = s := by
      unfold stepQ addQT updT; rw [if_neg (fun q => h q.1), if_neg (fun q => h q.1)]
    rw [this]; exact stepQ_no h l s
theorem addQT_pre (K u : Int) (V C : Nat) (q : List Int) (t : Int × Int × List Int) : ∃ v, addQT K u V C q t = q ++ v := by
  unfold addQT
  split
  · exact ⟨_, rfl⟩
  · exact ⟨[], by simp⟩
theorem foldQT_eq (K u h : Int) (V C : Nat) (h0 : 0 ≤ h) (hu : 0 ≤ u) : ∀ (L : List (Int × Int × List Int)) (q : List Int), (∀ t ∈ L, 0 ≤ t.1) → h < q.length → rd q h = u → L.foldl (addQT K u V C) q = (edgesT K V C L).foldl (addQ 0 h) q
  | [], q, _, _, _ => rfl
  | t :: L, q, hL, h1, h2 => by
    rw [List.foldl_cons]
    have ht := hL t (by simp)
    obtain ⟨v, hv⟩ := addQT_pre K u V C q t
    have ih := foldQT_eq K u h V C h0 hu L (addQT K u V C q t) (fun x hx => hL x (by simp [hx])) (by rw [hv, List.length_append]; omega) (by rw [hv, rd_app q v h h0 h1]; exact h2)
    rw [ih]
    unfold edgesT
    by_cases c : condT K V C t = true
    · rw [List.filter_cons_of_pos c, List.map_cons, List.foldl_cons]
      congr 1
      unfold condT at c
      simp only [Bool.and_eq_true, decide_eq_true_eq] at c
      unfold addQT addQ
      simp only [c.1, c.2.2, true_and, h2, Int.sub_zero]
      by_cases d : t.2.1 = K + u
      · by_cases e : t.1 ∈ q
        · rw [if_neg (fun z => z.2 e), if_neg (fun z => z.2.2 e)]
        · rw [if_pos ⟨d, e⟩, if_pos ⟨by omega, ht, e⟩]
      · rw [if_neg (fun z => d z.1), if_neg (fun z => d (by have := z.1; omega))]
    · rw [List.filter_cons_of_neg c]
      congr 1
      unfold addQT
      rw [if_neg]
      rintro ⟨a, b, d, _⟩
      apply c
      unfold condT
      rw [a, d, decide_eq_true (show t.2.1 ≥ K by omega)]; rfl
theorem updT_bit (K u : Int) (C : Nat) (Fr : List Int → Nat) (b : Nat) : ∀ (L : List (Int × Int × List Int)) (o : Nat), (L.foldl (updT K u C Fr) o).testBit b = true ↔ o.testBit b = true ∨ ∃ t ∈ L, C.testBit t.1.toNat = true ∧ t.2.1 = K + u ∧ (Fr t.2.2).testBit b = true
  | [], o => by simp
  | t :: L, o => by
    rw [List.foldl_cons, updT_bit K u C Fr b L]
    unfold updT
    by_cases c : C.testBit t.1.toNat = true ∧ t.2.1 = K + u
    · rw [if_pos c, Nat.testBit_or, Bool.or_eq_true]
      constructor
      · rintro ((h | h) | ⟨x, hx, h⟩)
        · exact .inl h
        · exact .inr ⟨t, by simp, c.1, c.2, h⟩
        · exact .inr ⟨x, List.mem_cons_of_mem _ hx, h⟩
      · rintro (h | ⟨x, hx, h⟩)
        · exact .inl (.inl h)
        · rcases List.mem_cons.1 hx with rfl | hx
          · exact .inl (.inr h.2.2)
          · exact .inr ⟨x, hx, h⟩
    · rw [if_neg c]
      constructor
      · rintro (h | ⟨x, hx, h⟩)
        · exact .inl h
        · exact .inr ⟨x, List.mem_cons_of_mem _ hx, h⟩
      · rintro (h | ⟨x, hx, h⟩)
        · exact .inl h
        · rcases List.mem_cons.1 hx with rfl | hx
          · exact absurd ⟨h.1, h.2.1⟩ c
          · exact .inr ⟨x, hx, h⟩
def updU (K st : Int) (C : Nat) (Fr : List Int → Nat) (rs : List S38) (o : Nat) (u : Int) : Nat := (tripsG rs).foldl (updT K u C Fr) (if u = st then o ||| 2 ^ K.toNat else o)
theorem updU_bit {K st : Int} {C : Nat} {Fr : List Int → Nat} {rs : List S38} {o : Nat} {u : Int} (hu : 0 ≤ u) (b : Nat) : (updU K st C Fr rs o u).testBit b = true ↔ o.testBit b = true ∨ baseB K st C Fr rs u.toNat b := by
  unfold updU baseB
  rw [updT_bit, Int.toNat_of_nonneg hu]
  by_cases c : u = st
  · rw [if_pos c, Nat.testBit_or, Nat.testBit_two_pow, Bool.or_eq_true, decide_eq_true_eq]
    constructor
    · rintro ((h | h) | h)
      · exact .inl h
      · exact .inr (.inl ⟨c, h.symm⟩)
      · exact .inr (.inr h)
    · rintro (h | ⟨_, h⟩ | h)
      · exact .inl (.inl h)
      · exact .inl (.inr h.symm)
      · exact .inr h
  · rw [if_neg c]
    constructor
    · rintro (h | h)
      · exact .inl h
      · exact .inr (.inr h)
    · rintro (h | ⟨h, _⟩ | h)
      · exact .inl h
      · exact absurd h c
      · exact .inr h
theorem foldU_bit {K st : Int} {C : Nat} {Fr : List Int → Nat} {rs : List S38} (b : Nat) : ∀ (q : List Int) (o : Nat), (∀ y ∈ q, 0 ≤ y) → ((q.foldl (updU K st C Fr rs) o).testBit b = true ↔ o.testBit b = true ∨ ∃ y ∈ q, baseB K st C Fr rs y.toNat b)
  | [], o, _ => by simp
  | y :: q, o, h => by
    rw [List.foldl_cons, foldU_bit b q _ (fun z hz => h z (by simp [hz])), updU_bit (h y (by simp))]
    constructor
    · rintro ((p | p) | ⟨z, hz, p⟩)
      · exact .inl p
      · exact .inr ⟨y, by simp, p⟩
      · exact .inr ⟨z, List.mem_cons_of_mem _ hz, p⟩
    · rintro (p | ⟨z, hz, p⟩)
      · exact .inl (.inl p)
      · rcases List.mem_cons.1 hz with rfl | hz
        · exact .inl (.inr p)
        · exact .inr ⟨z, hz, p⟩
theorem updT_lt {K u : Int} {C n : Nat} {Fr : List Int → Nat} (hFr : ∀ l, Fr l < 2 ^ n) {o : Nat} (h : o < 2 ^ n) (t : Int × Int × List Int) : updT K u C Fr o t < 2 ^ n := by
  unfold updT
  split
  · exact Nat.or_lt_two_pow h (hFr _)
  · exact h
theorem foldT_lt {K u : Int} {C n : Nat} {Fr : List Int → Nat} (hFr : ∀ l, Fr l < 2 ^ n) : ∀ (L : List (Int × Int × List Int)) (o : Nat), o < 2 ^ n → L.foldl (updT K u C Fr) o < 2 ^ n
  | [], _, h => h
  | t :: L, o, h => by rw [List.foldl_cons]; exact foldT_lt hFr L _ (updT_lt hFr h t)
theorem updU_lt {K st u : Int} {C : Nat} {Fr : List Int → Nat} {rs : List S38} (hFr : ∀ l, Fr l < 2 ^ (K.toNat + 1)) {o : Nat} (h : o < 2 ^ (K.toNat + 1)) : updU K st C Fr rs o u < 2 ^ (K.toNat + 1) := by
  unfold updU
  refine foldT_lt hFr _ _ ?_
  split
  · exact Nat.or_lt_two_pow h (Nat.pow_lt_pow_right (by omega) (by omega))
  · exact h
theorem foldU_lt {K st : Int} {C : Nat} {Fr : List Int → Nat} {rs : List S38} (hFr : ∀ l, Fr l < 2 ^ (K.toNat + 1)) : ∀ (q : List Int) (o : Nat), o < 2 ^ (K.toNat + 1) → q.foldl (updU K st C Fr rs) o < 2 ^ (K.toNat + 1)
  | [], _, h => h
  | y :: q, o, h => by rw [List.foldl_cons]; exact foldU_lt hFr q _ (updU_lt hFr h)
theorem firstR_lt (K N : Int) (V : Nat) (rs : List S38) (l : List Int) : firstR K N V rs l < 2 ^ K.toNat := maskB_lt _ _
section
variable (K N st : Int) (rs : List S38) (G : GOK K N st rs)
include G
theorem gone_ev (l : List Int) (hl : ∀ x ∈ l, 0 ≤ x ∧ x < K + N) (hlen : l.length ≤ 1000) : Ev (fun k => Zl1.f k K N st rs l) (allV K (voidG K N rs) l) := by
  have hK0 := G.K0; have hK1 := G.K1; have hN0 := G.N0; have hN1 := G.N1
  have hV := void_lt K N st rs G
  have hn := refNames_ev K N st rs G true
  unfold Zl1.f
  refine Ev.bind hn ?_
  have ev : leastG K N (!true) rs = voidG K N rs := rfl
  rw [ev]
  generalize voidG K N rs = V at hV
  refine Ev.loop (σ := Unit) (L := fun k i _ => Zl1.l0 k (V : Int) l (l.length : Int) i K N st rs) (n := l.length) (fun i _ => allV K V (l.drop i.toNat) = allV K V l) ?_ ?_ 0 () (Int.le_refl _) (by omega) rfl
  · intro _ g
    rw [Int.toNat_natCast, List.drop_length] at g
    have g : true = allV K V l := g
    refine Ev.step (fun k => Zl1.l0.eq_2 _ _ _ _ _ _ _ _ k) ?_
    simp (disch := omega) only [if_neg (show ¬ ((l.length : Nat) : Int) < (l.length : Nat) by omega)]
    rw [← g]; exact Ev.now _
  · intro i _ h0 h1 g
    have hx := hl _ (rd_mem h0 h1)
    rw [rd_cons h0 h1] at g
    unfold allV at g
    rw [List.all_cons] at g
    by_cases c : rd l i < K
    · left
      refine Ev.step (fun k => Zl1.l0.eq_2 _ _ _ _ _ _ _ _ k) ?_
      simp (disch := omega) only [if_pos, if_pos c]
      rw [decide_eq_false (show ¬ rd l i ≥ K by omega)] at g
      unfold allV; rw [← g]; exact Ev.now _
    · obtain ⟨y, hy⟩ := Int.eq_ofNat_of_zero_le (show 0 ≤ rd l i - K by omega)
      rw [decide_eq_true (show rd l i ≥ K by omega), hy, Int.toNat_natCast] at g
      by_cases c2 : V.testBit y = true
      · right
        rw [c2] at g
        refine ⟨(), g, ?_⟩
        intro h
        refine Ev.step (fun k => Zl1.l0.eq_2 _ _ _ _ _ _ _ _ k) ?_
        simp (disch := omega) only [if_pos, if_neg c, w64, hy, Bit_eq V y hV (by omega), Option.bind_some, if_pos c2]; exact h
      · left
        refine Ev.step (fun k => Zl1.l0.eq_2 _ _ _ _ _ _ _ _ k) ?_
        simp (disch := omega) only [if_pos, if_neg c, w64, hy, Bit_eq V y hV (by omega), Option.bind_some, if_neg c2]
        rw [show V.testBit y = false by simpa using c2] at g
        unfold allV; rw [← g]; exact Ev.now _
theorem rfollow_l1 (C : Nat) (hC : C < 2 ^ 32) (h u : Int) (h0 : 0 ≤ h) (hu : 0 ≤ u) (hu2 : u < N) (q0 : List Int) (o0 : Nat) (ho0 : o0 < 2 ^ (K.toNat + 1)) (hq0 : QOK N q0) (hl : h < q0.length) (hr0 : rd q0 h = u) (R : Int)
    (hk : Ev (fun k => Zq.l0 k (C : Int) ((tripsG rs).foldl (stepQ K u (voidG K N rs) C (firstR K N (voidG K N rs) rs)) (q0, o0)).1 (((tripsG rs).foldl (stepQ K u (voidG K N rs) C (firstR K N (voidG K N rs) rs)) (q0, o0)).2 : Int) (h + 1) K N st rs) R) :
    Ev (fun k => Zq.l1 k (C : Int) q0 (o0 : Int) h rs (rs.length : Int) 0 K N st rs) R := by
  have hlen := G.len; have hN1 := G.N1; have hN0 := G.N0; have hK0 := G.K0; have hK1 := G.K1
  have hFr := firstR_lt K N (voidG K N rs) rs
  have hFr1 : ∀ l, firstR K N (voidG K N rs) rs l < 2 ^ (K.toNat + 1) := fun l => Nat.lt_of_lt_of_le (hFr l) (Nat.pow_le_pow_right (by omega) (by omega))
  have h32 : 2 ^ (K.toNat + 1) ≤ 2 ^ 31 := Nat.pow_le_pow_right (by omega) (by omega)
  have evF := fun l hl hlen => rfirsts_ev K N st rs G l hl hlen
  have evG := fun l hl hlen => gone_ev K N st rs G l hl hlen
  generalize firstR K N (voidG K N rs) rs = Fr at hk hFr hFr1 evF
  generalize voidG K N rs = V at hk evG
  have addok : ∀ (q : List Int) (t : Int × Int × List Int), QOK N q → 0 ≤ t.1 → t.1 < N → QOK N (addQT K u V C q t) := by
    intro q t H a b
    unfold addQT
    split
    · rename_i c; exact H.put a b c.2.2.2
    · exact H
  refine Ev.loop (L := fun k i (s : List Int × Nat) => Zq.l1 k (C : Int) s.1 (s.2 : Int) h rs (rs.length : Int) i K N st rs) (n := rs.length) (fun i s => QOK N s.1 ∧ h < s.1.length ∧ rd s.1 h = u ∧ s.2 < 2 ^ (K.toNat + 1) ∧ (tripsG (rs.drop i.toNat)).foldl (stepQ K u V C Fr) s = (tripsG rs).foldl (stepQ K u V C Fr) (q0, o0)) ?_ ?_ 0 (q0, o0) (Int.le_refl _) (by omega) ⟨hq0, hl, hr0, ho0, rfl⟩
  · rintro s ⟨g1, g2, _, _, g3⟩
    rw [Int.toNat_natCast, List.drop_length] at g3
    have g3 : s = (tripsG rs).foldl (stepQ K u V C Fr) (q0, o0) := g3
    have hql := g1.len
    refine Ev.step (fun k => Zq.l1.eq_2 _ _ _ _ _ _ _ _ _ _ _ k) ?_
    refine Ev.neg (by omega) ?_
    rw [g3, w64 (by omega) (by omega)]; exact hk
  · rintro i s h2 h3 ⟨g1, g2, g4, g5, g3⟩
    right
    have hm := rule_mem h2 h3
    rw [rd_rule h2 h3, tripsG_cons, List.foldl_append] at g3
    have hrl := G.rl _ hm
    obtain ⟨r, hr⟩ : ∃ r, Zb rs i = r := ⟨_, rfl⟩
    rw [hr] at hm hrl g3
    have r0 := G.r0 r hm; have r1 := G.r1 r hm; have hx0 := G.x0 r hm; have hx1 := G.x1 r hm
    obtain ⟨y, hy⟩ := Int.eq_ofNat_of_zero_le r0
    have fold_inv : ∀ (L : List Int) (s : List Int × Nat), QOK N s.1 → h < s.1.length → rd s.1 h = u → s.2 < 2 ^ (K.toNat + 1) → QOK N ((tripG r.f0 L).foldl (stepQ K u V C Fr) s).1 ∧ h < ((tripG r.f0 L).foldl (stepQ K u V C Fr) s).1.length ∧ rd ((tripG r.f0 L).foldl (stepQ K u V C Fr) s).1 h = u ∧ ((tripG r.f0 L).foldl (stepQ K u V C Fr) s).2 < 2 ^ (K.toNat + 1) := by
      intro L
      induction L with
      | nil => intro s a b c d; exact ⟨a, b, c, d⟩
      | cons x L ih =>
        intro s a b c d
        rw [tripG_cons, List.foldl_cons]
        obtain ⟨v, hv⟩ := addQT_pre K u V C s.1 (r.f0, x, L)
        refine ih _ (addok _ _ a r0 r1) ?_ ?_ (updT_lt hFr1 d _)
        · show h < (addQT K u V C s.1 (r.f0, x, L)).length
          rw [hv, List.length_append]; omega
        · show rd (addQT K u V C s.1 (r.f0, x, L)) h = u
          rw [hv, rd_app s.1 v h h0 b]; exact c
    have FI := fold_inv r.f1 s g1 g2 g4 g5
    refine ⟨(tripG r.f0 r.f1).foldl (stepQ K u V C Fr) s, ⟨FI.1, FI.2.1, FI.2.2.1, FI.2.2.2, g3⟩, ?_⟩
    intro h4
    refine Ev.step (fun k => Zq.l1.eq_2 _ _ _ _ _ _ _ _ _ _ _ k) ?_
    rw [w64 (show -9223372036854775808 ≤ i + 1 by omega) (by omega), hr]
    refine Ev.pos h3 (Ev.pos h2 (Ev.pos h3 ?_))
    have eb : Zt1.f (C : Int) r.f0 = some (C.testBit y) := by rw [hy]; exact Bit_eq C y hC (by omega)
    rw [eb]
    simp only [Option.bind_some]
    by_cases c : C.testBit y = true
    · have hcy : C.testBit r.f0.toNat = true := by rw [hy, Int.toNat_natCast]; exact c
      refine Ev.pos c ?_
      refine Ev.loop (L := fun k j (s : List Int × Nat) => Zq.l2 k (C : Int) s.1 (s.2 : Int) h rs (rs.length : Int) i r.f1 (r.f1.length : Int) j K N st rs r.f0 r.f1) (n := r.f1.length) (fun j z => QOK N z.1 ∧ h < z.1.length ∧ rd z.1 h = u ∧ z.2 < 2 ^ (K.toNat + 1) ∧ (tripG r.f0 (r.f1.drop j.toNat)).foldl (stepQ K u V C Fr) z = (tripG r.f0 r.f1).foldl (stepQ K u V C Fr) s) ?_ ?_ 0 s (Int.le_refl _) (by omega) ⟨g1, g2, g4, g5, rfl⟩
      · rintro z ⟨_, _, _, _, f⟩
        rw [Int.toNat_natCast, List.drop_length] at f
        have f : z = (tripG r.f0 r.f1).foldl (stepQ K u V C Fr) s := f
        refine Ev.step (fun k => Zq.l2.eq_2 _ _ _ _ _ _ _ _ _ _ _ _ _ _ _ _ k) ?_
        refine Ev.neg (by omega) ?_
        rw [f, w64 (by omega) (by omega)]; exact h4
      · rintro j ⟨q, o⟩ h5 h6 ⟨f1, f2, f3, f4, f⟩
        right
        rw [rd_cons h5 h6, tripG_cons, List.foldl_cons] at f
        have hx := rd_mem h5 h6
        have hy0 := hx0 _ hx
        have hy1 := hx1 _ hx
        have hql := f1.len
        have hrest : ∀ x ∈ r.f1.drop (j + 1).toNat, 0 ≤ x ∧ x < K + N := fun x hx => ⟨hx0 x (List.mem_of_mem_drop hx), hx1 x (List.mem_of_mem_drop hx)⟩
        have hrl2 : (r.f1.drop (j + 1).toNat).length ≤ 1000 := by rw [List.length_drop]; omega
        obtain ⟨v, hv⟩ := addQT_pre K u V C q (r.f0, rd r.f1 j, r.f1.drop (j + 1).toNat)
        refine ⟨stepQ K u V C Fr (q, o) (r.f0, rd r.f1 j, r.f1.drop (j + 1).toNat), ⟨addok _ _ f1 r0 r1, ?_, ?_, updT_lt hFr1 f4 _, f⟩, ?_⟩
        · show h < (addQT K u V C q (r.f0, rd r.f1 j, r.f1.drop (j + 1).toNat)).length
          have f2 : h < q.length := f2
          rw [hv, List.length_append]; omega
        · show rd (addQT K u V C q (r.f0, rd r.f1 j, r.f1.drop (j + 1).toNat)) h = u
          rw [hv, rd_app q v h h0 f2]; exact f3
        intro h7
        have f2 : h < q.length := f2
        have f3 : rd q h = u := f3
        have f4 : o < 2 ^ (K.toNat + 1) := f4
        have hql : q.length ≤ N.toNat := hql
        refine Ev.step (fun k => Zq.l2.eq_2 _ _ _ _ _ _ _ _ _ _ _ _ _ _ _ _ k) ?_
        rw [w64 (show -9223372036854775808 ≤ j + 1 by omega) (by omega)]
        refine Ev.pos h6 (Ev.pos h5 (Ev.pos h6 (Ev.pos h0 (Ev.pos f2 ?_))))
        rw [f3, w64 (show -9223372036854775808 ≤ K + u by omega) (by omega)]
        by_cases d : rd r.f1 j = K + u
        · refine Ev.pos d (Ev.pos (by omega) (Ev.pos (by omega) ?_))
          simp only [Option.bind_some]
          have hfr := hFr (r.f1.drop (j + 1).toNat)
          refine Ev.bind (evF _ hrest hrl2) (Ev.bind (evG _ hrest hrl2) ?_)
          have e2 : updT K u C Fr o (r.f0, rd r.f1 j, r.f1.drop (j + 1).toNat) = o ||| Fr (r.f1.drop (j + 1).toNat) := by unfold updT; rw [if_pos ⟨hcy, d⟩]
          unfold stepQ at h7
          simp only [e2] at h7
          rw [u32_or o _ (by omega) (by have := hFr1 (r.f1.drop (j + 1).toNat); omega)]
          by_cases a : allV K V (r.f1.drop (j + 1).toNat) = true
          · refine Ev.pos a ?_
            refine Ev.bind (has_ev q _ (by omega)) ?_
            by_cases m : r.f0 ∈ q
            · have e1 : addQT K u V C q (r.f0, rd r.f1 j, r.f1.drop (j + 1).toNat) = q := by unfold addQT; rw [if_neg (fun z => z.2.2.2 m)]
              rw [e1] at h7
              simp only [decide_eq_true m, if_true]; exact h7
            · have e1 : addQT K u V C q (r.f0, rd r.f1 j, r.f1.drop (j + 1).toNat) = q ++ [r.f0] := by unfold addQT; rw [if_pos ⟨hcy, d, a, m⟩]
              rw [e1] at h7
              simp only [decide_eq_false m, Bool.false_eq_true, if_false]
              exact Ev.pos (by omega) h7
          · have e1 : addQT K u V C q (r.f0, rd r.f1 j, r.f1.drop (j + 1).toNat) = q := by unfold addQT; rw [if_neg (fun z => a z.2.2.1)]
            rw [e1] at h7
            exact Ev.neg a h7
        · have e : stepQ K u V C Fr (q, o) (r.f0, rd r.f1 j, r.f1.drop (j + 1).toNat) = (q, o) := by
            unfold stepQ addQT updT
            rw [if_neg (fun z => d z.2.1), if_neg (fun z => d z.2)]
          rw [e] at h7
          exact Ev.neg d h7
    · rw [stepQ_no (by rw [hy, Int.toNat_natCast]; exact c)] at h4
      exact Ev.neg c h4
theorem rfollow_ev (a T : Nat) (ha : a < N.toNat) (hT : T < 2 ^ (K.toNat + 1)) (hT0 : (comesG K N st rs).testBit a = false → T = 0)
    (hTb : ∀ b, T.testBit b = true ↔ ((comesG K N st rs).testBit a = true ∧ ∃ u : Nat, (reachE 0 N (edgesT K (voidG K N rs) (comesG K N st rs) (tripsG rs)) (2 ^ a)).testBit u = true ∧ baseB K st (comesG K N st rs) (firstR K N (voidG K N rs) rs) rs u b)) :
    Ev (fun k => Zq.f k K N st rs (a : Int)) (T : Int) := by
  have hlen := G.len; have hN1 := G.N1; have hN0 := G.N0; have hK0 := G.K0; have hK1 := G.K1; have s0 := G.s0; have s1 := G.s1
  have hC := lt32C K N st rs G (comes_lt K N st rs G)
  have hFr := firstR_lt K N (voidG K N rs) rs
  have hFr1 : ∀ l, firstR K N (voidG K N rs) rs l < 2 ^ (K.toNat + 1) := fun l => Nat.lt_of_lt_of_le (hFr l) (Nat.pow_le_pow_right (by omega) (by omega))
  have h32 : 2 ^ (K.toNat + 1) ≤ 2 ^ 31 := Nat.pow_le_pow_right (by omega) (by omega)
  unfold Zq.f
  refine Ev.bind (rcomes_ev K N st rs G) ?_
  simp only [Bit_eq (comesG K N st rs) a hC (by omega), Option.bind_some]
  by_cases c : (comesG K N st rs).testBit a = true
  · refine Ev.pos c ?_
    have hE := edgeT_ok K N st rs G (voidG K N rs) (comesG K N st rs) (firstR K N (voidG K N rs) rs) hFr
    have e0 : ((0 : Nat) : Int) = 0 := rfl
    have hb := bfs (σ := Nat) (K := 0) (N := N) (E := edgesT K (voidG K N rs) (comesG K N st rs) (tripsG rs)) (S := 2 ^ a) hE hN0 (L := fun k q h o => Zq.l0 k ((comesG K N st rs : Nat) : Int) q (o : Int) h K N st rs) (R := (T : Int)) (updU K st (comesG K N st rs) (firstR K N (voidG K N rs) rs) rs) 0 ?_ ?_ [(a : Int)] ⟨by simp, by simp; omega⟩ ?_
    · rw [e0] at hb; exact hb
    · intro q hq he
      have hql := hq.len
      refine Ev.step (fun k => Zq.l0.eq_2 _ _ _ _ _ _ _ _ k) ?_
      refine Ev.neg (by omega) ?_
      have e : q.foldl (updU K st (comesG K N st rs) (firstR K N (voidG K N rs) rs) rs) 0 = T := by
        apply Nat.eq_of_testBit_eq
        intro b
        rw [Bool.eq_iff_iff, foldU_bit b q 0 (fun y hy => (hq.rg y hy).1), hTb b, ← he]
        constructor
        · rintro (p | ⟨y, hy, p⟩)
          · simp at p
          · have hr := hq.rg y hy
            refine ⟨c, y.toNat, ?_, p⟩
            rw [maskB_bit, decide_eq_true (by omega), Bool.true_and]
            unfold inQ; rw [Int.toNat_of_nonneg hr.1]; exact decide_eq_true hy
        · rintro ⟨_, u, p, r⟩
          rw [maskB_bit, Bool.and_eq_true] at p
          refine .inr ⟨(u : Int), of_decide_eq_true p.2, ?_⟩
          rw [Int.toNat_natCast]; exact r
      rw [e]; exact Ev.now _
    · intro q h o h0 h1 hq hin ho hk
      have hql := hq.len
      have hu := hq.rg _ (rd_mem h0 h1)
      have holt : o < 2 ^ (K.toNat + 1) := by rw [ho]; exact foldU_lt hFr1 _ _ (Nat.two_pow_pos _)
      have hq2 := foldQT_eq K (rd q h) h (voidG K N rs) (comesG K N st rs) h0 hu.1 (tripsG rs) q (fun t ht => (trip_ok K N st rs G _ hFr ht).1) h1 rfl
      rw [← hq2] at hk
      refine Ev.step (fun k => Zq.l0.eq_2 _ _ _ _ _ _ _ _ k) ?_
      refine Ev.pos h1 (Ev.pos h0 ?_)
      have go : ∀ o1 : Nat, o1 < 2 ^ (K.toNat + 1) → o1 = (if rd q h = st then o ||| 2 ^ K.toNat else o) → Ev (fun k => Zq.j1 k ((comesG K N st rs : Nat) : Int) q (o1 : Int) h K N st rs) (T : Int) := by
        intro o1 h2 h3
        refine Ev.step (fun k => Zq.j1.eq_2 _ _ _ _ _ _ _ _ k) ?_
        refine rfollow_l1 K N st rs G _ hC h (rd q h) h0 hu.1 hu.2 q o1 h2 hq h1 rfl _ ?_
        rw [stepQ_fold]
        unfold updU at hk
        rw [← h3] at hk
        exact hk
      by_cases d : rd q h = st
      · refine Ev.pos d (Ev.pos (by rw [u64_id (by omega) (by omega)]; omega) ?_)
        obtain ⟨κ, hκ⟩ := Int.eq_ofNat_of_zero_le (show 0 ≤ K by omega)
        rw [u64_id (by omega) (by omega)]
        have e1 : Go.bits .or .u32 (o : Int) (shl .u32 1 K) = ((o ||| 2 ^ K.toNat : Nat) : Int) := by
          have e2 := bit_or o κ (by omega) (by omega)
          rw [hκ, Int.toNat_natCast]; exact e2
        rw [e1]
        exact go _ (Nat.or_lt_two_pow holt (Nat.pow_lt_pow_right (by omega) (by omega))) (by rw [if_pos d])
      · exact Ev.neg d (go _ holt (by rw [if_neg d]))
    · apply Nat.eq_of_testBit_eq
      intro i
      rw [maskB_bit, Bool.eq_iff_iff, Nat.testBit_two_pow, decide_eq_true_eq, Bool.and_eq_true, decide_eq_true_eq]
      unfold inQ
      rw [decide_eq_true_eq, List.mem_singleton]
      omega
  · refine Ev.neg c ?_
    rw [hT0 (by simpa using c)]; exact Ev.now _
end
theorem follows_ev (K N st : Int) (rs : List S38) (G : GOK K N st rs) (hg : gcode K N st rs = 0) (F : List Nat) (f1 : F.length = N.toNat) (f2 : ∀ s ∈ F, s < 2 ^ K.toNat) (f3 : ∀ l : List Int, (∀ x ∈ l, 0 ≤ x ∧ x < K + N) → bgin K (voidG K N rs) F l = firstR K N (voidG K N rs) rs l) :
    ∃ T : List Nat, T.length = N.toNat ∧ (∀ s ∈ T, s < 2 ^ (K.toNat + 1)) ∧ (∀ a, a < N.toNat → Ev (fun k => Zq.f k K N st rs (a : Int)) ((T.getD a 0 : Nat) : Int)) ∧
      Ev (fun k => Zs.f k K N st rs (F.map fun n : Nat => (n : Int)) ((voidG K N rs : Nat) : Int)) (T.map fun n : Nat => (n : Int)) := by
  have hN0 := G.N0; have hN1 := G.N1; have hK0 := G.K0; have hK1 := G.K1; have s0 := G.s0; have s1 := G.s1
  obtain ⟨T, t1, t2, t3, t4⟩ := follows_loop K N st rs G (voidG K N rs) (comesG K N st rs) (void_lt K N st rs G) (lt32C K N st rs G (comes_lt K N st rs G)) (firstR K N (voidG K N rs) rs) (firstR_lt K N (voidG K N rs) rs) (fun e he a b => comes_closed K N st rs G he a b) F f1 f2 f3 (comes_start K N st rs G)
  refine ⟨T, t1, t2, ?_, ?_⟩
  · intro a ha
    have := t3 a ha
    exact rfollow_ev K N st rs G a _ ha (getD_lt t2 (Nat.two_pow_pos _) a) this.1 this.2
  · unfold Zs.f Ze1.f
    have h1 := gcheck_ev K N st rs
    rw [hg] at h1
    refine Ev.bind (a := (((comesG K N st rs : Nat) : Int), (0 : Int))) (Ev.bind h1 ?_) ?_
    · simp only [if_true, if_pos s0]
      exact comes_ev K N st rs G
    · simp only [Option.bind_some, List.length_replicate]
      exact Ev.pos (by omega) (Ev.pos (by omega) (Ev.pos (by omega) (Ev.pos s0 (Ev.pos (by omega) t4))))
theorem range_cons {n : Nat} {i : Int} (h0 : 0 ≤ i) (h1 : i < ((List.range n).length : Nat)) : (List.range n).drop i.toNat = i.toNat :: (List.range n).drop (i + 1).toNat := by
  have h : i.toNat < (List.range n).length := by omega
  rw [List.drop_eq_getElem_cons h, List.getElem_range]; congr 2; omega
def lkR (K N : Int) (rs : List S38) (T : List Nat) (r : S38) : Nat := firstR K N (voidG K N rs) rs r.f1 ||| (if allV K (voidG K N rs) r.f1 = true then T.getD r.f0.toNat 0 else 0)
def badL (rs : List S38) (lk : S38 → Nat) (i j : Nat) : Bool := decide ((Zb rs (j : Int)).f0 = (Zb rs (i : Int)).f0) && !(decide (lk (Zb rs (i : Int)) &&& lk (Zb rs (j : Int)) = 0))
def badR (rs : List S38) (lk : S38 → Nat) (i : Nat) : Bool := (List.range i).any (badL rs lk i)
def clearR (rs : List S38) (lk : S38 → Nat) : Bool := if (List.range rs.length).any (badR rs lk) = true then false else true
theorem and0 (a b : Nat) (ha : a < 2 ^ 32) (hb : b < 2 ^ 32) : (Go.bits .and .u32 (a : Int) (b : Int) = 0) ↔ a &&& b = 0 := by
  rw [u32_and a b ha hb]
  constructor
  · intro h; omega
  · intro h; rw [h]; rfl
section
variable (K N st : Int) (rs : List S38) (G : GOK K N st rs)
include G
theorem distinct_ev (lk : S38 → Nat) (hlk : ∀ r, lk r < 2 ^ 32) : Ev (fun k => Zn1.f k K N st rs ((rs.map lk).map fun n : Nat => (n : Int))) (clearR rs lk) := by
  have hlen := G.len
  have hrd : ∀ i : Int, 0 ≤ i → i < rs.length → rd ((rs.map lk).map fun n : Nat => (n : Int)) i = ((lk (Zb rs i) : Nat) : Int) := by
    intro i h0 h1
    have hi : i.toNat < rs.length := by omega
    rw [rdF]
    simp [List.getD_eq_getElem?_getD, Zb, List.getElem?_eq_getElem hi]
  have hll : (((rs.map lk).map fun n : Nat => (n : Int)).length : Nat) = rs.length := by simp
  unfold Zn1.f clearR
  generalize (rs.map lk).map (fun n : Nat => (n : Int)) = Lk at hrd hll
  have hN : (((List.range rs.length).length : Nat) : Int) = (rs.length : Nat) := by rw [List.length_range]
  refine Ev.firstBad (L := fun k i => Zn1.l0 k Lk rs (rs.length : Int) i K N st rs) (rdf := fun i => i.toNat) (l := List.range rs.length) (fun i h0 h1 => range_cons h0 h1) ?_ ?_ ?_
  · intro _
    rw [hN]
    refine Ev.step (fun k => Zn1.l0.eq_2 _ _ _ _ _ _ _ _ k) ?_
    exact Ev.neg (by omega) (Ev.now _)
  · intro i h0 h1 hb
    rw [hN] at h1
    obtain ⟨i, rfl⟩ := Int.eq_ofNat_of_zero_le h0
    rw [Int.toNat_natCast] at hb
    unfold badR at hb
    refine Ev.step (fun k => Zn1.l0.eq_2 _ _ _ _ _ _ _ _ k) ?_
    refine Ev.pos (by omega) (Ev.pos (by omega) (Ev.pos (by omega) ?_))
    have hM : (((List.range i).length : Nat) : Int) = (i : Nat) := by rw [List.length_range]
    have := Ev.firstBad (L := fun k j => Zn1.l1 k Lk (i : Int) rs (rs.length : Int) (i : Int) (i : Int) j K N st rs (Zb rs (i : Int)).f0 (Zb rs (i : Int)).f1) (rdf := fun j => j.toNat) (l := List.range i) (bad := badL rs lk i) (c := false) (fin := false) (fun i h0 h1 => range_cons h0 h1) (fun q => by rw [hb] at q; cases q) ?_ ?_
    · rw [hb] at this; exact this
    · intro j h2 h3 hq
      rw [hM] at h3
      unfold badL at hq
      rw [Int.toNat_of_nonneg h2] at hq
      simp only [Bool.and_eq_true, decide_eq_true_eq, Bool.not_eq_true', decide_eq_false_iff_not] at hq
      refine Ev.step (fun k => Zn1.l1.eq_2 _ _ _ _ _ _ _ _ _ _ _ _ _ k) ?_
      refine Ev.pos h3 (Ev.pos h2 (Ev.pos (by omega) (Ev.pos hq.1 (Ev.pos h0 (Ev.pos (by omega) (Ev.pos (by omega) ?_))))))
      rw [hrd _ h0 (by omega), hrd _ h2 (by omega)]
      exact Ev.neg (fun z => hq.2 ((and0 _ _ (hlk _) (hlk _)).1 z)) (Ev.now _)
    · intro j r h2 h3 hq hr
      rw [hM] at h3
      unfold badL at hq
      rw [Int.toNat_of_nonneg h2] at hq
      refine Ev.step (fun k => Zn1.l1.eq_2 _ _ _ _ _ _ _ _ _ _ _ _ _ k) ?_
      rw [w64 (show -9223372036854775808 ≤ j + 1 by omega) (by omega)]
      refine Ev.pos h3 (Ev.pos h2 (Ev.pos (by omega) ?_))
      by_cases c : (Zb rs j).f0 = (Zb rs (i : Int)).f0
      · rw [decide_eq_true c] at hq
        simp only [Bool.true_and, Bool.not_eq_false', decide_eq_true_eq] at hq
        refine Ev.pos c (Ev.pos h0 (Ev.pos (by omega) (Ev.pos (by omega) ?_)))
        rw [hrd _ h0 (by omega), hrd _ h2 (by omega)]
        exact Ev.pos ((and0 _ _ (hlk _) (hlk _)).2 hq) hr
      · exact Ev.neg c hr
  · intro i R h0 h1 hb hR
    rw [hN] at h1
    obtain ⟨i, rfl⟩ := Int.eq_ofNat_of_zero_le h0
    rw [Int.toNat_natCast] at hb
    unfold badR at hb
    refine Ev.step (fun k => Zn1.l0.eq_2 _ _ _ _ _ _ _ _ k) ?_
    refine Ev.pos (by omega) (Ev.pos (by omega) (Ev.pos (by omega) ?_))
    have hM : (((List.range i).length : Nat) : Int) = (i : Nat) := by rw [List.length_range]
    have := Ev.firstBad (L := fun k j => Zn1.l1 k Lk (i : Int) rs (rs.length : Int) (i : Int) (i : Int) j K N st rs (Zb rs (i : Int)).f0 (Zb rs (i : Int)).f1) (rdf := fun j => j.toNat) (l := List.range i) (bad := badL rs lk i) (c := R) (fin := R) (fun i h0 h1 => range_cons h0 h1) ?_ ?_ ?_
    · rw [ite_self] at this; exact this
    · intro _
      rw [hM]
      refine Ev.step (fun k => Zn1.l1.eq_2 _ _ _ _ _ _ _ _ _ _ _ _ _ k) ?_
      rw [w64 (show -9223372036854775808 ≤ (i : Int) + 1 by omega) (by omega)]
      exact Ev.neg (by omega) hR
    · intro j h2 h3 hq
      rw [hM] at h3
      have := List.any_eq_false.1 hb j.toNat (List.mem_range.2 (by omega))
      exact absurd hq this
    · intro j r h2 h3 hq hr
      rw [hM] at h3
      unfold badL at hq
      rw [Int.toNat_of_nonneg h2] at hq
      refine Ev.step (fun k => Zn1.l1.eq_2 _ _ _ _ _ _ _ _ _ _ _ _ _ k) ?_
      rw [w64 (show -9223372036854775808 ≤ j + 1 by omega) (by omega)]
      refine Ev.pos h3 (Ev.pos h2 (Ev.pos (by omega) ?_))
      by_cases c : (Zb rs j).f0 = (Zb rs (i : Int)).f0
      · rw [decide_eq_true c] at hq
        simp only [Bool.true_and, Bool.not_eq_false', decide_eq_true_eq] at hq
        refine Ev.pos c (Ev.pos h0 (Ev.pos (by omega) (Ev.pos (by omega) ?_)))
        rw [hrd _ h0 (by omega), hrd _ h2 (by omega)]
        exact Ev.pos ((and0 _ _ (hlk _) (hlk _)).2 hq) hr
      · exact Ev.neg c hr
theorem clear_ev (lk : S38 → Nat) (hlk : ∀ r, lk r < 2 ^ 32) (hev : ∀ r ∈ rs, Ev (fun k => Zu1.f k K N st rs r.f0 r.f1) ((lk r : Nat) : Int)) : Ev (fun k => Zf1.f k K N st rs) (clearR rs lk) := by
  have hlen := G.len
  have hN : (((List.range rs.length).length : Nat) : Int) = (rs.length : Nat) := by rw [List.length_range]
  unfold Zf1.f clearR
  refine Ev.firstBad (L := fun k i => Zf1.l0 k i K N st rs) (rdf := fun i => i.toNat) (l := List.range rs.length) (fun i h0 h1 => range_cons h0 h1) ?_ ?_ ?_
  · intro _
    rw [hN]
    refine Ev.step (fun k => Zf1.l0.eq_2 _ _ _ _ _ k) ?_
    exact Ev.neg (by omega) (Ev.now _)
  · intro i h0 h1 hb
    rw [hN] at h1
    obtain ⟨i, rfl⟩ := Int.eq_ofNat_of_zero_le h0
    rw [Int.toNat_natCast] at hb
    unfold badR at hb
    refine Ev.step (fun k => Zf1.l0.eq_2 _ _ _ _ _ k) ?_
    refine Ev.pos (by omega) ?_
    have hM : (((List.range i).length : Nat) : Int) = (i : Nat) := by rw [List.length_range]
    have := Ev.firstBad (L := fun k j => Zf1.l1 k (i : Int) j K N st rs) (rdf := fun j => j.toNat) (l := List.range i) (bad := badL rs lk i) (c := false) (fin := false) (fun i h0 h1 => range_cons h0 h1) (fun q => by rw [hb] at q; cases q) ?_ ?_
    · rw [hb] at this; exact this
    · intro j h2 h3 hq
      rw [hM] at h3
      unfold badL at hq
      rw [Int.toNat_of_nonneg h2] at hq
      simp only [Bool.and_eq_true, decide_eq_true_eq, Bool.not_eq_true', decide_eq_false_iff_not] at hq
      refine Ev.step (fun k => Zf1.l1.eq_2 _ _ _ _ _ _ k) ?_
      refine Ev.pos h3 (Ev.pos h0 (Ev.pos (by omega) (Ev.pos h2 (Ev.pos (by omega) (Ev.pos hq.1.symm ?_)))))
      refine Ev.bind (hev _ (rule_mem h0 (by omega))) (Ev.bind (hev _ (rule_mem h2 (by omega))) ?_)
      exact Ev.neg (fun z => hq.2 ((and0 _ _ (hlk _) (hlk _)).1 z)) (Ev.now _)
    · intro j r h2 h3 hq hr
      rw [hM] at h3
      unfold badL at hq
      rw [Int.toNat_of_nonneg h2] at hq
      refine Ev.step (fun k => Zf1.l1.eq_2 _ _ _ _ _ _ k) ?_
      rw [w64 (show -9223372036854775808 ≤ j + 1 by omega) (by omega)]
      refine Ev.pos h3 (Ev.pos h0 (Ev.pos (by omega) (Ev.pos h2 (Ev.pos (by omega) ?_))))
      by_cases c : (Zb rs j).f0 = (Zb rs (i : Int)).f0
      · rw [decide_eq_true c] at hq
        simp only [Bool.true_and, Bool.not_eq_false', decide_eq_true_eq] at hq
        refine Ev.pos c.symm ?_
        refine Ev.bind (hev _ (rule_mem h0 (by omega))) (Ev.bind (hev _ (rule_mem h2 (by omega))) ?_)
        exact Ev.pos ((and0 _ _ (hlk _) (hlk _)).2 hq) hr
      · exact Ev.neg (fun z => c z.symm) hr
  · intro i R h0 h1 hb hR
    rw [hN] at h1
    obtain ⟨i, rfl⟩ := Int.eq_ofNat_of_zero_le h0
    rw [Int.toNat_natCast] at hb
    unfold badR at hb
    refine Ev.step (fun k => Zf1.l0.eq_2 _ _ _ _ _ k) ?_
    refine Ev.pos (by omega) ?_
    have hM : (((List.range i).length : Nat) : Int) = (i : Nat) := by rw [List.length_range]
    have := Ev.firstBad (L := fun k j => Zf1.l1 k (i : Int) j K N st rs) (rdf := fun j => j.toNat) (l := List.range i) (bad := badL rs lk i) (c := R) (fin := R) (fun i h0 h1 => range_cons h0 h1) ?_ ?_ ?_
    · rw [ite_self] at this; exact this
    · intro _
      rw [hM]
      refine Ev.step (fun k => Zf1.l1.eq_2 _ _ _ _ _ _ k) ?_
      rw [w64 (show -9223372036854775808 ≤ (i : Int) + 1 by omega) (by omega)]
      exact Ev.neg (by omega) hR
    · intro j h2 h3 hq
      rw [hM] at h3
      have := List.any_eq_false.1 hb j.toNat (List.mem_range.2 (by omega))
      exact absurd hq this
    · intro j r h2 h3 hq hr
      rw [hM] at h3
      unfold badL at hq
      rw [Int.toNat_of_nonneg h2] at hq
      refine Ev.step (fun k => Zf1.l1.eq_2 _ _ _ _ _ _ k) ?_
      rw [w64 (show -9223372036854775808 ≤ j + 1 by omega) (by omega)]
      refine Ev.pos h3 (Ev.pos h0 (Ev.pos (by omega) (Ev.pos h2 (Ev.pos (by omega) ?_))))
      by_cases c : (Zb rs j).f0 = (Zb rs (i : Int)).f0
      · rw [decide_eq_true c] at hq
        simp only [Bool.true_and, Bool.not_eq_false', decide_eq_true_eq] at hq
        refine Ev.pos c.symm ?_
        refine Ev.bind (hev _ (rule_mem h0 (by omega))) (Ev.bind (hev _ (rule_mem h2 (by omega))) ?_)
        exact Ev.pos ((and0 _ _ (hlk _) (hlk _)).2 hq) hr
      · exact Ev.neg (fun z => c z.symm) hr
end
theorem take_rule {l : List S38} {i : Int} (h0 : 0 ≤ i) (h1 : i < l.length) : l.take (i + 1).toNat = l.take i.toNat ++ [Zb l i] := by
  have h : i.toNat < l.length := by omega
  have e : Zb l i = l[i.toNat] := by simp [Zb, List.getD_eq_getElem?_getD, List.getElem?_eq_getElem h]
  rw [e, show (i + 1).toNat = i.toNat + 1 by omega, List.take_succ_eq_append_getElem h]
theorem AheadClears : Zv1.Pure := by
  unfold Zv1.Pure
  intro K N st rs _ _ _ _
  apply Ev.rounds
  unfold Zv1.f ahead_Clear.f
  by_cases h : gcode K N st rs = 0
  · have G := gcode_ok h
    have h1 := gcheck_ev K N st rs
    have h2 := rcheck_ev K N st rs
    rw [h] at h1 h2
    have hN0 := G.N0; have hN1 := G.N1; have hK0 := G.K0; have hK1 := G.K1; have hlen := G.len
    have h32 : 2 ^ (K.toNat + 1) ≤ 2 ^ 31 := Nat.pow_le_pow_right (by omega) (by omega)
    obtain ⟨F, f1, f2, f3, f4⟩ := firsts_ev K N st rs G (voidG K N rs) (void_lt K N st rs G)
    obtain ⟨T, t1, t2, t3, t4⟩ := follows_ev K N st rs G h F f1 f2 f3
    have hfr1 : ∀ l, firstR K N (voidG K N rs) rs l < 2 ^ (K.toNat + 1) := fun l => Nat.lt_of_lt_of_le (firstR_lt K N (voidG K N rs) rs l) (Nat.pow_le_pow_right (by omega) (by omega))
    have hlk1 : ∀ r, lkR K N rs T r < 2 ^ (K.toNat + 1) := by
      intro r
      unfold lkR
      refine Nat.or_lt_two_pow (hfr1 _) ?_
      split
      · exact getD_lt t2 (Nat.two_pow_pos _) _
      · exact Nat.two_pow_pos _
    have hlk : ∀ r, lkR K N rs T r < 2 ^ 32 := fun r => by have := hlk1 r; omega
    have hd := distinct_ev K N st rs G (lkR K N rs T) hlk
    have looks : Ev (fun k => Zq1.f k K N st rs) ((rs.map (lkR K N rs T)).map fun n : Nat => (n : Int)) := by
      unfold Zq1.f
      refine Ev.bind (least_ev K N st rs G false) (Ev.bind f4 (Ev.bind t4 ?_))
      refine Ev.loop (L := fun k i (o : List Int) => Zq1.l0 k ((voidG K N rs : Nat) : Int) (F.map fun n : Nat => (n : Int)) (T.map fun n : Nat => (n : Int)) o rs (rs.length : Int) i K N st rs) (n := rs.length) (fun i o => o = ((rs.take i.toNat).map (lkR K N rs T)).map fun n : Nat => (n : Int)) ?_ ?_ 0 [] (Int.le_refl _) (by omega) rfl
      · intro o ho
        rw [Int.toNat_natCast, List.take_length] at ho
        refine Ev.step (fun k => Zq1.l0.eq_2 _ _ _ _ _ _ _ _ _ _ _ k) ?_
        refine Ev.neg (by omega) ?_
        rw [ho]; exact Ev.now _
      · intro i o i0 i1 ho
        right
        have hm := rule_mem i0 i1
        refine ⟨_, rfl, ?_⟩
        intro hk
        have hol : o.length ≤ 10 := by rw [ho]; simp only [List.length_map, List.length_take]; omega
        rw [take_rule i0 i1, List.map_append, List.map_append, ← ho] at hk
        obtain ⟨r, hr⟩ : ∃ r, Zb rs i = r := ⟨_, rfl⟩
        rw [hr] at hm hk
        have hrl := G.rl r hm; have r0 := G.r0 r hm; have r1 := G.r1 r hm
        have hx : ∀ x ∈ r.f1, 0 ≤ x ∧ x < K + N := fun x hx => ⟨G.x0 r hm x hx, G.x1 r hm x hx⟩
        have hev := begin_ev K N st rs G (voidG K N rs) (void_lt K N st rs G) F f1 f2 r.f1 hx (by omega)
        rw [f3 _ hx] at hev
        refine Ev.step (fun k => Zq1.l0.eq_2 _ _ _ _ _ _ _ _ _ _ _ k) ?_
        rw [hr, w64 (show -9223372036854775808 ≤ i + 1 by omega) (by omega)]
        refine Ev.pos i1 (Ev.pos i0 (Ev.pos i1 ?_))
        refine Ev.bind hev ?_
        have hf := hfr1 r.f1
        have ht := getD_lt t2 (Nat.two_pow_pos _) r.f0.toNat
        by_cases c : allV K (voidG K N rs) r.f1 = true
        · have e : lkR K N rs T r = firstR K N (voidG K N rs) rs r.f1 ||| T.getD r.f0.toNat 0 := by unfold lkR; rw [if_pos c]
          refine Ev.pos c (Ev.pos r0 (Ev.pos (by rw [List.length_map]; omega) (Ev.pos (by omega) ?_)))
          simp only [rdF]
          rw [u32_or _ _ (by omega) (by omega), ← e]; exact hk
        · have e : lkR K N rs T r = firstR K N (voidG K N rs) rs r.f1 := by unfold lkR; rw [if_neg c, Nat.or_zero]
          rw [List.map_cons, List.map_nil, e] at hk
          exact Ev.neg c (Ev.pos (by omega) hk)
    have refl : ∀ r ∈ rs, Ev (fun k => Zu1.f k K N st rs r.f0 r.f1) ((lkR K N rs T r : Nat) : Int) := by
      intro r hm
      have hrl := G.rl r hm; have r0 := G.r0 r hm; have r1 := G.r1 r hm
      have hx : ∀ x ∈ r.f1, 0 ≤ x ∧ x < K + N := fun x hx => ⟨G.x0 r hm x hx, G.x1 r hm x hx⟩
      unfold Zu1.f
      refine Ev.bind (rfirsts_ev K N st rs G r.f1 hx (by omega)) (Ev.bind (gone_ev K N st rs G r.f1 hx (by omega)) ?_)
      have hf := hfr1 r.f1
      have ht := getD_lt t2 (Nat.two_pow_pos _) r.f0.toNat
      by_cases c : allV K (voidG K N rs) r.f1 = true
      · have e : lkR K N rs T r = firstR K N (voidG K N rs) rs r.f1 ||| T.getD r.f0.toNat 0 := by unfold lkR; rw [if_pos c]
        have := t3 r.f0.toNat (by omega)
        rw [Int.toNat_of_nonneg r0] at this
        refine Ev.pos c (Ev.bind this ?_)
        rw [u32_or _ _ (by omega) (by omega), ← e]; exact Ev.now _
      · have e : lkR K N rs T r = firstR K N (voidG K N rs) rs r.f1 := by unfold lkR; rw [if_neg c, Nat.or_zero]
        rw [e]
        exact Ev.neg c (Ev.now _)
    have hc := clear_ev K N st rs G (lkR K N rs T) hlk refl
    refine Ev.bind (Ev.bind h1 (a := 0) (r := (clearR rs (lkR K N rs T), (0 : Int))) ?_) ?_
    · simp only [if_true]
      exact Ev.bind looks (Ev.bind hd (Ev.now _))
    refine Ev.bind h2 ?_
    simp only [if_true]
    refine Ev.bind hc ?_
    simp only [beq_self_eq_true]; exact Ev.now _
  · refine Ev.bind (Ev.bind (gcheck_ev K N st rs) (r := (false, gcode K N st rs)) ?_) ?_
    · simp only [if_neg h]; exact Ev.now _
    refine Ev.bind (rcheck_ev K N st rs) ?_
    simp only [if_neg h, if_true]; exact Ev.now _
end Go.Proofs.Ytnjfcbhbebokeaa.Pure
