/- The law KindsStills as a statement over numbers and lists alone: it holds under the bounds that the statement names. -/
import Derived.Test.YtofdaiknpficfaaQStatKindsStills
set_option linter.unusedVariables false
set_option linter.unusedSimpArgs false
set_option linter.unusedSectionVars false
namespace Go.Proofs.Ytofdaiknpficfaa.Pure
open Go.RowKit Go.Proofs.Ytofdaiknpficfaa.PKindsStills Go.Proofs.YtofdaiknpficfaaW.PrintWords Go.Proofs.YtofdaiknpficfaaW.PrintLast Go.Proofs.YtofdaiknpficfaaW.PrintMore
theorem w64 {x : Int} (h0 : -9223372036854775808 ≤ x) (h1 : x ≤ 9223372036854775807) : wrap64 x = x := by unfold wrap64; omega
theorem Ev.pos {α : Type} {c : Prop} [Decidable c] {g f : Nat → Option α} {r : α} (h : c) (e : Ev g r) : Ev (fun k => if c then g k else f k) r := Ev.congr (fun k => by rw [if_pos h]) e
theorem Ev.neg {α : Type} {c : Prop} [Decidable c] {g f : Nat → Option α} {r : α} (h : ¬ c) (e : Ev f r) : Ev (fun k => if c then g k else f k) r := Ev.congr (fun k => by rw [if_neg h]) e
theorem Ev.val {α : Type} {r q : α} (h : r = q) : Ev (fun _ => some r) q := by subst h; exact Ev.now r
theorem rd_getElem {l : List Int} {i : Int} (h1 : i.toNat < l.length) : rd l i = l[i.toNat] := by simp [rd, List.getD_eq_getElem?_getD, List.getElem?_eq_getElem h1]
theorem drop_rd {l : List Int} {i : Int} (h0 : 0 ≤ i) (h1 : i < l.length) : l.drop i.toNat = rd l i :: l.drop (i + 1).toNat := by
  have h : i.toNat < l.length := by omega
  rw [rd_getElem h, List.drop_eq_getElem_cons h]; congr 2; omega
theorem drop_all {α : Type} (l : List α) (n : Nat) (h : l.length ≤ n) : l.drop n = [] := List.drop_eq_nil_of_le h
theorem Ev.no {p : Prop} [Decidable p] (h : ¬ p) : Ev (fun _ => some false) (decide p) := Ev.val (decide_eq_false h).symm
theorem Ev.yes {p : Prop} [Decidable p] (h : p) : Ev (fun _ => some true) (decide p) := Ev.val (decide_eq_true h).symm
theorem ext_rd {a b : List Int} (hl : a.length = b.length) (h : ∀ i : Int, 0 ≤ i → i < a.length → rd a i = rd b i) : a = b := by
  apply List.ext_getElem hl
  intro i h1 h2
  have := h i (by omega) (by omega)
  rwa [rd_getElem (by simpa using h1), rd_getElem (by simpa using h2)] at this
theorem wf_u32 {x : Int} (h : (Lit.int .u32 x).wf = true) : 0 ≤ x ∧ x ≤ 4294967295 := by simpa [Lit.wf, IntKind.min, IntKind.max, IntKind.signed, IntKind.bits] using h
theorem rd_mem {l : List Int} {i : Int} (h0 : 0 ≤ i) (h1 : i < l.length) : rd l i ∈ l := by
  rw [rd_getElem (by omega)]; exact List.getElem_mem _
theorem rd_set_eq (l : List Int) (i : Int) (v : Int) (h0 : 0 ≤ i) (h1 : i < l.length) : rd (l.set i.toNat v) i = v := by
  simp [rd, List.getD_eq_getElem?_getD, List.getElem?_set, show i.toNat < l.length by omega]
theorem rd_set_ne (l : List Int) (i j : Int) (v : Int) (h0 : 0 ≤ i) (hj : 0 ≤ j) (h : j ≠ i) : rd (l.set i.toNat v) j = rd l j := by
  simp only [rd, List.getD_eq_getElem?_getD]
  rw [List.getElem?_set_ne (by omega)]
theorem rd_append_left (l m : List Int) (j : Int) (h0 : 0 ≤ j) (h1 : j < l.length) : rd (l ++ m) j = rd l j := by
  simp only [rd, List.getD_eq_getElem?_getD]
  rw [List.getElem?_append_left (by omega)]
theorem rd_append_last (l : List Int) (v : Int) (j : Int) (h : j = l.length) : rd (l ++ [v]) j = v := by
  subst h
  simp [rd, List.getD_eq_getElem?_getD]
theorem u32_id {x : Int} (h0 : 0 ≤ x) (h1 : x ≤ 4294967295) : IntKind.u32.wrap x = x := by rw [IntKind.wrap_u32]; omega
theorem u64_id {x : Int} (h0 : 0 ≤ x) (h1 : x ≤ 18446744073709551615) : IntKind.u64.wrap x = x := by simp [IntKind.wrap, IntKind.bits, IntKind.signed]; omega
theorem u32_or (a b : Nat) (ha : a < 2 ^ 32) (hb : b < 2 ^ 32) : Go.bits .or .u32 a b = ((a ||| b : Nat) : Int) :=
  (bits_nat .u32 32 (by decide) (fun n h0 h1 => u32_id h0 (by omega)) a b ha hb).2
theorem u32_and (a b : Nat) (ha : a < 2 ^ 32) (hb : b < 2 ^ 32) : Go.bits .and .u32 a b = ((a &&& b : Nat) : Int) :=
  (bits_nat .u32 32 (by decide) (fun n h0 h1 => u32_id h0 (by omega)) a b ha hb).1
theorem shl1 (n : Nat) (h : n < 32) : shl .u32 1 (n : Int) = ((2 ^ n : Nat) : Int) := by
  unfold shl
  have e : min ((n : Int)).toNat IntKind.u32.bits = n := by simp [IntKind.bits]; omega
  have h2 : 2 ^ n ≤ 2 ^ 31 := Nat.pow_le_pow_right (by omega) (by omega)
  rw [e, Int.one_mul, u32_id (by exact_mod_cast Nat.zero_le _) (by have : ((2 ^ n : Nat) : Int) ≤ 2 ^ 31 := by exact_mod_cast h2
                                                                   have e2 : ((2 : Int) ^ n) = ((2 ^ n : Nat) : Int) := by simp
                                                                   omega)]
  simp
theorem shrn (a n : Nat) (h : n < 32) : shr .u32 (a : Int) (n : Int) = ((a / 2 ^ n : Nat) : Int) := by
  unfold shr
  have e : min ((n : Int)).toNat IntKind.u32.bits = n := by simp [IntKind.bits]; omega
  rw [e]; simp
theorem bit_shr (a i : Nat) (ha : a < 2 ^ 32) (hi : i < 32) : (Go.bits .and .u32 (shr .u32 (a : Int) (i : Int)) 1 = 1) ↔ a.testBit i = true := by
  rw [shrn a i hi]
  have h1 : a / 2 ^ i < 2 ^ 32 := Nat.lt_of_le_of_lt (Nat.div_le_self _ _) ha
  have h2 := u32_and (a / 2 ^ i) 1 h1 (by decide)
  have h3 : ((1 : Nat) : Int) = 1 := rfl
  rw [h3] at h2
  rw [h2, Nat.and_one_is_mod, Nat.testBit_eq_decide_div_mod_eq]
  simp only [decide_eq_true_eq]; omega
theorem bit_and (a i : Nat) (ha : a < 2 ^ 32) (hi : i < 32) : (Go.bits .and .u32 (a : Int) (shl .u32 1 (i : Int)) != 0) = a.testBit i := by
  have h0 : 2 ^ i < 2 ^ 32 := Nat.pow_lt_pow_right (by omega) hi
  rw [shl1 i hi, u32_and a (2 ^ i) ha h0]
  cases h : a.testBit i with
  | true =>
    have : a &&& 2 ^ i ≠ 0 := fun e => by
      have q := congrArg (fun x => Nat.testBit x i) e
      simp [Nat.testBit_and, Nat.testBit_two_pow_self, h] at q
    simp; omega
  | false =>
    have : a &&& 2 ^ i = 0 := by
      apply Nat.eq_of_testBit_eq
      intro j
      by_cases e : i = j
      · subst e; simp [Nat.testBit_and, h]
      · simp [Nat.testBit_and, Nat.testBit_two_pow, e]
    rw [this]; rfl
theorem bit_or (a i : Nat) (ha : a < 2 ^ 32) (hi : i < 32) : Go.bits .or .u32 (a : Int) (shl .u32 1 (i : Int)) = ((a ||| 2 ^ i : Nat) : Int) := by
  have h0 : 2 ^ i < 2 ^ 32 := Nat.pow_lt_pow_right (by omega) hi
  rw [shl1 i hi, u32_or a (2 ^ i) ha h0]
theorem drop_rdL {l : List (List Int)} {i : Int} (h0 : 0 ≤ i) (h1 : i < l.length) : l.drop i.toNat = Ze l i :: l.drop (i + 1).toNat := by
  have h : i.toNat < l.length := by omega
  have e : Ze l i = l[i.toNat] := by simp [Ze, List.getD_eq_getElem?_getD, List.getElem?_eq_getElem h]
  rw [e, List.drop_eq_getElem_cons h]; congr 2; omega
theorem rdL_mem {l : List (List Int)} {i : Int} (h0 : 0 ≤ i) (h1 : i < l.length) : Ze l i ∈ l := by
  have h : i.toNat < l.length := by omega
  have e : Ze l i = l[i.toNat] := by simp [Ze, List.getD_eq_getElem?_getD, List.getElem?_eq_getElem h]
  rw [e]; exact List.getElem_mem _
theorem anyO_of {α : Type} {f : α → Option Bool} {p : α → Bool} {l : List α} (h : ∀ x ∈ l, f x = some (p x)) : anyO f l = some (l.any p) := by
  induction l with
  | nil => rfl
  | cons x l ih =>
    unfold anyO
    rw [h x (by simp), Option.bind_some, ih (fun y hy => h y (by simp [hy])), List.any_cons]
    cases p x <;> simp
theorem Ev.loop {σ ρ : Type} {L : Nat → Int → σ → Option ρ} {n : Int} {r : ρ} (I : Int → σ → Prop)
    (hend : ∀ s, I n s → Ev (fun k => L k n s) r)
    (hstep : ∀ i s, 0 ≤ i → i < n → I i s → Ev (fun k => L k i s) r ∨ ∃ s', I (i + 1) s' ∧ (Ev (fun k => L k (i + 1) s') r → Ev (fun k => L k i s) r)) :
    ∀ (i : Int) (s : σ), 0 ≤ i → i ≤ n → I i s → Ev (fun k => L k i s) r := by
  have key : ∀ (d : Nat) (i : Int) (s : σ), 0 ≤ i → i + d = n → I i s → Ev (fun k => L k i s) r := by
    intro d
    induction d with
    | zero => intro i s h0 h1 hI; obtain rfl : i = n := by omega
              exact hend s hI
    | succ d ih =>
      intro i s h0 h1 hI
      rcases hstep i s h0 (by omega) hI with h | ⟨s', h', h⟩
      · exact h
      · exact h (ih (i + 1) s' (by omega) (by omega) h')
  intro i s h0 h1 hI
  exact key (n - i).toNat i s h0 (by omega) hI
theorem Ev.loopc {σ ρ : Type} {L : Nat → Int → σ → Option ρ} {n : Int} {r : ρ} (I : Int → σ → Prop)
    (hend : ∀ s, I n s → Ev (fun k => L k n s) r)
    (hstep : ∀ i s, 0 ≤ i → i < n → I i s → (∀ s', I (i + 1) s' → Ev (fun k => L k (i + 1) s') r) → Ev (fun k => L k i s) r) :
    ∀ (i : Int) (s : σ), 0 ≤ i → i ≤ n → I i s → Ev (fun k => L k i s) r := by
  have key : ∀ (d : Nat) (i : Int) (s : σ), 0 ≤ i → i + d = n → I i s → Ev (fun k => L k i s) r := by
    intro d
    induction d with
    | zero => intro i s h0 h1 hI; obtain rfl : i = n := by omega
              exact hend s hI
    | succ d ih =>
      intro i s h0 h1 hI
      exact hstep i s h0 (by omega) hI (fun s' h' => ih (i + 1) s' (by omega) (by omega) h')
  intro i s h0 h1 hI
  exact key (n - i).toNat i s h0 (by omega) hI
def EvP {α : Type} (g : Nat → Option α) (J : α → Prop) : Prop := ∃ r, J r ∧ Ev g r
theorem EvP.of {α : Type} {g : Nat → Option α} {J : α → Prop} {r : α} (h : J r) (e : Ev g r) : EvP g J := ⟨r, h, e⟩
theorem EvP.now {α : Type} {J : α → Prop} {r : α} (h : J r) : EvP (fun _ => some r) J := ⟨r, h, Ev.now r⟩
theorem EvP.pos {α : Type} {c : Prop} [Decidable c] {g f : Nat → Option α} {J : α → Prop} (h : c) (e : EvP g J) : EvP (fun k => if c then g k else f k) J := let ⟨r, h1, h2⟩ := e; ⟨r, h1, Ev.pos h h2⟩
theorem EvP.neg {α : Type} {c : Prop} [Decidable c] {g f : Nat → Option α} {J : α → Prop} (h : ¬ c) (e : EvP f J) : EvP (fun k => if c then g k else f k) J := let ⟨r, h1, h2⟩ := e; ⟨r, h1, Ev.neg h h2⟩
theorem EvP.step {α : Type} {g f : Nat → Option α} {J : α → Prop} (h : ∀ k, g (k + 1) = f k) (e : EvP f J) : EvP g J := let ⟨r, h1, h2⟩ := e; ⟨r, h1, Ev.step h h2⟩
theorem EvP.congr {α : Type} {g f : Nat → Option α} {J : α → Prop} (h : ∀ k, g k = f k) (e : EvP f J) : EvP g J := let ⟨r, h1, h2⟩ := e; ⟨r, h1, Ev.congr h h2⟩
theorem EvP.bind {α β : Type} {g : Nat → Option α} {f : Nat → α → Option β} {a : α} {J : β → Prop} (h : Ev g a) (e : EvP (fun n => f n a) J) : EvP (fun n => (g n).bind (f n)) J := let ⟨r, h1, h2⟩ := e; ⟨r, h1, Ev.bind h h2⟩
theorem EvP.bindP {α β : Type} {g : Nat → Option α} {f : Nat → α → Option β} {I : α → Prop} {J : β → Prop} (h : EvP g I) (e : ∀ a, I a → EvP (fun n => f n a) J) : EvP (fun n => (g n).bind (f n)) J := let ⟨a, h1, h2⟩ := h; EvP.bind h2 (e a h1)
theorem EvP.ev {α β : Type} {g : Nat → Option α} {f : Nat → α → Option β} {I : α → Prop} {r : β} (h : EvP g I) (e : ∀ a, I a → Ev (fun n => f n a) r) : Ev (fun n => (g n).bind (f n)) r := let ⟨a, h1, h2⟩ := h; Ev.bind h2 (e a h1)
theorem EvP.mono {α : Type} {g : Nat → Option α} {I J : α → Prop} (h : EvP g I) (hi : ∀ a, I a → J a) : EvP g J := let ⟨a, h1, h2⟩ := h; ⟨a, hi a h1, h2⟩
theorem EvP.loop {σ ρ : Type} {L : Nat → Int → σ → Option ρ} {n : Int} {J : ρ → Prop} (I : Int → σ → Prop)
    (hend : ∀ s, I n s → EvP (fun k => L k n s) J)
    (hstep : ∀ i s, 0 ≤ i → i < n → I i s → (∀ s', I (i + 1) s' → EvP (fun k => L k (i + 1) s') J) → EvP (fun k => L k i s) J) :
    ∀ (i : Int) (s : σ), 0 ≤ i → i ≤ n → I i s → EvP (fun k => L k i s) J := by
  have key : ∀ (d : Nat) (i : Int) (s : σ), 0 ≤ i → i + d = n → I i s → EvP (fun k => L k i s) J := by
    intro d
    induction d with
    | zero => intro i s h0 h1 hI; obtain rfl : i = n := by omega
              exact hend s hI
    | succ d ih =>
      intro i s h0 h1 hI
      exact hstep i s h0 (by omega) hI (fun s' h' => ih (i + 1) s' (by omega) (by omega) h')
  intro i s h0 h1 hI
  exact key (n - i).toNat i s h0 (by omega) hI
theorem Ints_l0 (a b : List Int) (hl : a.length = b.length) (hb : (a.length : Int) ≤ 4611686018427387904) (d : Nat) : ∀ i : Int, 0 ≤ i → i + d = a.length → Ev (fun k => Zk1.l0 k a b i) (decide (a.drop i.toNat = b.drop i.toNat)) := by
  induction d with
  | zero =>
    intro i h0 hd
    refine Ev.step (fun k => Zk1.l0.eq_2 _ _ _ k) ?_
    simp (disch := omega) only [if_pos, if_neg]
    exact Ev.val (by rw [List.drop_eq_nil_of_le (by omega), List.drop_eq_nil_of_le (by omega)]; simp)
  | succ d ih =>
    intro i h0 hd
    refine Ev.step (fun k => Zk1.l0.eq_2 _ _ _ k) ?_
    simp (disch := omega) only [if_pos, w64]
    rw [drop_rd h0 (by omega), drop_rd (l := b) h0 (by omega)]
    by_cases h : rd a i = rd b i
    · simp only [if_pos h]
      exact Ev.congr (fun _ => rfl) (by simpa [h] using ih (i + 1) (by omega) (by omega))
    · simp only [if_neg h]
      exact Ev.val (by simp [h])
theorem Ints_ev (a b : List Int) (hb : (a.length : Int) ≤ 4611686018427387904) : Ev (fun k => Zk1.f k a b) (decide (a = b)) := by
  unfold Zk1.f
  by_cases hl : a.length = b.length
  · simp (disch := omega) only [if_pos]
    simpa using Ints_l0 a b hl hb a.length 0 (by omega) (by omega)
  · simp (disch := omega) only [if_neg]
    exact Ev.val (by simp; intro h; exact hl (by rw [h]))
theorem Concat_l1 (l : List (List Int)) (hl : l.length ≤ 4611686018427387904) (R : List Int) (hR : R.length < 17592186044416) (d : Nat) : ∀ (i : Int) (acc : List Int), 0 ≤ i → i + d = l.length → acc ++ (l.drop i.toNat).flatten = R →
    Ev (fun k => Zg1.l1 k acc l (l.length : Int) i) R := by
  induction d with
  | zero =>
    intro i acc h0 hd h
    refine Ev.step (fun k => Zg1.l1.eq_2 _ _ _ _ k) ?_
    simp (disch := omega) only [if_neg]
    rw [List.drop_eq_nil_of_le (by omega)] at h
    exact Ev.val (by simpa using h)
  | succ d ih =>
    intro i acc h0 hd h
    refine Ev.step (fun k => Zg1.l1.eq_2 _ _ _ _ k) ?_
    rw [drop_rdL h0 (by omega), List.flatten_cons, ← List.append_assoc] at h
    have hlen : acc.length + (Ze l i).length ≤ R.length := by
      rw [← h]; simp only [List.length_append]; omega
    simp (disch := omega) only [if_pos, w64]
    exact ih (i + 1) _ (by omega) (by omega) h
theorem Concat_l0 (l : List (List Int)) (hl : l.length ≤ 4611686018427387904) (hR : l.flatten.length < 17592186044416) (d : Nat) : ∀ (i s : Int), 0 ≤ i → i + d = l.length → 0 ≤ s → s + (l.drop i.toNat).flatten.length = l.flatten.length →
    Ev (fun k => Zg1.l0 k l s l (l.length : Int) i) l.flatten := by
  induction d with
  | zero =>
    intro i s h0 hd hs h
    refine Ev.step (fun k => Zg1.l0.eq_2 _ _ _ _ _ k) ?_
    rw [List.drop_eq_nil_of_le (by omega)] at h
    simp only [List.flatten_nil, List.length_nil] at h
    simp (disch := omega) only [if_neg, slices_Grow_Sint_int.f, if_pos, Option.bind_some]
    exact Concat_l1 l hl _ hR l.length 0 [] (by omega) (by omega) (by simp)
  | succ d ih =>
    intro i s h0 hd hs h
    refine Ev.step (fun k => Zg1.l0.eq_2 _ _ _ _ _ k) ?_
    rw [drop_rdL h0 (by omega), List.flatten_cons, List.length_append] at h
    simp (disch := omega) only [if_pos, if_neg, w64]
    exact ih (i + 1) _ (by omega) (by omega) (by omega) (by omega)
theorem Concat_ev (l : List (List Int)) (hl : l.length ≤ 4611686018427387904) (hR : l.flatten.length < 17592186044416) : Ev (fun k => Zg1.f k l) l.flatten := by
  unfold Zg1.f
  exact Concat_l0 l hl hR l.length 0 0 (by omega) (by omega) (by omega) (by simp)
abbrev bad (N x : Int) : Prop := x < 0 ∨ x ≥ N
def machCode (N K : Int) (next : List (List Int)) (st f : Int) : Int :=
  if N < 1 ∨ N > 7 ∨ K < 1 ∨ K > 3 then 1 else if (next.length : Int) ≠ N ∨ (next.any fun l => decide ((l.length : Int) ≠ K)) = true then 3
  else if (next.flatten.any fun x => decide (bad N x)) = true ∨ bad N st then 2 else if f ≥ 2 ^ N.toNat then 4 else 0
theorem flat_len (K : Int) (hK : 0 ≤ K) : ∀ l : List (List Int), (∀ x ∈ l, (x.length : Int) = K) → (l.flatten.length : Int) = l.length * K
  | [], _ => by simp
  | x :: l, h => by
    have := flat_len K hK l (fun y hy => h y (by simp [hy]))
    have hx := h x (by simp)
    rw [List.flatten_cons, List.length_append, List.length_cons]
    push_cast
    rw [this, hx, Int.add_mul]; omega
theorem check_l0 (N K : Int) (next : List (List Int)) (st f : Int) (hN0 : 1 ≤ N) (hN1 : N ≤ 7) (hf0 : 0 ≤ f) (all : List Int) (hl : all.length ≤ 4611686018427387904) (d : Nat) : ∀ i : Int, 0 ≤ i → i + d = all.length →
    Ev (fun k => Zz.l0 k all (all.length : Int) i N K next st f) (if ((all.drop i.toNat).any fun x => decide (bad N x)) = true then 2 else if f ≥ 2 ^ N.toNat then 4 else 0) := by
  induction d with
  | zero =>
    intro i h0 hd
    refine Ev.step (fun k => Zz.l0.eq_2 _ _ _ _ _ _ _ _ k) ?_
    obtain ⟨a, rfl⟩ := Int.eq_ofNat_of_zero_le hf0
    obtain ⟨n, rfl⟩ := Int.eq_ofNat_of_zero_le (show 0 ≤ N by omega)
    have e : ((2 : Int) ^ n) = ((2 ^ n : Nat) : Int) := by simp
    simp (disch := omega) only [if_neg (show ¬ i < (all.length : Int) by omega), if_pos (show 0 ≤ (n : Int) by omega), shrn a n (by omega)]
    rw [List.drop_eq_nil_of_le (by omega), Int.toNat_natCast, e]
    have key : a / 2 ^ n = 0 ↔ a < 2 ^ n := by
      rw [Nat.div_eq_zero_iff]
      have := Nat.two_pow_pos n
      omega
    by_cases q : a < 2 ^ n
    · have q' : ((a / 2 ^ n : Nat) : Int) = 0 := by have := key.2 q; omega
      simp only [if_pos q']; exact Ev.val (by rw [if_neg (by simp), if_neg (by omega)])
    · have q' : ¬ ((a / 2 ^ n : Nat) : Int) = 0 := by have := mt key.1 q; omega
      simp only [if_neg q']; exact Ev.val (by rw [if_neg (by simp), if_pos (by omega)])
  | succ d ih =>
    intro i h0 hd
    refine Ev.step (fun k => Zz.l0.eq_2 _ _ _ _ _ _ _ _ k) ?_
    rw [drop_rd h0 (by omega)]
    simp (disch := omega) only [if_pos (show i < (all.length : Int) by omega), if_pos h0, w64]
    by_cases a : rd all i < 0
    · simp only [if_pos a]; exact Ev.val (by rw [if_pos (by simp [a])])
    · by_cases b : rd all i ≥ N
      · simp only [if_neg a, if_pos b]; exact Ev.val (by rw [if_pos (by simp [b])])
      · simp only [if_neg a, if_neg b]
        have := ih (i + 1) (by omega) (by omega)
        simpa [a, b] using this
theorem mchk1 (N K : Int) (next l : List (List Int)) (st f : Int) : machine_Check_1_any.f l N K next st f = some (l.any fun l => decide ((l.length : Int) ≠ K)) := by
  unfold machine_Check_1_any.f
  exact anyO_of (fun x _ => by unfold machine_Check_1.f; congr 1; by_cases h : (x.length : Int) = K <;> simp [h])
theorem machCheck_ev (N K : Int) (next : List (List Int)) (st f : Int) (hf0 : 0 ≤ f) : Ev (fun k => Zz.f k N K next st f) (machCode N K next st f) := by
  unfold Zz.f
  have wrong : (N < 1 ∨ N > 7 ∨ K < 1 ∨ K > 3) → Ev (fun k => Zz.j0 k true N K next st f) (machCode N K next st f) := by
    intro h
    unfold machCode; rw [if_pos h]
    refine Ev.step (fun k => Zz.j0.eq_2 _ _ _ _ _ _ k) ?_
    simp only [if_true]; exact Ev.now _
  by_cases c1 : N < 1
  · simp only [if_pos c1]; exact wrong (by omega)
  by_cases c2 : N > 7
  · simp only [if_neg c1, if_pos c2]; exact wrong (by omega)
  by_cases c3 : K < 1
  · simp only [if_neg c1, if_neg c2, if_pos c3]; exact wrong (by omega)
  simp only [if_neg c1, if_neg c2, if_neg c3]
  by_cases c4 : K > 3
  · simp only [c4, decide_true]; exact wrong (by omega)
  · simp only [c4, decide_false]
    unfold machCode; rw [if_neg (by omega)]
    refine Ev.step (fun k => Zz.j0.eq_2 _ _ _ _ _ _ k) ?_
    simp only [Bool.false_eq_true, if_false]
    by_cases c5 : (next.length : Int) = N
    · simp only [if_pos c5, mchk1, Option.bind_some]
      refine Ev.step (fun k => Zz.j1.eq_2 _ _ _ _ _ _ k) ?_
      by_cases c6 : (next.any fun l => decide ((l.length : Int) ≠ K)) = true
      · simp only [if_pos c6]; exact Ev.val (by rw [if_pos (.inr c6)])
      · simp only [if_neg c6]
        have hrows : ∀ x ∈ next, (x.length : Int) = K := by
          intro x hx
          simp only [List.any_eq_true, not_exists, not_and, decide_eq_true_eq, Classical.not_not] at c6
          exact c6 x hx
        have hfl := flat_len K (by omega) next hrows
        have h21 : next.flatten.length ≤ 21 := by
          have : (next.length : Int) * K ≤ 7 * 3 := Int.mul_le_mul (by omega) (by omega) (by omega) (by omega)
          omega
        refine Ev.bind (Concat_ev next (by omega) (by omega)) ?_
        have hlim : next.flatten.length + ([st] : List Int).length < 17592186044416 := by simp only [List.length_singleton]; omega
        simp only [Option.bind_some, if_pos hlim]
        have := check_l0 N K next st f (by omega) (by omega) hf0 (next.flatten ++ [st]) (by simp only [List.length_append, List.length_singleton]; omega) (next.flatten ++ [st]).length 0 (by omega) (by omega)
        rw [Int.toNat_zero, List.drop_zero] at this
        refine Ev.congr (fun _ => rfl) ?_
        have e : ((next.flatten ++ [st]).any fun x => decide (bad N x)) = true ↔ ((next.flatten.any fun x => decide (bad N x)) = true ∨ bad N st) := by simp [List.any_append]
        rw [if_neg (fun h => h.elim (fun a => a c5) c6)]
        simp only [e] at this
        exact this
    · simp only [if_neg c5]
      refine Ev.step (fun k => Zz.j1.eq_2 _ _ _ _ _ _ k) ?_
      simp only [if_true]
      exact Ev.val (by rw [if_pos (.inl c5)])
theorem rmach_j4 (N K : Int) (next : List (List Int)) (st f : Int) (hN0 : 1 ≤ N) (hN1 : N ≤ 7) (b : Bool) : Ev (fun k => Zv.j4 k b N K next st f) (if b = true then 2 else if f ≥ 2 ^ N.toNat then 4 else 0) := by
  refine Ev.step (fun k => Zv.j4.eq_2 _ _ _ _ _ _ k) ?_
  cases b with
  | true => simp only [if_true]; exact Ev.now _
  | false =>
    obtain ⟨n, rfl⟩ := Int.eq_ofNat_of_zero_le (show 0 ≤ N by omega)
    have e : ((2 : Int) ^ n) = ((2 ^ n : Nat) : Int) := by simp
    simp (disch := omega) only [Bool.false_eq_true, if_false, u64_id, if_pos (show 0 ≤ (n : Int) by omega), shl1 n (by omega), Int.toNat_natCast, e]
    by_cases q : f ≥ ((2 ^ n : Nat) : Int)
    · simp only [if_pos q]; exact Ev.now _
    · simp only [if_neg q]; exact Ev.now _
theorem rmach_l2 (N K : Int) (next : List (List Int)) (st f : Int) (R : Int) (all : List (List Int)) (n j : Int) (row : List Int) (hl : row.length ≤ 60) (hbad : (row.any fun x => decide (bad N x)) = true → R = 2) (hok : ¬ (row.any fun x => decide (bad N x)) = true → Ev (fun k => Zv.l1 k all n (wrap64 (j + 1)) N K next st f) R) (d : Nat) : ∀ i : Int, 0 ≤ i → i + d = row.length → ((row.any fun x => decide (bad N x)) = true ↔ ((row.drop i.toNat).any fun x => decide (bad N x)) = true) →
    Ev (fun k => Zv.l2 k all n j row (row.length : Int) i N K next st f) R := by
  induction d with
  | zero =>
    intro i h0 hd he
    refine Ev.step (fun k => Zv.l2.eq_2 _ _ _ _ _ _ _ _ _ _ _ k) ?_
    simp (disch := omega) only [if_neg (show ¬ i < (row.length : Int) by omega)]
    rw [drop_all row _ (by omega)] at he
    exact hok (fun h => by simpa using he.1 h)
  | succ d ih =>
    intro i h0 hd he
    refine Ev.step (fun k => Zv.l2.eq_2 _ _ _ _ _ _ _ _ _ _ _ k) ?_
    rw [drop_rd h0 (by omega)] at he
    simp (disch := omega) only [if_pos (show i < (row.length : Int) by omega), if_pos h0, w64]
    by_cases a : rd row i < 0
    · simp only [if_pos a]; exact Ev.val (hbad (he.2 (by simp [a]))).symm
    · by_cases b : rd row i ≥ N
      · simp only [if_neg a, if_pos b]; exact Ev.val (hbad (he.2 (by simp [b]))).symm
      · simp only [if_neg a, if_neg b]
        exact ih (i + 1) (by omega) (by omega) (by rw [he]; simp [a, b])
theorem rmach_l1 (N K : Int) (next : List (List Int)) (st f : Int) (hN0 : 1 ≤ N) (hN1 : N ≤ 7) (all : List (List Int)) (ha : all.length ≤ 60) (hrow : ∀ x ∈ all, x.length ≤ 60) (d : Nat) : ∀ i : Int, 0 ≤ i → i + d = all.length →
    Ev (fun k => Zv.l1 k all (all.length : Int) i N K next st f) (if ((all.drop i.toNat).flatten.any fun x => decide (bad N x)) = true ∨ bad N st then 2 else if f ≥ 2 ^ N.toNat then 4 else 0) := by
  induction d with
  | zero =>
    intro i h0 hd
    refine Ev.step (fun k => Zv.l1.eq_2 _ _ _ _ _ _ _ _ k) ?_
    simp (disch := omega) only [if_neg (show ¬ i < (all.length : Int) by omega)]
    rw [List.drop_eq_nil_of_le (by omega)]
    by_cases a : st < 0
    · simp only [if_pos a]
      have := rmach_j4 N K next st f hN0 hN1 true
      rw [if_pos rfl] at this
      rw [if_pos (.inr (.inl a))]; exact this
    · simp only [if_neg a]
      have := rmach_j4 N K next st f hN0 hN1 (decide (st ≥ N))
      by_cases b : st ≥ N
      · rw [if_pos (decide_eq_true b)] at this
        rw [if_pos (.inr (.inr b))]; exact this
      · rw [if_neg (by simpa using b)] at this
        rw [if_neg (by simp [bad]; omega)]; exact this
  | succ d ih =>
    intro i h0 hd
    refine Ev.step (fun k => Zv.l1.eq_2 _ _ _ _ _ _ _ _ k) ?_
    rw [drop_rdL h0 (by omega), List.flatten_cons]
    simp (disch := omega) only [if_pos (show i < (all.length : Int) by omega), if_pos h0]
    refine rmach_l2 N K next st f _ all _ i _ (hrow _ (rdL_mem h0 (by omega))) ?_ ?_ (Ze all i).length 0 (by omega) (by omega) (by simp)
    · intro h
      rw [if_pos (.inl (by rw [List.any_append, h]; rfl))]
    · intro h
      have h' : ((Ze all i).any fun x => decide (bad N x)) = false := by simpa using h
      rw [List.any_append, h', Bool.false_or, w64 (by omega) (by omega)]
      exact ih (i + 1) (by omega) (by omega)
theorem rmach_l0 (N K : Int) (st f : Int) (hN0 : 1 ≤ N) (hN1 : N ≤ 7) (hK : 1 ≤ K ∧ K ≤ 3) (next : List (List Int)) (hn : next.length ≤ 60) (d : Nat) : ∀ i : Int, 0 ≤ i → i + d = next.length → (∀ x ∈ next, ((x.length : Int) = K ∨ x ∈ next.drop i.toNat)) →
    Ev (fun k => Zv.l0 k next (next.length : Int) i N K next st f) (if ((next.drop i.toNat).any fun l => decide ((l.length : Int) ≠ K)) = true then 3 else if (next.flatten.any fun x => decide (bad N x)) = true ∨ bad N st then 2 else if f ≥ 2 ^ N.toNat then 4 else 0) := by
  induction d with
  | zero =>
    intro i h0 hd hr
    refine Ev.step (fun k => Zv.l0.eq_2 _ _ _ _ _ _ _ _ k) ?_
    simp (disch := omega) only [if_neg (show ¬ i < (next.length : Int) by omega)]
    rw [List.drop_eq_nil_of_le (by omega)] at hr ⊢
    rw [if_neg (by simp)]
    have := rmach_l1 N K next st f hN0 hN1 next hn (fun x hx => by
      rcases hr x hx with q | q
      · omega
      · simp at q) next.length 0 (by omega) (by omega)
    simpa using this
  | succ d ih =>
    intro i h0 hd hr
    refine Ev.step (fun k => Zv.l0.eq_2 _ _ _ _ _ _ _ _ k) ?_
    rw [drop_rdL h0 (by omega)] at hr ⊢
    simp (disch := omega) only [if_pos (show i < (next.length : Int) by omega), if_pos h0, w64]
    by_cases c : ((Ze next i).length : Int) = K
    · simp only [if_pos c]
      have := ih (i + 1) (by omega) (by omega) (fun x hx => by
        rcases hr x hx with q | q
        · exact .inl q
        · rcases List.mem_cons.1 q with q | q
          · rw [q]; exact .inl c
          · exact .inr q)
      rw [List.any_cons, show decide (((Ze next i).length : Int) ≠ K) = false from by simp [c], Bool.false_or]
      exact this
    · simp only [if_neg c]
      exact Ev.val (by rw [if_pos (by simp [c])])
theorem rmach_ev (N K : Int) (next : List (List Int)) (st f : Int) : Ev (fun k => Zv.f k N K next st f) (machCode N K next st f) := by
  unfold Zv.f
  have wrong : (N < 1 ∨ N > 7 ∨ K < 1 ∨ K > 3) → Ev (fun k => Zv.j0 k true N K next st f) (machCode N K next st f) := by
    intro h
    unfold machCode; rw [if_pos h]
    refine Ev.step (fun k => Zv.j0.eq_2 _ _ _ _ _ _ k) ?_
    simp only [if_true]; exact Ev.now _
  by_cases c1 : N < 1
  · simp only [if_pos c1]; exact wrong (by omega)
  by_cases c2 : N > 7
  · simp only [if_neg c1, if_pos c2]; exact wrong (by omega)
  by_cases c3 : K < 1
  · simp only [if_neg c1, if_neg c2, if_pos c3]; exact wrong (by omega)
  simp only [if_neg c1, if_neg c2, if_neg c3]
  by_cases c4 : K > 3
  · simp only [c4, decide_true]; exact wrong (by omega)
  · simp only [c4, decide_false]
    unfold machCode; rw [if_neg (by omega)]
    refine Ev.step (fun k => Zv.j0.eq_2 _ _ _ _ _ _ k) ?_
    simp only [Bool.false_eq_true, if_false]
    by_cases c5 : (next.length : Int) = N
    · simp only [if_pos c5]
      have := rmach_l0 N K st f (by omega) (by omega) ⟨by omega, by omega⟩ next (by omega) next.length 0 (by omega) (by omega) (fun x hx => .inr (by simpa using hx))
      rw [Int.toNat_zero, List.drop_zero] at this
      by_cases c6 : (next.any fun l => decide ((l.length : Int) ≠ K)) = true
      · rw [if_pos c6] at this
        rw [if_pos (.inr c6)]; exact this
      · rw [if_neg c6] at this
        rw [if_neg (fun h => h.elim (fun a => a c5) c6)]; exact this
    · simp only [if_neg c5]
      exact Ev.val (by rw [if_pos (.inl c5)])
def okMach (N K : Int) (next : List (List Int)) : Prop := (next.length : Int) = N ∧ ∀ row ∈ next, (row.length : Int) = K ∧ ∀ x ∈ row, 0 ≤ x ∧ x < N
theorem machCode_0 {N K : Int} {next : List (List Int)} {st f : Int} (h : machCode N K next st f = 0) : 1 ≤ N ∧ N ≤ 7 ∧ 1 ≤ K ∧ K ≤ 3 ∧ okMach N K next ∧ 0 ≤ st ∧ st < N ∧ f < 2 ^ N.toNat := by
  unfold machCode at h
  by_cases c : N < 1 ∨ N > 7 ∨ K < 1 ∨ K > 3
  · rw [if_pos c] at h; omega
  rw [if_neg c] at h
  by_cases c2 : (next.length : Int) ≠ N ∨ (next.any fun l => decide ((l.length : Int) ≠ K)) = true
  · rw [if_pos c2] at h; omega
  rw [if_neg c2] at h
  by_cases c3 : (next.flatten.any fun x => decide (bad N x)) = true ∨ bad N st
  · rw [if_pos c3] at h; omega
  rw [if_neg c3] at h
  by_cases c4 : f ≥ 2 ^ N.toNat
  · rw [if_pos c4] at h; omega
  simp only [not_or, Classical.not_not, List.any_eq_true, not_exists, not_and, decide_eq_true_eq] at c2 c3
  refine ⟨by omega, by omega, by omega, by omega, ⟨c2.1, fun row hr => ⟨c2.2 row hr, fun x hx => ?_⟩⟩, ?_, ?_, by omega⟩
  · have := c3.1 x (List.mem_flatten.2 ⟨row, hr, hx⟩)
    omega
  · have := c3.2; omega
  · have := c3.2; omega
def mto (next : List (List Int)) (s c : Int) : Int := rd (Ze next s) c
def mrun (next : List (List Int)) : Int → List Int → Int
  | s, [] => s
  | s, c :: w => mrun next (mto next s c) w
theorem okMach.row {N K : Int} {next : List (List Int)} (h : okMach N K next) {s : Int} (h0 : 0 ≤ s) (h1 : s < N) : ((Ze next s).length : Int) = K ∧ s < next.length := by
  have hl : s < next.length := by have := h.1; omega
  exact ⟨(h.2 _ (rdL_mem h0 hl)).1, hl⟩
theorem okMach.to {N K : Int} {next : List (List Int)} (h : okMach N K next) {s c : Int} (h0 : 0 ≤ s) (h1 : s < N) (c0 : 0 ≤ c) (c1 : c < K) : 0 ≤ mto next s c ∧ mto next s c < N := by
  have hl : s < next.length := by have := h.1; omega
  have hr := h.2 _ (rdL_mem h0 hl)
  exact hr.2 _ (rd_mem c0 (by omega))
theorem okMach.run {N K : Int} {next : List (List Int)} (h : okMach N K next) : ∀ (w : List Int) (s : Int), 0 ≤ s → s < N → (∀ c ∈ w, 0 ≤ c ∧ c < K) → 0 ≤ mrun next s w ∧ mrun next s w < N
  | [], s, h0, h1, _ => ⟨h0, h1⟩
  | c :: w, s, h0, h1, hw => by
    have hc := hw c (by simp)
    have := h.to h0 h1 hc.1 hc.2
    exact h.run w _ this.1 this.2 (fun x hx => hw x (by simp [hx]))
def cntP (p : Nat → Bool) : Nat → Nat
  | 0 => 0
  | n + 1 => cntP p n + (p n).toNat
theorem cntP_le (p : Nat → Bool) : ∀ n, cntP p n ≤ n
  | 0 => Nat.le_refl _
  | n + 1 => by have := cntP_le p n; unfold cntP; cases p n <;> simp <;> omega
theorem cntP_mono {p q : Nat → Bool} : ∀ n, (∀ i, i < n → p i = true → q i = true) → cntP p n ≤ cntP q n
  | 0, _ => Nat.le_refl _
  | n + 1, h => by
    have := cntP_mono n (fun i hi => h i (by omega))
    have h1 := h n (by omega)
    unfold cntP
    cases e : p n
    · simp; omega
    · rw [h1 e]; simp; omega
theorem cntP_eq {p q : Nat → Bool} : ∀ n, (∀ i, i < n → p i = true → q i = true) → cntP q n ≤ cntP p n → ∀ i, i < n → q i = p i
  | 0, _, _, i, hi => by omega
  | n + 1, h, hc, i, hi => by
    have hm := cntP_mono n (fun i hi => h i (by omega))
    have h1 := h n (by omega)
    unfold cntP at hc
    have hn : q n = p n := by
      cases e : p n
      · cases e2 : q n
        · rfl
        · rw [e, e2] at hc; simp at hc; omega
      · exact h1 e
    rw [hn] at hc
    by_cases e : i = n
    · subst e; exact hn
    · exact cntP_eq n (fun i hi => h i (by omega)) (by omega) i (by omega)
theorem chain_stop (n : Nat) (p : Nat → Nat → Bool) (mono : ∀ d i, i < n → p d i = true → p (d + 1) i = true)
    (stab : ∀ d, (∀ i, i < n → p (d + 1) i = p d i) → ∀ i, i < n → p (d + 2) i = p (d + 1) i) : ∀ i, i < n → p (n + 1) i = p n i := by
  have key : ∀ d, d ≤ cntP (p d) n ∨ ∀ i, i < n → p (d + 1) i = p d i := by
    intro d
    induction d with
    | zero => exact .inl (Nat.zero_le _)
    | succ d ih =>
      rcases ih with ih | ih
      · by_cases h : cntP (p (d + 1)) n ≤ cntP (p d) n
        · exact .inr (stab d (cntP_eq n (mono d) h))
        · exact .inl (by omega)
      · exact .inr (stab d ih)
  rcases key (n + 1) with h | h
  · have := cntP_le (p (n + 1)) n; omega
  · rcases key n with h2 | h2
    · have h3 := cntP_le (p (n + 1)) n
      exact cntP_eq n (mono n) (by omega)
    · exact h2
theorem chain_all (n : Nat) (p : Nat → Nat → Bool) (mono : ∀ d i, i < n → p d i = true → p (d + 1) i = true)
    (stab : ∀ d, (∀ i, i < n → p (d + 1) i = p d i) → ∀ i, i < n → p (d + 2) i = p (d + 1) i) (e : Nat) : ∀ i, i < n → p (n + e) i = p n i := by
  induction e with
  | zero => intro i _; rfl
  | succ e ih =>
    have h : ∀ e, ∀ i, i < n → p (n + e + 1) i = p (n + e) i := by
      intro e
      induction e with
      | zero => exact chain_stop n p mono stab
      | succ e ih2 => exact stab (n + e) ih2
    intro i hi
    rw [← ih i hi]; exact h e i hi
section
variable (K : Int) (next : List (List Int)) (f : Nat)
def Td : Nat → Int → Int → Prop
  | 0, i, j => f.testBit i.toNat ≠ f.testBit j.toNat
  | n + 1, i, j => ∃ c, 0 ≤ c ∧ c < K ∧ Td n (mto next i c) (mto next j c)
theorem Td.symm : ∀ (n : Nat) (i j : Int), Td K next f n i j → Td K next f n j i
  | 0, _, _, h => Ne.symm h
  | n + 1, _, _, ⟨c, h0, h1, h⟩ => ⟨c, h0, h1, Td.symm n _ _ h⟩
theorem Td.mid : ∀ (n : Nat) (i j k : Int), Td K next f n i k → Td K next f n i j ∨ Td K next f n j k
  | 0, i, j, k, h => by
    by_cases e : f.testBit i.toNat = f.testBit j.toNat
    · right; intro q; exact h (e.trans q)
    · exact .inl e
  | n + 1, i, j, k, ⟨c, h0, h1, h⟩ => by
    rcases Td.mid n _ (mto next j c) _ h with q | q
    · exact .inl ⟨c, h0, h1, q⟩
    · exact .inr ⟨c, h0, h1, q⟩
theorem Td.irr : ∀ (n : Nat) (i : Int), ¬ Td K next f n i i
  | 0, _, h => h rfl
  | n + 1, _, ⟨_, _, _, h⟩ => Td.irr n _ h
def Al (r : Nat) (i j : Int) : Prop := ∀ n, n ≤ r → ¬ Td K next f n i j
theorem Al.refl (r : Nat) (i : Int) : Al K next f r i i := fun n _ => Td.irr K next f n i
theorem Al.symm {r : Nat} {i j : Int} (h : Al K next f r i j) : Al K next f r j i := fun n hn q => h n hn (Td.symm K next f n _ _ q)
theorem Al.trans {r : Nat} {i j k : Int} (h : Al K next f r i j) (h2 : Al K next f r j k) : Al K next f r i k := fun n hn q => by
  rcases Td.mid K next f n i j k q with q | q
  · exact h n hn q
  · exact h2 n hn q
theorem Al.zero {i j : Int} : Al K next f 0 i j ↔ f.testBit i.toNat = f.testBit j.toNat := by
  constructor
  · intro h; exact Classical.not_not.1 (h 0 (Nat.le_refl _))
  · intro h n hn q
    obtain rfl : n = 0 := by omega
    exact q h
theorem Al.succ {r : Nat} {i j : Int} : Al K next f (r + 1) i j ↔ Al K next f r i j ∧ ∀ c, 0 ≤ c → c < K → Al K next f r (mto next i c) (mto next j c) := by
  constructor
  · intro h
    exact ⟨fun n hn => h n (by omega), fun c c0 c1 n hn q => h (n + 1) (by omega) ⟨c, c0, c1, q⟩⟩
  · rintro ⟨h, h2⟩ n hn q
    cases n with
    | zero => exact h 0 (Nat.zero_le _) q
    | succ n => obtain ⟨c, c0, c1, q⟩ := q; exact h2 c c0 c1 n (by omega) q
structure Rep (N : Int) (r : Nat) (F : List Int) : Prop where
  len : (F.length : Int) = N
  lo : ∀ i : Int, 0 ≤ i → i < N → 0 ≤ rd F i ∧ rd F i ≤ i
  al : ∀ i : Int, 0 ≤ i → i < N → Al K next f r (rd F i) i
  min : ∀ i j : Int, 0 ≤ i → i < N → 0 ≤ j → j < rd F i → ¬ Al K next f r j i
variable {K next f}
theorem Rep.iff {N : Int} {r : Nat} {F : List Int} (h : Rep K next f N r F) {i j : Int} (i0 : 0 ≤ i) (i1 : i < N) (j0 : 0 ≤ j) (j1 : j < N) : rd F i = rd F j ↔ Al K next f r i j := by
  have a := h.al i i0 i1
  have b := h.al j j0 j1
  constructor
  · intro e
    rw [e] at a
    exact (a.symm).trans K next f b
  · intro e
    have l1 := h.lo i i0 i1
    have l2 := h.lo j j0 j1
    apply Int.le_antisymm
    · apply Int.not_lt.1; intro q
      exact h.min i (rd F j) i0 i1 l2.1 q (b.trans K next f (e.symm))
    · apply Int.not_lt.1; intro q
      exact h.min j (rd F i) j0 j1 l1.1 q (a.trans K next f e)
theorem Rep.uniq {N : Int} {r : Nat} {F G : List Int} (h : Rep K next f N r F) (g : Rep K next f N r G) : F = G := by
  refine ext_rd (by have := h.len; have := g.len; omega) (fun i i0 i1 => ?_)
  have i1 : i < N := by have := h.len; omega
  have l1 := h.lo i i0 i1
  have l2 := g.lo i i0 i1
  apply Int.le_antisymm
  · apply Int.not_lt.1; intro q; exact h.min i _ i0 i1 l2.1 q (g.al i i0 i1)
  · apply Int.not_lt.1; intro q; exact g.min i _ i0 i1 l1.1 q (h.al i i0 i1)
theorem Al.stable {N : Int} {r : Nat} (hm : okMach N K next) (h : ∀ i j : Int, 0 ≤ i → i < N → 0 ≤ j → j < N → Al K next f r i j → Al K next f (r + 1) i j) :
    ∀ (s : Nat) (i j : Int), 0 ≤ i → i < N → 0 ≤ j → j < N → Al K next f r i j → Al K next f (r + s) i j
  | 0, _, _, _, _, _, _, q => q
  | s + 1, i, j, i0, i1, j0, j1, q => by
    refine (Al.succ K next f).2 ⟨Al.stable hm h s i j i0 i1 j0 j1 q, fun c c0 c1 => ?_⟩
    have a := hm.to i0 i1 c0 c1
    have b := hm.to j0 j1 c0 c1
    exact Al.stable hm h s _ _ a.1 a.2 b.1 b.2 (((Al.succ K next f).1 (h i j i0 i1 j0 j1 q)).2 c c0 c1)
theorem Al.le {r s : Nat} {i j : Int} (h : Al K next f s i j) (hrs : r ≤ s) : Al K next f r i j := fun n hn => h n (by omega)
theorem Rep.stays {N : Int} {r : Nat} {F : List Int} (hm : okMach N K next) (h : Rep K next f N r F) (h2 : Rep K next f N (r + 1) F) (s : Nat) : Rep K next f N (r + s) F := by
  have st := Al.stable (f := f) hm (r := r) (fun i j i0 i1 j0 j1 q => (h2.iff i0 i1 j0 j1).1 ((h.iff i0 i1 j0 j1).2 q))
  refine ⟨h.len, h.lo, fun i i0 i1 => ?_, fun i j i0 i1 j0 j1 q => h.min i j i0 i1 j0 j1 (q.le (by omega))⟩
  have l := h.lo i i0 i1
  exact st s _ _ l.1 (by omega) i0 i1 (h.al i i0 i1)
def nfix (F : List Int) : Nat → Nat
  | 0 => 0
  | n + 1 => nfix F n + if rd F n = n then 1 else 0
theorem nfix_le (F : List Int) : ∀ n, nfix F n ≤ n
  | 0 => Nat.le_refl _
  | n + 1 => by
    have := nfix_le F n
    unfold nfix; split <;> omega
theorem nfix_mono {F G : List Int} : ∀ n : Nat, (∀ i : Nat, i < n → rd F i = i → rd G i = i) → nfix F n ≤ nfix G n
  | 0, _ => Nat.le_refl _
  | n + 1, h => by
    have := nfix_mono n (fun i hi => h i (by omega))
    have q := h n (by omega)
    unfold nfix
    by_cases c : rd F n = n
    · rw [if_pos c, if_pos (q c)]; omega
    · rw [if_neg c]; split <;> omega
theorem nfix_lt {F G : List Int} {a : Nat} (ha : rd F a ≠ a) (hb : rd G a = a) : ∀ n : Nat, a < n → (∀ i : Nat, i < n → rd F i = i → rd G i = i) → nfix F n < nfix G n
  | 0, h, _ => by omega
  | n + 1, hn, h => by
    unfold nfix
    by_cases e : a = n
    · subst e
      have := nfix_mono a (fun i hi => h i (by omega))
      rw [if_neg ha, if_pos hb]; omega
    · have := nfix_lt ha hb n (by omega) (fun i hi => h i (by omega))
      have q := h n (by omega)
      by_cases c : rd F n = n
      · rw [if_pos c, if_pos (q c)]; omega
      · rw [if_neg c]; split <;> omega
theorem Rep.more {N : Int} {r : Nat} {F G : List Int} (hN : 0 ≤ N) (h : Rep K next f N r F) (g : Rep K next f N (r + 1) G) (hne : G ≠ F) : nfix F N.toNat < nfix G N.toNat := by
  have hle : ∀ i : Int, 0 ≤ i → i < N → rd F i ≤ rd G i := by
    intro i i0 i1
    apply Int.not_lt.1; intro q
    exact h.min i _ i0 i1 (g.lo i i0 i1).1 q ((g.al i i0 i1).le (by omega))
  have hfix : ∀ i : Nat, i < N.toNat → rd F i = i → rd G i = i := by
    intro i hi e
    have a := hle i (by omega) (by omega)
    have b := (g.lo i (by omega) (by omega)).2
    omega
  obtain ⟨i, i0, i1, hi⟩ : ∃ i : Int, 0 ≤ i ∧ i < N ∧ rd F i ≠ rd G i := by
    apply Classical.byContradiction
    intro q
    apply hne
    refine ext_rd (by have := h.len; have := g.len; omega) (fun i i0 i1 => ?_)
    have i1 : i < N := by have := g.len; omega
    apply Classical.byContradiction
    intro e
    exact q ⟨i, i0, i1, fun z => e z.symm⟩
  have lG := g.lo i i0 i1
  have a1 : rd G i < N := by omega
  have hlt : rd F i < rd G i := by have := hle i i0 i1; omega
  have eF : rd F (rd G i) = rd F i := (h.iff lG.1 a1 i0 i1).2 ((g.al i i0 i1).le (by omega))
  have eG : rd G (rd G i) = rd G i := (g.iff lG.1 a1 i0 i1).2 (g.al i i0 i1)
  refine nfix_lt (a := (rd G i).toNat) ?_ ?_ N.toNat (by omega) hfix
  · rw [Int.toNat_of_nonneg lG.1, eF]; omega
  · rw [Int.toNat_of_nonneg lG.1]; exact eG
end
theorem isB (p : Prop) : ∃ R : Bool, R = true ↔ p := by
  by_cases h : p
  · exact ⟨true, by simp [h]⟩
  · exact ⟨false, by simp [h]⟩
theorem rdLB_set (T : List (List Bool)) (k k' : Int) (r : List Bool) (h0 : 0 ≤ k) (h1 : k < T.length) (h2 : 0 ≤ k') : rd_L3 (T.set k.toNat r) k' = if k' = k then r else rd_L3 T k' := by
  simp only [rd_L3, List.getD_eq_getElem?_getD]
  by_cases c : k' = k
  · subst c; rw [if_pos rfl, List.getElem?_set_self (by omega)]; rfl
  · rw [if_neg c, List.getElem?_set_ne (by omega)]
theorem rdB_set (r : List Bool) (p p' : Int) (b : Bool) (h0 : 0 ≤ p) (h1 : p < r.length) (h2 : 0 ≤ p') : rdOf false (r.set p.toNat b) p' = if p' = p then b else rdOf false r p' := by
  simp only [rdOf, List.getD_eq_getElem?_getD]
  by_cases c : p' = p
  · subst c; rw [if_pos rfl, List.getElem?_set_self (by omega)]; rfl
  · rw [if_neg c, List.getElem?_set_ne (by omega)]
def te (T : List (List Bool)) (k p : Int) : Bool := rdOf false (rd_L3 T k) p
theorem te_set {T : List (List Bool)} {k p k' p' : Int} {b : Bool} (h0 : 0 ≤ k) (h1 : k < T.length) (h2 : 0 ≤ p) (h3 : p < (rd_L3 T k).length) (h4 : 0 ≤ k') (h5 : 0 ≤ p') :
    te (T.set k.toNat ((rd_L3 T k).set p.toNat b)) k' p' = if k' = k ∧ p' = p then b else te T k' p' := by
  unfold te
  rw [rdLB_set _ _ _ _ h0 h1 h4]
  by_cases c : k' = k
  · subst c
    rw [if_pos rfl, rdB_set _ _ _ _ h2 h3 h5]
    by_cases d : p' = p
    · rw [if_pos d, if_pos ⟨rfl, d⟩]
    · rw [if_neg d, if_neg (fun q => d q.2)]
  · rw [if_neg c, if_neg (fun q => c q.1)]
theorem rowlen_set {T : List (List Bool)} {k p k' : Int} {b : Bool} (h0 : 0 ≤ k) (h1 : k < T.length) (h4 : 0 ≤ k') :
    (rd_L3 (T.set k.toNat ((rd_L3 T k).set p.toNat b)) k').length = (rd_L3 T k').length := by
  rw [rdLB_set _ _ _ _ h0 h1 h4]
  by_cases c : k' = k
  · subst c; rw [if_pos rfl, List.length_set]
  · rw [if_neg c]
theorem Bit_mach (a i : Nat) (ha : a < 2 ^ 32) (hi : i < 32) : coppicerref_Bit.f (a : Int) (i : Int) = some (a.testBit i) := by
  unfold coppicerref_Bit.f
  simp (disch := omega) only [if_pos, u64_id, bit_and a i ha hi]
structure FillT (N : Int) (P : Int → Int → Prop) (T : List (List Bool)) (a : Int) : Prop where
  len : (T.length : Int) = N
  row : ∀ a' : Int, 0 ≤ a' → a' < a → ((rd_L3 T a').length : Int) = N ∧ ∀ b : Int, 0 ≤ b → b < N → (te T a' b = true ↔ P a' b)
structure FillM (N : Int) (P : Int → Int → Prop) (T : List (List Bool)) (a b : Int) (Q : Prop) : Prop where
  below : FillT N P T a
  cur : ((rd_L3 T a).length : Int) = N
  old : ∀ b' : Int, 0 ≤ b' → b' < b → (te T a b' = true ↔ P a b')
  mid : b < N → (te T a b = true ↔ Q)
  rest : ∀ b' : Int, b < b' → b' < N → te T a b' = false
theorem FillT.start {N : Int} {P : Int → Int → Prop} (hN : 0 ≤ N) : FillT N P (List.replicate N.toNat []) 0 := ⟨by rw [List.length_replicate]; omega, fun a h0 h1 => absurd h1 (by omega)⟩
theorem rdB_rep (n : Nat) (b : Int) : rdOf false (List.replicate n false) b = false := by
  simp only [rdOf, List.getD_eq_getElem?_getD, List.getElem?_replicate]
  split <;> rfl
theorem FillT.opens {N : Int} {P : Int → Int → Prop} {T : List (List Bool)} {a : Int} (h : FillT N P T a) (hN : 0 ≤ N) (h0 : 0 ≤ a) (h1 : a < N) : FillM N P (T.set a.toNat (List.replicate N.toNat false)) a 0 False := by
  have hl := h.len
  have e : ∀ a' : Int, 0 ≤ a' → rd_L3 (T.set a.toNat (List.replicate N.toNat false)) a' = if a' = a then List.replicate N.toNat false else rd_L3 T a' := fun a' q => rdLB_set _ _ _ _ h0 (by omega) q
  refine ⟨⟨by rw [List.length_set]; exact hl, fun a' p q => ?_⟩, ?_, fun b' p q => by omega, fun p => ?_, fun b' p q => ?_⟩
  · have := h.row a' p q
    unfold te at this ⊢
    rw [e a' p, if_neg (by omega)]; exact this
  · rw [e a h0, if_pos rfl, List.length_replicate]; omega
  · unfold te; rw [e a h0, if_pos rfl, rdB_rep]; simp
  · unfold te; rw [e a h0, if_pos rfl, rdB_rep]
theorem FillM.put {N : Int} {P : Int → Int → Prop} {T : List (List Bool)} {a b : Int} {Q Q' : Prop} {v : Bool} (h : FillM N P T a b Q) (a0 : 0 ≤ a) (a1 : a < N) (b0 : 0 ≤ b) (b1 : b < N) (hv : v = true ↔ Q') :
    FillM N P (T.set a.toNat ((rd_L3 T a).set b.toNat v)) a b Q' := by
  have hl := h.below.len
  have hc := h.cur
  have e : ∀ a' b' : Int, 0 ≤ a' → 0 ≤ b' → te (T.set a.toNat ((rd_L3 T a).set b.toNat v)) a' b' = if a' = a ∧ b' = b then v else te T a' b' := fun a' b' p q => te_set a0 (by omega) b0 (by omega) p q
  have el : ∀ a' : Int, 0 ≤ a' → (rd_L3 (T.set a.toNat ((rd_L3 T a).set b.toNat v)) a').length = (rd_L3 T a').length := fun a' p => rowlen_set a0 (by omega) p
  refine ⟨⟨by rw [List.length_set]; exact hl, fun a' p q => ?_⟩, ?_, fun b' p q => ?_, fun p => ?_, fun b' p q => ?_⟩
  · have := h.below.row a' p q
    refine ⟨by rw [el a' p]; exact this.1, fun b' x y => ?_⟩
    rw [e a' b' p x, if_neg (by omega)]; exact this.2 b' x y
  · rw [el a a0]; exact hc
  · rw [e a b' a0 p, if_neg (by omega)]; exact h.old b' p q
  · rw [e a b a0 b0, if_pos ⟨rfl, rfl⟩]; exact hv
  · rw [e a b' a0 (by omega), if_neg (by omega)]; exact h.rest b' p q
theorem FillM.next {N : Int} {P : Int → Int → Prop} {T : List (List Bool)} {a b : Int} {Q : Prop} (h : FillM N P T a b Q) (b0 : 0 ≤ b) (b1 : b < N) (hq : Q ↔ P a b) : FillM N P T a (b + 1) False := by
  refine ⟨h.below, h.cur, fun b' p q => ?_, fun p => ?_, fun b' p q => h.rest b' (by omega) q⟩
  · by_cases c : b' = b
    · subst c; rw [h.mid b1]; exact hq
    · exact h.old b' p (by omega)
  · rw [h.rest (b + 1) (by omega) p]; simp
theorem FillM.close {N : Int} {P : Int → Int → Prop} {T : List (List Bool)} {a : Int} {Q : Prop} (h : FillM N P T a N Q) : FillT N P T (a + 1) := by
  refine ⟨h.below.len, fun a' p q => ?_⟩
  by_cases c : a' = a
  · subst c; exact ⟨h.cur, h.old⟩
  · exact h.below.row a' p (by omega)
section
variable {N K : Int} {next : List (List Int)} {st : Int} {f : Nat} (hN0 : 1 ≤ N) (hN1 : N ≤ 14) (hK : 0 ≤ K ∧ K ≤ 3) (hm : okMach N K next) (hf : f < 2 ^ 32)
include hN0 hN1 hK hm hf
theorem told_l1 {n i j a : Int} {r : Bool} (a0 : 0 ≤ a) (a1 : a < N)
    (he : ∀ T, FillT N (Td K next f 0) T (a + 1) → Ev (fun k => Zk.l0 k n i j T (a + 1) N K next st (f : Int)) r) (T : List (List Bool)) (hT : FillM N (Td K next f 0) T a 0 False) :
    Ev (fun k => Zk.l1 k n i j T a 0 N K next st (f : Int)) r := by
  refine Ev.loopc (σ := List (List Bool)) (L := fun k b T => Zk.l1 k n i j T a b N K next st (f : Int)) (n := N) (fun b T => FillM N (Td K next f 0) T a b False) ?_ ?_ 0 T (Int.le_refl _) (by omega) hT
  · intro T hT
    refine Ev.step (fun k => Zk.l1.eq_2 _ _ _ _ _ _ _ _ _ _ _ k) ?_
    rw [w64 (x := a + 1) (by omega) (by omega)]
    exact Ev.neg (by omega) (he T hT.close)
  · intro b T b0 b1 hT hn
    have hl := hT.below.len
    have hc := hT.cur
    refine Ev.step (fun k => Zk.l1.eq_2 _ _ _ _ _ _ _ _ _ _ _ k) ?_
    rw [w64 (x := b + 1) (by omega) (by omega)]
    have ea := Bit_mach f a.toNat hf (by omega)
    have eb := Bit_mach f b.toNat hf (by omega)
    rw [Int.toNat_of_nonneg a0] at ea
    rw [Int.toNat_of_nonneg b0] at eb
    refine Ev.pos b1 (Ev.pos a0 (Ev.pos (by omega) ?_))
    simp only [ea, eb, Option.bind_some]
    refine Ev.pos b0 (Ev.pos (by omega) (hn _ ?_))
    refine (hT.put a0 a1 b0 b1 (Q' := Td K next f 0 a b) ?_).next b0 b1 Iff.rfl
    show (f.testBit a.toNat != f.testBit b.toNat) = true ↔ f.testBit a.toNat ≠ f.testBit b.toNat
    exact bne_iff_ne
theorem told_start {n i j : Int} {r : Bool} (he : ∀ T, FillT N (Td K next f 0) T N → Ev (fun k => Zk.l2 k n i j T 0 N K next st (f : Int)) r) :
    Ev (fun k => Zk.f k N K next st (f : Int) n i j) r := by
  unfold Zk.f
  refine Ev.pos (by omega) (Ev.pos (by omega) ?_)
  refine Ev.loopc (σ := List (List Bool)) (L := fun k a T => Zk.l0 k n i j T a N K next st (f : Int)) (n := N) (fun a T => FillT N (Td K next f 0) T a) ?_ ?_ 0 _ (Int.le_refl _) (by omega) (FillT.start (by omega))
  · intro T hT
    refine Ev.step (fun k => Zk.l0.eq_2 _ _ _ _ _ _ _ _ _ _ k) ?_
    exact Ev.neg (by omega) (he T hT)
  · intro a T a0 a1 hT hn
    have hl := hT.len
    refine Ev.step (fun k => Zk.l0.eq_2 _ _ _ _ _ _ _ _ _ _ k) ?_
    refine Ev.pos a1 (Ev.pos (by omega) (Ev.pos (by omega) (Ev.pos a0 (Ev.pos (by omega) ?_))))
    exact told_l1 hN0 hN1 hK hm hf a0 a1 hn _ (hT.opens (by omega) a0 a1)
theorem told_l5 {n i j z a b : Int} {r : Bool} {m : Nat} {T : List (List Bool)} (hT : FillT N (Td K next f m) T N) (a0 : 0 ≤ a) (a1 : a < N) (b0 : 0 ≤ b) (b1 : b < N)
    (he : ∀ G, FillM N (Td K next f (m + 1)) G a (b + 1) False → Ev (fun k => Zk.l4 k n i j T z G a (b + 1) N K next st (f : Int)) r) (G : List (List Bool)) (hG : FillM N (Td K next f (m + 1)) G a b False) :
    Ev (fun k => Zk.l5 k n i j T z G a b 0 N K next st (f : Int)) r := by
  refine Ev.loopc (σ := List (List Bool)) (L := fun k s G => Zk.l5 k n i j T z G a b s N K next st (f : Int)) (n := K)
    (fun s G => FillM N (Td K next f (m + 1)) G a b (∃ c, 0 ≤ c ∧ c < s ∧ Td K next f m (mto next a c) (mto next b c))) ?_ ?_ 0 G (Int.le_refl _) hK.1 ?_
  · intro G hG
    refine Ev.step (fun k => Zk.l5.eq_2 _ _ _ _ _ _ _ _ _ _ _ _ _ _ k) ?_
    rw [w64 (x := b + 1) (by omega) (by omega)]
    exact Ev.neg (by omega) (he G (hG.next b0 b1 Iff.rfl))
  · intro s G s0 s1 hG hn
    have hl := hG.below.len
    have hc := hG.cur
    have hTl := hT.len
    have ra := hm.row a0 a1
    have rb := hm.row b0 b1
    have ta := hm.to a0 a1 s0 s1
    have tb := hm.to b0 b1 s0 s1
    have rowT := hT.row _ ta.1 ta.2
    have vT := rowT.2 _ tb.1 tb.2
    have hmid := hG.mid b1
    refine Ev.step (fun k => Zk.l5.eq_2 _ _ _ _ _ _ _ _ _ _ _ _ _ _ k) ?_
    rw [w64 (x := s + 1) (by omega) (by omega)]
    refine Ev.pos s1 (Ev.pos a0 (Ev.pos (by omega) (Ev.pos b0 (Ev.pos (by omega) ?_))))
    by_cases c : rdOf false (rd_L3 G a) b = true
    · refine Ev.pos c (hn _ (hG.put a0 a1 b0 b1 ?_))
      refine ⟨fun _ => ?_, fun _ => rfl⟩
      obtain ⟨x, x0, x1, h⟩ := hmid.1 c
      exact ⟨x, x0, by omega, h⟩
    · refine Ev.neg c (Ev.pos ra.2 (Ev.pos s0 (Ev.pos (by omega) (Ev.pos ta.1 ?_))))
      refine Ev.pos (show mto next a s < (T.length : Int) by omega) (Ev.pos rb.2 (Ev.pos (by omega) (Ev.pos tb.1 ?_)))
      refine Ev.pos (show mto next b s < ((rd_L3 T (mto next a s)).length : Int) by omega) (hn _ (hG.put a0 a1 b0 b1 ?_))
      have c' : ¬ te G a b = true := c
      rw [hmid] at c'
      show te T (mto next a s) (mto next b s) = true ↔ _
      rw [vT]
      constructor
      · intro h; exact ⟨s, s0, by omega, h⟩
      · rintro ⟨x, x0, x1, h⟩
        by_cases e : x = s
        · subst e; exact h
        · exact absurd ⟨x, x0, by omega, h⟩ c'
  · have e : (∃ c, 0 ≤ c ∧ c < 0 ∧ Td K next f m (mto next a c) (mto next b c)) ↔ False := ⟨fun ⟨c, p, q, _⟩ => by omega, False.elim⟩
    exact ⟨hG.below, hG.cur, hG.old, fun p => by rw [e]; exact hG.mid p, hG.rest⟩
theorem told_l4 {n i j z a : Int} {r : Bool} {m : Nat} {T : List (List Bool)} (hT : FillT N (Td K next f m) T N) (a0 : 0 ≤ a) (a1 : a < N)
    (he : ∀ G, FillT N (Td K next f (m + 1)) G (a + 1) → Ev (fun k => Zk.l3 k n i j T z G (a + 1) N K next st (f : Int)) r) (G : List (List Bool)) (hG : FillM N (Td K next f (m + 1)) G a 0 False) :
    Ev (fun k => Zk.l4 k n i j T z G a 0 N K next st (f : Int)) r := by
  refine Ev.loopc (σ := List (List Bool)) (L := fun k b G => Zk.l4 k n i j T z G a b N K next st (f : Int)) (n := N) (fun b G => FillM N (Td K next f (m + 1)) G a b False) ?_ ?_ 0 G (Int.le_refl _) (by omega) hG
  · intro G hG
    refine Ev.step (fun k => Zk.l4.eq_2 _ _ _ _ _ _ _ _ _ _ _ _ _ k) ?_
    rw [w64 (x := a + 1) (by omega) (by omega)]
    exact Ev.neg (by omega) (he G hG.close)
  · intro b G b0 b1 hG hn
    refine Ev.step (fun k => Zk.l4.eq_2 _ _ _ _ _ _ _ _ _ _ _ _ _ k) ?_
    exact Ev.pos b1 (told_l5 hN0 hN1 hK hm hf hT a0 a1 b0 b1 hn G hG)
theorem told_round {n i j z : Int} {r : Bool} {m : Nat} {T : List (List Bool)} (hz0 : 0 ≤ z) (hz : z ≤ 100) (hT : FillT N (Td K next f m) T N)
    (he : ∀ G, FillT N (Td K next f (m + 1)) G N → Ev (fun k => Zk.l2 k n i j G (z + 1) N K next st (f : Int)) r) :
    Ev (fun k => Zk.l3 k n i j T z (List.replicate N.toNat []) 0 N K next st (f : Int)) r := by
  refine Ev.loopc (σ := List (List Bool)) (L := fun k a G => Zk.l3 k n i j T z G a N K next st (f : Int)) (n := N) (fun a G => FillT N (Td K next f (m + 1)) G a) ?_ ?_ 0 _ (Int.le_refl _) (by omega) (FillT.start (by omega))
  · intro G hG
    refine Ev.step (fun k => Zk.l3.eq_2 _ _ _ _ _ _ _ _ _ _ _ _ k) ?_
    rw [w64 (x := z + 1) (by omega) (by omega)]
    exact Ev.neg (by omega) (he G hG)
  · intro a G a0 a1 hG hn
    have hl := hG.len
    refine Ev.step (fun k => Zk.l3.eq_2 _ _ _ _ _ _ _ _ _ _ _ _ k) ?_
    refine Ev.pos a1 (Ev.pos (by omega) (Ev.pos (by omega) (Ev.pos a0 (Ev.pos (by omega) ?_))))
    exact told_l4 hN0 hN1 hK hm hf hT a0 a1 hn _ (hG.opens (by omega) a0 a1)
theorem told_ev {n i j : Int} {R : Bool} (n0 : 0 ≤ n) (n1 : n ≤ 100) (i0 : 0 ≤ i) (i1 : i < N) (j0 : 0 ≤ j) (j1 : j < N) (hR : R = true ↔ Td K next f n.toNat i j) :
    Ev (fun k => Zk.f k N K next st (f : Int) n i j) R := by
  refine told_start hN0 hN1 hK hm hf (fun T hT => ?_)
  refine Ev.loopc (σ := List (List Bool)) (L := fun k z T => Zk.l2 k n i j T z N K next st (f : Int)) (n := n) (fun z T => FillT N (Td K next f z.toNat) T N) ?_ ?_ 0 T (Int.le_refl _) n0 hT
  · intro T hT
    have hl := hT.len
    have ht := hT.row i i0 i1
    refine Ev.step (fun k => Zk.l2.eq_2 _ _ _ _ _ _ _ _ _ _ k) ?_
    refine Ev.neg (by omega) (Ev.pos i0 (Ev.pos (by omega) (Ev.pos j0 (Ev.pos (by omega) (Ev.val ?_)))))
    have := (ht.2 j j0 j1).trans hR.symm
    exact Bool.eq_iff_iff.2 this
  · intro z T z0 z1 hT hn
    refine Ev.step (fun k => Zk.l2.eq_2 _ _ _ _ _ _ _ _ _ _ k) ?_
    refine Ev.pos z1 (Ev.pos (by omega) (Ev.pos (by omega) ?_))
    refine told_round hN0 hN1 hK hm hf z0 (by omega) hT (fun G hG => hn G ?_)
    have e : (z + 1).toNat = z.toNat + 1 := by omega
    rw [e]; exact hG
end
section
variable {N K : Int} {next : List (List Int)} {st : Int} {f : Nat} (hN0 : 1 ≤ N) (hN1 : N ≤ 14) (hK : 0 ≤ K ∧ K ≤ 3) (hm : okMach N K next) (hf : f < 2 ^ 32)
include hN0 hN1 hK hm hf
theorem like_ev {i j : Int} {R : Bool} (i0 : 0 ≤ i) (i1 : i < N) (j0 : 0 ≤ j) (j1 : j < N) (hR : R = true ↔ Al K next f (N - 1).toNat i j) :
    Ev (fun k => Zt1.f k N K next st (f : Int) i j) R := by
  unfold Zt1.f
  refine Ev.loopc (σ := Unit) (L := fun k n _ => Zt1.l0 k i j n N K next st (f : Int)) (n := N) (fun n _ => ∀ m : Nat, (m : Int) < n → ¬ Td K next f m i j) ?_ ?_ 0 () (Int.le_refl _) (by omega) (fun m hm => by omega)
  · intro _ h
    refine Ev.step (fun k => Zt1.l0.eq_2 _ _ _ _ _ _ _ _ k) ?_
    refine Ev.neg (by omega) (Ev.val ?_)
    exact (hR.2 (fun m hm => h m (by omega))).symm
  · intro n _ n0 n1 h hn
    obtain ⟨B, hB⟩ := isB (Td K next f n.toNat i j)
    refine Ev.step (fun k => Zt1.l0.eq_2 _ _ _ _ _ _ _ _ k) ?_
    rw [w64 (x := n + 1) (by omega) (by omega)]
    refine Ev.pos n1 (Ev.bind (told_ev hN0 hN1 hK hm hf n0 (by omega) i0 i1 j0 j1 hB) ?_)
    by_cases c : B = true
    · refine Ev.pos c (Ev.val ?_)
      have : ¬ R = true := fun q => hR.1 q n.toNat (by omega) (hB.1 c)
      exact (Bool.eq_false_iff.2 this).symm
    · refine Ev.neg c (hn () (fun m hm => ?_))
      by_cases e : (m : Int) = n
      · have : m = n.toNat := by omega
        subst this; exact fun q => c (hB.2 q)
      · exact h m (by omega)
theorem leastOf_ev {F : List Int} (hF : Rep K next f N (N - 1).toNat F) {i : Int} (i0 : 0 ≤ i) (i1 : i < N) : Ev (fun k => Zn1.f k N K next st (f : Int) i) (rd F i) := by
  unfold Zn1.f
  have hlo := hF.lo i i0 i1
  have key : ∀ (d : Nat) (j : Int), 0 ≤ j → j + d = rd F i → Ev (fun k => Zn1.l0 k i j N K next st (f : Int)) (rd F i) := by
    intro d
    induction d with
    | zero =>
      intro j j0 e
      refine Ev.step (fun k => Zn1.l0.eq_2 _ _ _ _ _ _ _ k) ?_
      have ej : j = rd F i := by omega
      refine Ev.bind (like_ev hN0 hN1 hK hm hf (R := true) i0 i1 j0 (by omega) ⟨fun _ => ?_, fun _ => rfl⟩) (Ev.pos rfl (Ev.val ej))
      rw [ej]; exact Al.symm K next f (hF.al i i0 i1)
    | succ d ih =>
      intro j j0 e
      refine Ev.step (fun k => Zn1.l0.eq_2 _ _ _ _ _ _ _ k) ?_
      rw [w64 (x := j + 1) (by omega) (by omega)]
      refine Ev.bind (like_ev hN0 hN1 hK hm hf (R := false) i0 i1 j0 (by omega) ⟨fun q => by simp at q, fun q => ?_⟩) (Ev.neg (by simp) (ih (j + 1) (by omega) (by omega)))
      exact absurd (Al.symm K next f q) (hF.min i j i0 i1 j0 (by omega))
  exact key (rd F i).toNat 0 (Int.le_refl _) (by omega)
end
theorem Equal_ev (a b : List Int) (hb : (a.length : Int) ≤ 4611686018427387904) : Ev (fun k => Zm1.f k a b) (decide (a = b)) := by
  unfold Zm1.f
  by_cases hl : a.length = b.length
  · refine Ev.pos (by omega) ?_
    refine Ev.loopc (σ := Unit) (L := fun k i _ => Zm1.l0 k a b (a.length : Int) i) (n := (a.length : Int)) (fun i _ => ∀ j : Int, 0 ≤ j → j < i → rd a j = rd b j) ?_ ?_ 0 () (Int.le_refl _) (by omega) (fun j p q => by omega)
    · intro _ h
      refine Ev.step (fun k => Zm1.l0.eq_2 _ _ _ _ k) ?_
      exact Ev.neg (by omega) (Ev.val (decide_eq_true (ext_rd hl h)).symm)
    · intro i _ i0 i1 h hn
      refine Ev.step (fun k => Zm1.l0.eq_2 _ _ _ _ k) ?_
      rw [w64 (x := i + 1) (by omega) (by omega)]
      refine Ev.pos i1 (Ev.pos i0 (Ev.pos i1 (Ev.pos (by omega) ?_)))
      by_cases c : rd a i = rd b i
      · refine Ev.pos c (hn () (fun j p q => ?_))
        by_cases e : j = i
        · rw [e]; exact c
        · exact h j p (by omega)
      · exact Ev.neg c (Ev.val (decide_eq_false (fun q => c (by rw [q]))).symm)
  · exact Ev.neg (by omega) (Ev.val (decide_eq_false (fun q => hl (by rw [q]))).symm)
theorem IndexB_ev (l : List Bool) (i : Int) (h0 : 0 ≤ i) (h1 : i < l.length) (hb : (l.length : Int) ≤ 4611686018427387904) :
    EvP (fun k => Zo1.f k l (rdOf false l i)) (fun r => 0 ≤ r ∧ r ≤ i ∧ rdOf false l r = rdOf false l i ∧ ∀ j : Int, 0 ≤ j → j < r → rdOf false l j ≠ rdOf false l i) := by
  unfold Zo1.f
  refine EvP.loop (σ := Unit) (L := fun k j _ => Zo1.l0 k l (rdOf false l i) (l.length : Int) j) (n := (l.length : Int)) (fun j _ => j ≤ i ∧ ∀ x : Int, 0 ≤ x → x < j → rdOf false l x ≠ rdOf false l i) ?_ ?_ 0 () (Int.le_refl _) (by omega) ⟨h0, fun j p q => by omega⟩
  · intro _ h; exact absurd h.1 (by omega)
  · intro j _ j0 j1 h hn
    refine EvP.step (fun k => Zo1.l0.eq_2 _ _ _ _ k) ?_
    rw [w64 (x := j + 1) (by omega) (by omega)]
    refine EvP.pos j1 (EvP.pos j0 (EvP.pos j1 ?_))
    by_cases c : rdOf false l i = rdOf false l j
    · exact EvP.pos (beq_iff_eq.2 c) (EvP.now ⟨j0, h.1, c.symm, h.2⟩)
    · refine EvP.neg (fun q => c (beq_iff_eq.1 q)) (hn () ⟨?_, fun x p q => ?_⟩)
      · by_cases e : j = i
        · subst e; exact absurd rfl c
        · have := h.1; omega
      · by_cases e : x = j
        · rw [e]; exact fun q => c q.symm
        · exact h.2 x p (by omega)
structure RepTo (K : Int) (next : List (List Int)) (f : Nat) (N : Int) (r : Nat) (F : List Int) (n : Int) : Prop where
  len : (F.length : Int) = N
  lo : ∀ i : Int, 0 ≤ i → i < n → 0 ≤ rd F i ∧ rd F i ≤ i
  al : ∀ i : Int, 0 ≤ i → i < n → Al K next f r (rd F i) i
  min : ∀ i j : Int, 0 ≤ i → i < n → 0 ≤ j → j < rd F i → ¬ Al K next f r j i
theorem RepTo.start {K : Int} {next : List (List Int)} {f : Nat} {N : Int} {r : Nat} (hN : 0 ≤ N) : RepTo K next f N r (List.replicate N.toNat 0) 0 :=
  ⟨by rw [List.length_replicate]; omega, fun i p q => by omega, fun i p q => by omega, fun i j p q => by omega⟩
theorem RepTo.put {K : Int} {next : List (List Int)} {f : Nat} {N : Int} {r : Nat} {F : List Int} {i v : Int} (h : RepTo K next f N r F i) (i0 : 0 ≤ i) (i1 : i < N) (v0 : 0 ≤ v) (v1 : v ≤ i) (ha : Al K next f r v i) (hm : ∀ j : Int, 0 ≤ j → j < v → ¬ Al K next f r j i) : RepTo K next f N r (F.set i.toNat v) (i + 1) := by
  have hl := h.len
  have e : ∀ x : Int, 0 ≤ x → rd (F.set i.toNat v) x = if x = i then v else rd F x := by
    intro x x0
    by_cases c : x = i
    · subst c; rw [if_pos rfl]; exact rd_set_eq _ _ _ x0 (by omega)
    · rw [if_neg c]; exact rd_set_ne _ _ _ _ i0 x0 c
  refine ⟨by rw [List.length_set]; exact hl, fun x p q => ?_, fun x p q => ?_, fun x j p q a b => ?_⟩
  · rw [e x p]; by_cases c : x = i
    · rw [if_pos c]; omega
    · rw [if_neg c]; exact h.lo x p (by omega)
  · rw [e x p]; by_cases c : x = i
    · rw [if_pos c, c]; exact ha
    · rw [if_neg c]; exact h.al x p (by omega)
  · rw [e x p] at b; by_cases c : x = i
    · rw [if_pos c] at b; rw [c]; exact hm j a b
    · rw [if_neg c] at b; exact h.min x j p (by omega) a b
theorem RepTo.done {K : Int} {next : List (List Int)} {f : Nat} {N : Int} {r : Nat} {F : List Int} (h : RepTo K next f N r F N) : Rep K next f N r F := ⟨h.len, h.lo, h.al, h.min⟩
theorem nfix_pos (F : List Int) (h : rd F 0 = 0) : ∀ n : Nat, 1 ≤ n → 1 ≤ nfix F n
  | 0, h => by omega
  | n + 1, _ => by
    unfold nfix
    by_cases c : n = 0
    · subst c; rw [if_pos (by simpa using h)]; omega
    · have := nfix_pos F h n (by omega); omega
section
variable {N K : Int} {next : List (List Int)} {st g : Int} {f : Nat} (hN0 : 1 ≤ N) (hN1 : N ≤ 7) (hK : 0 ≤ K ∧ K ≤ 3) (hm : okMach N K next)
include hN0 hN1 hK hm
theorem parts_l4 {F G : List Int} {r : Nat} {i j : Int} {J : List Int → Prop} (hF : Rep K next f N r F) (i0 : 0 ≤ i) (i1 : i < N) (j0 : 0 ≤ j) (j1 : j ≤ i) (hG : (G.length : Int) = N) (m : Int)
    (hy : Al K next f (r + 1) i j → EvP (fun k => Zs.l2 k F (G.set i.toNat j) N (i + 1) N K next st g) J)
    (hn : ¬ Al K next f (r + 1) i j → EvP (fun k => Zs.l3 k F G i N i m (j + 1) N K next st g) J) :
    EvP (fun k => Zs.l4 k F G i j (rd F i == rd F j) N i m j K 0 N K next st g) J := by
  have hFl := hF.len
  refine EvP.loop (σ := Bool) (L := fun k s b => Zs.l4 k F G i j b N i m j K s N K next st g) (n := K)
    (fun s b => b = true ↔ Al K next f r i j ∧ ∀ c, 0 ≤ c → c < s → Al K next f r (mto next i c) (mto next j c)) ?_ ?_ 0 (rd F i == rd F j) (Int.le_refl _) hK.1 ?_
  · intro b hb
    refine EvP.step (fun k => Zs.l4.eq_2 _ _ _ _ _ _ _ _ _ _ _ _ _ _ _ _ k) ?_
    rw [w64 (x := i + 1) (by omega) (by omega), w64 (x := j + 1) (by omega) (by omega)]
    rw [← Al.succ] at hb
    refine EvP.neg (by omega) ?_
    by_cases c : b = true
    · exact EvP.pos c (EvP.pos i0 (EvP.pos (by omega) (hy (hb.1 c))))
    · exact EvP.neg c (hn (fun q => c (hb.2 q)))
  · intro s b s0 s1 hb hn2
    have ra := hm.row i0 i1
    have rb := hm.row (s := j) j0 (by omega)
    have ta := hm.to i0 i1 s0 s1
    have tb := hm.to (s := j) j0 (by omega) s0 s1
    refine EvP.step (fun k => Zs.l4.eq_2 _ _ _ _ _ _ _ _ _ _ _ _ _ _ _ _ k) ?_
    rw [w64 (x := s + 1) (by omega) (by omega)]
    refine EvP.pos s1 ?_
    by_cases c : b = true
    · refine EvP.pos c (EvP.pos i0 (EvP.pos ra.2 (EvP.pos s0 (EvP.pos (by omega) (EvP.pos ta.1 (EvP.pos (show mto next i s < (F.length : Int) by omega) ?_))))))
      refine EvP.pos j0 (EvP.pos rb.2 (EvP.pos (by omega) (EvP.pos tb.1 (EvP.pos (show mto next j s < (F.length : Int) by omega) (hn2 _ ?_)))))
      have q := hF.iff ta.1 ta.2 tb.1 tb.2
      have hb' := hb.1 c
      show (rd F (mto next i s) == rd F (mto next j s)) = true ↔ _
      rw [beq_iff_eq, q]
      constructor
      · intro h
        refine ⟨hb'.1, fun x x0 x1 => ?_⟩
        by_cases e : x = s
        · rw [e]; exact h
        · exact hb'.2 x x0 (by omega)
      · intro h; exact h.2 s s0 (by omega)
    · refine EvP.neg c (hn2 false ⟨fun q => by simp at q, fun q => ?_⟩)
      exact absurd (hb.2 ⟨q.1, fun x x0 x1 => q.2 x x0 (by omega)⟩) c
  · rw [beq_iff_eq, hF.iff i0 i1 j0 (by omega)]
    exact ⟨fun q => ⟨q, fun c c0 c1 => by omega⟩, fun q => q.1⟩
theorem parts_l3 {F : List Int} {r : Nat} {i : Int} {J : List Int → Prop} (hF : Rep K next f N r F) (i0 : 0 ≤ i) (i1 : i < N) (G : List Int) (hG : RepTo K next f N (r + 1) G i)
    (hn : ∀ G, RepTo K next f N (r + 1) G (i + 1) → EvP (fun k => Zs.l2 k F G N (i + 1) N K next st g) J) :
    EvP (fun k => Zs.l3 k F G i N i (i + 1) 0 N K next st g) J := by
  have hFl := hF.len
  refine EvP.loop (σ := Unit) (L := fun k j _ => Zs.l3 k F G i N i (i + 1) j N K next st g) (n := i + 1) (fun j _ => ∀ x : Int, 0 ≤ x → x < j → ¬ Al K next f (r + 1) x i) ?_ ?_ 0 () (Int.le_refl _) (by omega) (fun x p q => by omega)
  · intro _ h
    exact absurd (Al.refl K next f (r + 1) i) (h i i0 (by omega))
  · intro j _ j0 j1 h hn2
    refine EvP.step (fun k => Zs.l3.eq_2 _ _ _ _ _ _ _ _ _ _ _ _ k) ?_
    refine EvP.pos j1 (EvP.pos i0 (EvP.pos (by omega) (EvP.pos j0 (EvP.pos (by omega) ?_))))
    refine parts_l4 hN0 hN1 hK hm hF i0 i1 j0 (by omega) hG.len (i + 1) (fun q => hn _ ?_) (fun q => hn2 () (fun x p z => ?_))
    · exact hG.put i0 i1 j0 (by omega) (Al.symm K next f q) h
    · by_cases e : x = j
      · rw [e]; exact fun u => q (Al.symm K next f u)
      · exact h x p (by omega)
theorem parts_l1 : ∀ (d r : Nat) (F : List Int), Rep K next f N r F → r + 1 ≤ nfix F N.toNat → nfix F N.toNat + d = N.toNat →
    EvP (fun k => Zs.l1 k F N K next st g) (fun F => Rep K next f N (N - 1).toNat F) := by
  intro d
  induction d using Nat.strongRecOn with
  | _ d ih =>
    intro r F hF hr hd
    have hFl := hF.len
    refine EvP.step (fun k => Zs.l1.eq_2 _ _ _ _ _ _ k) ?_
    refine EvP.pos (by omega) (EvP.pos (by omega) ?_)
    simp only [Option.bind_some, List.length_replicate]
    rw [show ((N.toNat : Nat) : Int) = N by omega]
    refine EvP.loop (σ := List Int) (L := fun k i G => Zs.l2 k F G N i N K next st g) (n := N) (fun i G => RepTo K next f N (r + 1) G i) ?_ ?_ 0 _ (Int.le_refl _) (by omega) (RepTo.start (by omega))
    · intro G hG
      have hG := hG.done
      have hGl := hG.len
      refine EvP.step (fun k => Zs.l2.eq_2 _ _ _ _ _ _ _ _ _ k) ?_
      refine EvP.neg (by omega) (EvP.bind (Equal_ev G F (by omega)) ?_)
      by_cases c : G = F
      · refine EvP.pos (decide_eq_true c) (EvP.now ?_)
        subst c
        have := hF.stays hm hG ((N - 1).toNat - r)
        have le := nfix_le G N.toNat
        rwa [show r + ((N - 1).toNat - r) = (N - 1).toNat by omega] at this
      · refine EvP.neg (by simpa using c) ?_
        have lt := hF.more (by omega) hG c
        have le := nfix_le G N.toNat
        exact ih (N.toNat - nfix G N.toNat) (by omega) (r + 1) G hG (by omega) (by omega)
    · intro i G i0 i1 hG hn
      refine EvP.step (fun k => Zs.l2.eq_2 _ _ _ _ _ _ _ _ _ k) ?_
      rw [w64 (x := i + 1) (by omega) (by omega)]
      exact EvP.pos i1 (parts_l3 hN0 hN1 hK hm hF i0 i1 G hG hn)
theorem parts_ev {l : List Bool} (hl : (l.length : Int) = N) (hf : ∀ i : Int, 0 ≤ i → i < N → rdOf false l i = f.testBit i.toNat) :
    EvP (fun k => Zs.f k N K next st g l) (fun F => Rep K next f N (N - 1).toNat F) := by
  unfold Zs.f
  refine EvP.pos (by omega) (EvP.pos (by omega) ?_)
  simp only [Option.bind_some, List.length_replicate]
  rw [show ((N.toNat : Nat) : Int) = N by omega]
  refine EvP.loop (σ := List Int) (L := fun k i G => Zs.l0 k l G N i N K next st g) (n := N) (fun i G => RepTo K next f N 0 G i) ?_ ?_ 0 _ (Int.le_refl _) (by omega) (RepTo.start (by omega))
  · intro G hG
    have hG := hG.done
    have h0 := hG.lo 0 (by omega) (by omega)
    have hp := nfix_pos G (by omega) N.toNat (by omega)
    have le := nfix_le G N.toNat
    refine EvP.step (fun k => Zs.l0.eq_2 _ _ _ _ _ _ _ _ _ k) ?_
    exact EvP.neg (by omega) (parts_l1 hN0 hN1 hK hm (N.toNat - nfix G N.toNat) 0 G hG (by omega) (by omega))
  · intro i G i0 i1 hG hn
    have hGl := hG.len
    refine EvP.step (fun k => Zs.l0.eq_2 _ _ _ _ _ _ _ _ _ k) ?_
    rw [w64 (x := i + 1) (by omega) (by omega)]
    refine EvP.pos i1 (EvP.pos i0 (EvP.pos (by omega) (EvP.bindP (IndexB_ev l i i0 (by omega) (by omega)) ?_)))
    rintro v ⟨v0, v1, ve, vm⟩
    refine EvP.pos (by omega) (hn _ (hG.put i0 i1 v0 v1 ((Al.zero K next f).2 ?_) (fun j a b q => vm j a b ?_)))
    · rw [hf v v0 (by omega), hf i i0 i1] at ve; exact ve
    · have := (Al.zero K next f).1 q
      rw [hf j a (by omega), hf i i0 i1]; exact this
theorem alike_ev (hf : f < 2 ^ 32) : EvP (fun k => Zs1.f k N K next st (f : Int)) (fun F => Rep K next f N (N - 1).toNat F) := by
  unfold Zs1.f
  refine EvP.loop (σ := List Bool) (L := fun k i l => Zs1.l0 k l N i N K next st (f : Int)) (n := N) (fun i l => (l.length : Int) = i ∧ ∀ j : Int, 0 ≤ j → j < i → rdOf false l j = f.testBit j.toNat) ?_ ?_ 0 [] (Int.le_refl _) (by omega) ⟨rfl, fun j p q => by omega⟩
  · rintro l ⟨hl, hv⟩
    refine EvP.step (fun k => Zs1.l0.eq_2 _ _ _ _ _ _ _ _ k) ?_
    refine EvP.neg (by omega) (EvP.bindP (parts_ev hN0 hN1 hK hm hl hv) (fun F hF => EvP.now hF))
  · rintro i l i0 i1 ⟨hl, hv⟩ hn
    refine EvP.step (fun k => Zs1.l0.eq_2 _ _ _ _ _ _ _ _ k) ?_
    rw [w64 (x := i + 1) (by omega) (by omega)]
    refine EvP.pos i1 (EvP.pos i0 (EvP.pos (by omega) (hn _ ⟨by rw [List.length_append]; simp; omega, fun j p q => ?_⟩)))
    by_cases e : j = i
    · subst e
      have t := bit_shr f j.toNat hf (by omega)
      rw [Int.toNat_of_nonneg p] at t
      have e1 : rdOf false (l ++ [Go.bits .and .u32 (shr .u32 (f : Int) j) 1 == 1]) j = (Go.bits .and .u32 (shr .u32 (f : Int) j) 1 == 1) := by
        simp only [rdOf, List.getD_eq_getElem?_getD]
        rw [show j.toNat = l.length by omega]; simp
      rw [e1]
      exact Bool.eq_iff_iff.2 (by rw [beq_iff_eq]; exact t)
    · rw [← hv j p (by omega)]
      simp only [rdOf, List.getD_eq_getElem?_getD]
      rw [List.getElem?_append_left (by omega)]
end
theorem nodupI_le : ∀ (n : Nat) (l : List Int), l.Nodup → (∀ x ∈ l, 0 ≤ x ∧ x < n) → l.length ≤ n
  | 0, l, _, h => by
    cases l with
    | nil => simp
    | cons x l => exact absurd (h x (by simp)) (by omega)
  | n + 1, l, hd, h => by
    have := nodupI_le n (l.erase (n : Int)) (hd.erase _) (fun x hx => by
      have hx2 := (hd.mem_erase_iff).1 hx
      have := h x hx2.2
      have := hx2.1
      omega)
    rw [List.length_erase] at this
    split at this <;> omega
theorem idxI_at {S : List Int} (hd : S.Nodup) {j : Int} (j0 : 0 ≤ j) (j1 : j < S.length) : rd S j ∈ S ∧ ((S.idxOf (rd S j) : Nat) : Int) = j := by
  have hm := rd_mem j0 j1
  refine ⟨hm, ?_⟩
  have hi := List.idxOf_lt_length_iff.2 hm
  have e : S[S.idxOf (rd S j)]'hi = S[j.toNat]'(by omega) := by rw [List.getElem_idxOf hi, rd_getElem (by omega)]
  have p := List.pairwise_iff_getElem.1 hd
  by_cases c : S.idxOf (rd S j) < j.toNat
  · exact absurd e (p _ _ hi (by omega) c)
  · by_cases c2 : j.toNat < S.idxOf (rd S j)
    · exact absurd e.symm (p _ _ (by omega) hi c2)
    · omega
theorem idxI_mem {S : List Int} {t : Int} (h : t ∈ S) : S.idxOf t < S.length ∧ rd S ((S.idxOf t : Nat) : Int) = t := by
  have hi := List.idxOf_lt_length_iff.2 h
  refine ⟨hi, ?_⟩
  rw [rd_getElem (by simpa using hi)]
  simp only [Int.toNat_natCast]
  exact List.getElem_idxOf hi
theorem indexI_ev (S : List Int) (t : Int) (hd : S.Nodup) (hS : S.length ≤ 1000) : Ev (fun k => Zq1.f k S t) (if t ∈ S then ((S.idxOf t : Nat) : Int) else -1) := by
  unfold Zq1.f
  refine Ev.loopc (σ := Unit) (L := fun k i _ => Zq1.l0 k S t (S.length : Int) i) (n := (S.length : Int))
    (fun i _ => ∀ j : Int, 0 ≤ j → j < i → rd S j ≠ t) ?_ ?_ 0 () (Int.le_refl _) (by omega) (fun j a b => by omega)
  · intro _ h
    refine Ev.step (fun k => Zq1.l0.eq_2 _ _ _ _ k) ?_
    refine Ev.neg (by omega) (Ev.val ?_)
    rw [if_neg]
    intro hm
    have := idxI_mem hm
    exact h _ (by omega) (by omega) this.2
  · intro i _ i0 i1 h hn
    refine Ev.step (fun k => Zq1.l0.eq_2 _ _ _ _ k) ?_
    rw [w64 (x := i + 1) (by omega) (by omega)]
    refine Ev.pos i1 (Ev.pos i0 (Ev.pos i1 ?_))
    by_cases c : t = rd S i
    · have := idxI_at hd i0 i1
      refine Ev.pos c (Ev.val ?_)
      rw [c, if_pos this.1, this.2]
    · refine Ev.neg c (hn () ?_)
      intro j hj hj2
      by_cases e : j = i
      · rw [e]; exact fun q => c q.symm
      · exact h j hj (by omega)
section
variable (K : Int) (next : List (List Int)) (F : List Int)
def tgM (s c : Int) : Int := rd F (mto next s c)
def addM (i : Int) (p : List Int × List Int) (c : Int) : List Int × List Int :=
  (if tgM next F (rd p.1 i) c ∈ p.1 then p.1 else p.1 ++ [tgM next F (rd p.1 i) c], p.2 ++ [((p.1.idxOf (tgM next F (rd p.1 i) c) : Nat) : Int)])
def rowM (i : Int) (S : List Int) : Nat → List Int × List Int
  | 0 => (S, [])
  | c + 1 => addM next F i (rowM i S c) c
inductive BfsM : Nat → List Int → List (List Int) → List Int → List (List Int) → Prop
  | done (i : Nat) (S : List Int) (nx : List (List Int)) : S.length ≤ i → BfsM i S nx S nx
  | step (i : Nat) (S : List Int) (nx : List (List Int)) (Sf : List Int) (nf : List (List Int)) : i < S.length → BfsM (i + 1) (rowM next F i S K.toNat).1 (nx ++ [(rowM next F i S K.toNat).2]) Sf nf → BfsM i S nx Sf nf
theorem addM_pre (i : Int) (p : List Int × List Int) (c : Int) : p.1 <+: (addM next F i p c).1 := by
  unfold addM
  by_cases h : tgM next F (rd p.1 i) c ∈ p.1
  · simp only [if_pos h]; exact List.prefix_refl _
  · simp only [if_neg h]; exact List.prefix_append _ _
theorem rowM_pre (i : Int) (S : List Int) : ∀ c, S <+: (rowM next F i S c).1
  | 0 => List.prefix_refl _
  | c + 1 => (rowM_pre i S c).trans (addM_pre next F i _ _)
theorem rowM_len (i : Int) (S : List Int) : ∀ c, (rowM next F i S c).2.length = c
  | 0 => rfl
  | c + 1 => by
    show ((rowM next F i S c).2 ++ [_]).length = c + 1
    rw [List.length_append, rowM_len i S c]; rfl
theorem bfsM_pre {i : Nat} {S Sf : List Int} {nx nf : List (List Int)} (h : BfsM K next F i S nx Sf nf) : S <+: Sf := by
  induction h with
  | done => exact List.prefix_refl _
  | step i S nx Sf nf _ _ ih => exact (rowM_pre next F i S _).trans ih
theorem bfsM_row {i : Nat} {S Sf : List Int} {nx nf : List (List Int)} (h : BfsM K next F i S nx Sf nf) (hl : nx.length = i) (hi : i ≤ S.length) : nf.length = Sf.length ∧ ((∀ x ∈ nx, x.length = K.toNat) → ∀ x ∈ nf, x.length = K.toNat) := by
  induction h with
  | done i S nx h => exact ⟨by omega, fun h => h⟩
  | step i S nx Sf nf h0 _ ih =>
    have := (rowM_pre next F i S K.toNat).length_le
    obtain ⟨a, b⟩ := ih (by simp [hl]) (by omega)
    refine ⟨a, fun q => b (fun x hx => ?_)⟩
    rcases List.mem_append.1 hx with hx | hx
    · exact q x hx
    · rw [List.mem_singleton] at hx; subst hx; exact rowM_len next F i S _
end
def finM (f : Nat) (S : List Int) : Nat → Nat
  | 0 => 0
  | i + 1 => if f.testBit (rd S i).toNat = true then 2 ^ i + finM f S i else finM f S i
theorem finM_lt (f : Nat) (S : List Int) : ∀ i, finM f S i < 2 ^ i
  | 0 => by unfold finM; omega
  | i + 1 => by
    have := finM_lt f S i
    unfold finM
    rw [Nat.pow_succ]
    split <;> omega
theorem rd_pre {S T : List Int} (h : S <+: T) {i : Int} (h1 : i.toNat < S.length) : rd T i = rd S i := by
  obtain ⟨r, rfl⟩ := h
  simp only [rd, List.getD_eq_getElem?_getD]
  rw [List.getElem?_append_left h1]
section
variable {N K : Int} {next : List (List Int)} {st : Int} {f : Nat} {F : List Int} (hN0 : 1 ≤ N) (hN1 : N ≤ 7) (hK : 0 ≤ K ∧ K ≤ 3) (hm : okMach N K next) (hf : f < 2 ^ 32) (hF : Rep K next f N (N - 1).toNat F)
include hN0 hN1 hK hm hf hF
def OkM (N : Int) (F : List Int) (S : List Int) : Prop := S.Nodup ∧ ∀ x ∈ S, 0 ≤ x ∧ x < N ∧ rd F x = x
theorem OkM.len {S : List Int} (h : OkM N F S) : S.length ≤ 7 := by
  have := nodupI_le N.toNat S h.1 (fun x hx => by have := h.2 x hx; omega)
  omega
theorem rep_rep {x : Int} (h0 : 0 ≤ x) (h1 : x < N) : 0 ≤ rd F x ∧ rd F x < N ∧ rd F (rd F x) = rd F x := by
  have l := hF.lo x h0 h1
  exact ⟨l.1, by omega, (hF.iff l.1 (by omega) h0 h1).2 (hF.al x h0 h1)⟩
theorem OkM.to {S : List Int} (h : OkM N F S) {i c : Int} (i0 : 0 ≤ i) (i1 : i < S.length) (c0 : 0 ≤ c) (c1 : c < K) : 0 ≤ mto next (rd S i) c ∧ mto next (rd S i) c < N := by
  have q := h.2 _ (rd_mem i0 i1)
  exact hm.to q.1 q.2.1 c0 c1
theorem addM_ok {i : Int} {p : List Int × List Int} {c : Int} (h : OkM N F p.1) (i0 : 0 ≤ i) (i1 : i < p.1.length) (c0 : 0 ≤ c) (c1 : c < K) : OkM N F (addM next F i p c).1 := by
  unfold addM
  by_cases e : tgM next F (rd p.1 i) c ∈ p.1
  · simp only [if_pos e]; exact h
  · simp only [if_neg e]
    have t := h.to hN0 hN1 hK hm hf hF i0 i1 c0 c1
    refine ⟨?_, ?_⟩
    · rw [List.nodup_append]
      refine ⟨h.1, by simp, ?_⟩
      intro a ha b hb
      rw [List.mem_singleton] at hb; subst hb
      intro q; subst q; exact e ha
    · intro x hx
      rcases List.mem_append.1 hx with hx | hx
      · exact h.2 x hx
      · rw [List.mem_singleton] at hx; subst hx; exact rep_rep hN0 hN1 hK hm hf hF t.1 t.2
theorem rowM_ok {i : Int} {S : List Int} (h : OkM N F S) (i0 : 0 ≤ i) (i1 : i < S.length) : ∀ c : Nat, (c : Int) ≤ K → OkM N F (rowM next F i S c).1
  | 0, _ => h
  | c + 1, hc => addM_ok hN0 hN1 hK hm hf hF (rowM_ok h i0 i1 c (by omega)) i0 (by have := (rowM_pre next F i S c).length_le; omega) (by omega) (by omega)
theorem start_ok (h0 : 0 ≤ st) (h1 : st < N) : OkM N F [rd F st] := ⟨by simp, by intro x hx; rw [List.mem_singleton] at hx; subst hx; exact rep_rep hN0 hN1 hK hm hf hF h0 h1⟩
theorem small_ev (g : Int) : ∀ (d i : Nat) (S : List Int) (nx : List (List Int)), OkM N F S → nx.length = i → 7 ≤ i + d → i ≤ S.length →
    EvP (fun k => Ze1.l0 k F S (i : Int) N K next st g 0 K nx 0 0) (fun r => ∃ Sf nf, BfsM K next F i S nx Sf nf ∧ OkM N F Sf ∧ r = ((Sf.length : Int), K, nf, 0, 0, Sf)) := by
  intro d
  induction d with
  | zero =>
    intro i S nx h hn hd hi
    have hlen := h.len hN0 hN1 hK hm hf hF
    refine EvP.step (fun k => Ze1.l0.eq_2 _ _ _ _ _ _ _ _ _ _ _ _ _ k) ?_
    exact EvP.neg (by omega) (EvP.now ⟨S, nx, BfsM.done _ _ _ (by omega), h, rfl⟩)
  | succ d ih =>
    intro i S nx h hn hd hi
    have hlen := h.len hN0 hN1 hK hm hf hF
    have hFl := hF.len
    refine EvP.step (fun k => Ze1.l0.eq_2 _ _ _ _ _ _ _ _ _ _ _ _ _ k) ?_
    by_cases c : i < S.length
    · refine EvP.pos (by omega) ?_
      refine EvP.loop (σ := List Int × List Int) (L := fun k c p => Ze1.l1 k F p.1 (i : Int) p.2 K c N K next st g 0 K nx 0 0) (n := K)
        (fun c p => p = rowM next F i S c.toNat) ?_ ?_ 0 (S, []) (Int.le_refl _) hK.1 rfl
      · rintro p rfl
        have hp := rowM_pre next F i S K.toNat
        have hk := rowM_ok hN0 hN1 hK hm hf hF (i := (i : Int)) h (by omega) (by omega) K.toNat (by omega)
        refine EvP.step (fun k => Ze1.l1.eq_2 _ _ _ _ _ _ _ _ _ _ _ _ _ _ _ _ k) ?_
        rw [w64 (x := (i : Int) + 1) (by omega) (by omega)]
        refine EvP.neg (by omega) (EvP.pos (by omega) ?_)
        refine (ih (i + 1) _ _ hk (by simp [hn]) (by omega) (by have := hp.length_le; omega)).mono ?_
        rintro r ⟨Sf, nf, b, o, e⟩
        exact ⟨Sf, nf, BfsM.step _ _ _ _ _ c b, o, e⟩
      · rintro c' p c0 c1 rfl hn2
        have hp := rowM_pre next F i S c'.toNat
        have hk := rowM_ok hN0 hN1 hK hm hf hF (i := (i : Int)) h (by omega) (by omega) c'.toNat (by omega)
        have hpl := hp.length_le
        have hkl := hk.len hN0 hN1 hK hm hf hF
        have hrl := rowM_len next F i S c'.toNat
        have ec : ((c'.toNat : Nat) : Int) = c' := by omega
        have er : rowM next F i S (c' + 1).toNat = addM next F i (rowM next F i S c'.toNat) c' := by
          rw [show (c' + 1).toNat = c'.toNat + 1 by omega]
          show addM next F i (rowM next F i S c'.toNat) ((c'.toNat : Nat) : Int) = _
          rw [ec]
        obtain ⟨P, hP⟩ : ∃ P, P = rowM next F i S c'.toNat := ⟨_, rfl⟩
        rw [← hP] at hp hk hpl hkl hrl er ⊢
        have hx := hk.2 _ (rd_mem (i := (i : Int)) (by omega) (by omega))
        have ht := hm.to hx.1 hx.2.1 c0 c1
        have hr := hm.row hx.1 hx.2.1
        refine EvP.step (fun k => Ze1.l1.eq_2 _ _ _ _ _ _ _ _ _ _ _ _ _ _ _ _ k) ?_
        rw [w64 (x := c' + 1) (by omega) (by omega)]
        refine EvP.pos c1 (EvP.pos (by omega) (EvP.pos (by omega) (EvP.pos hx.1 (EvP.pos hr.2 (EvP.pos c0 (EvP.pos (by omega) (EvP.pos ht.1 ?_)))))))
        refine EvP.pos (show mto next (rd P.1 i) c' < (F.length : Int) by omega) ?_
        refine EvP.bind (indexI_ev P.1 (tgM next F (rd P.1 i) c') hk.1 (by omega)) ?_
        by_cases m : tgM next F (rd P.1 i) c' ∈ P.1
        · rw [if_pos m]
          refine EvP.neg (by omega) (EvP.pos (by omega) (hn2 (P.1, P.2 ++ [((P.1.idxOf (tgM next F (rd P.1 i) c') : Nat) : Int)]) ?_))
          rw [er]; unfold addM; rw [if_pos m]
        · rw [if_neg m]
          refine EvP.pos (by omega) (EvP.pos (by omega) (EvP.pos (by omega) (hn2 (P.1 ++ [tgM next F (rd P.1 i) c'], P.2 ++ [(P.1.length : Int)]) ?_)))
          rw [er]; unfold addM; rw [if_neg m, List.idxOf_eq_length m]
    · exact EvP.neg (by omega) (EvP.now ⟨S, nx, BfsM.done _ _ _ (by omega), h, rfl⟩)
theorem Small_ev (s0 : 0 ≤ st) (s1 : st < N) : EvP (fun k => (Ze1.f k N K next st (f : Int) F).bind fun bt185 => (Zf1.l0 k bt185.2.2.2.2.2 (bt185.2.2.2.2.2.length : Int) 0 N K next st (f : Int) bt185.1 bt185.2.1 bt185.2.2.1 bt185.2.2.2.1 bt185.2.2.2.2.1))
    (fun r => ∃ Sf nf, BfsM K next F 0 [rd F st] [] Sf nf ∧ OkM N F Sf ∧ r = ((Sf.length : Int), K, nf, 0, ((finM f Sf Sf.length : Nat) : Int))) := by
  have hFl := hF.len
  have ok := start_ok hN0 hN1 hK hm hf hF s0 s1
  refine EvP.bindP (I := fun r => ∃ Sf nf, BfsM K next F 0 [rd F st] [] Sf nf ∧ OkM N F Sf ∧ r = ((Sf.length : Int), K, nf, 0, 0, Sf)) ?_ ?_
  · unfold Ze1.f
    exact EvP.pos s0 (EvP.pos (by omega) (small_ev hN0 hN1 hK hm hf hF (f : Int) 7 0 [rd F st] [] ok rfl (by omega) (by simp)))
  · rintro _ ⟨S, nx, b, o, rfl⟩
    have hlen := o.len hN0 hN1 hK hm hf hF
    refine EvP.of ⟨S, nx, b, o, rfl⟩ ?_
    refine Ev.loopc (σ := Int) (L := fun k i m => Zf1.l0 k S (S.length : Int) i N K next st (f : Int) (S.length : Int) K nx 0 m) (n := (S.length : Int))
      (fun i m => m = ((finM f S i.toNat : Nat) : Int)) ?_ ?_ 0 0 (Int.le_refl _) (by omega) rfl
    · rintro m rfl
      refine Ev.step (fun k => Zf1.l0.eq_2 _ _ _ _ _ _ _ _ _ _ _ _ _ k) ?_
      exact Ev.neg (by omega) (Ev.val (by rw [Int.toNat_natCast]))
    · rintro i m i0 i1 rfl hn
      have hlt := finM_lt f S i.toNat
      have h2 : 2 ^ i.toNat ≤ 2 ^ 6 := Nat.pow_le_pow_right (by omega) (by omega)
      have hx := o.2 _ (rd_mem i0 i1)
      refine Ev.step (fun k => Zf1.l0.eq_2 _ _ _ _ _ _ _ _ _ _ _ _ _ k) ?_
      rw [w64 (x := i + 1) (by omega) (by omega)]
      refine Ev.pos i1 (Ev.pos i0 (Ev.pos i1 (Ev.pos hx.1 (hn _ ?_))))
      have t := bit_shr f (rd S i).toNat hf (by omega)
      rw [Int.toNat_of_nonneg hx.1] at t
      have e1 : (i + 1).toNat = i.toNat + 1 := by omega
      have ei : ((i.toNat : Nat) : Int) = i := by omega
      have eb : Go.bits .and .u32 (shr .u32 (f : Int) (rd S i)) 1 = if f.testBit (rd S i).toNat = true then 1 else 0 := by
        by_cases c : f.testBit (rd S i).toNat = true
        · rw [if_pos c]; exact t.2 c
        · rw [if_neg c]
          have h1 := shrn f (rd S i).toNat (by omega)
          rw [Int.toNat_of_nonneg hx.1] at h1
          have h3 : f / 2 ^ (rd S i).toNat < 2 ^ 32 := Nat.lt_of_le_of_lt (Nat.div_le_self _ _) hf
          have h4 := u32_and (f / 2 ^ (rd S i).toNat) 1 h3 (by decide)
          rw [Nat.and_one_is_mod] at h4
          have h5 : ¬ Go.bits .and .u32 (shr .u32 (f : Int) (rd S i)) 1 = 1 := fun q => c (t.1 q)
          rw [h1, show (1 : Int) = ((1 : Nat) : Int) from rfl, h4] at h5 ⊢
          omega
      rw [eb, e1]
      show _ = ((if f.testBit (rd S ((i.toNat : Nat) : Int)).toNat = true then 2 ^ i.toNat + finM f S i.toNat else finM f S i.toNat : Nat) : Int)
      rw [ei]
      by_cases c : f.testBit (rd S i).toNat = true
      · rw [if_pos c, if_pos c]
        have := bit_or (finM f S i.toNat) i.toNat (by omega) (by omega)
        rw [ei] at this
        rw [this]
        have q := Nat.two_pow_add_eq_or_of_lt hlt 1
        rw [Nat.mul_one] at q
        rw [q, Nat.or_comm]
      · rw [if_neg c, if_neg c]
        have e0 : shl .u32 0 i = 0 := by unfold shl; simp [IntKind.wrap_u32]
        rw [e0]
        have := u32_or (finM f S i.toNat) 0 (by omega) (by decide)
        rw [Nat.or_zero] at this
        exact this
end
theorem least_ex (P : Int → Prop) : ∀ (n : Nat), P n → ∃ v : Int, 0 ≤ v ∧ v ≤ n ∧ P v ∧ ∀ j : Int, 0 ≤ j → j < v → ¬ P j := by
  intro n
  induction n using Nat.strongRecOn with
  | _ n ih =>
    intro h
    by_cases c : ∃ j : Nat, j < n ∧ P j
    · obtain ⟨j, hj, q⟩ := c
      obtain ⟨v, a, b, d, e⟩ := ih j hj q
      exact ⟨v, a, by omega, d, e⟩
    · refine ⟨n, by omega, by omega, h, fun j a b q => c ⟨j.toNat, by omega, ?_⟩⟩
      rw [Int.toNat_of_nonneg a]; exact q
theorem rep_ex (K : Int) (next : List (List Int)) (f : Nat) (N : Int) (hN : 0 ≤ N) (r : Nat) : ∃ F, Rep K next f N r F := by
  have key : ∀ n : Nat, (n : Int) ≤ N → ∃ F, RepTo K next f N r F n := by
    intro n
    induction n with
    | zero => intro _; exact ⟨_, RepTo.start hN⟩
    | succ n ih =>
      intro h
      obtain ⟨F, hF⟩ := ih (by omega)
      obtain ⟨v, a, b, d, e⟩ := least_ex (fun j => Al K next f r j n) n (Al.refl K next f r n)
      exact ⟨_, hF.put (by omega) (by omega) a b d e⟩
  obtain ⟨F, hF⟩ := key N.toNat (by omega)
  rw [Int.toNat_of_nonneg hN] at hF
  exact ⟨F, hF.done⟩
theorem rep_stop {K : Int} {next : List (List Int)} {f : Nat} {N : Int} (hN : 1 ≤ N) : ∀ (d r : Nat) (F : List Int), Rep K next f N r F → r + 1 ≤ nfix F N.toNat → nfix F N.toNat + d = N.toNat → ∃ r' F', r' ≤ (N - 1).toNat ∧ Rep K next f N r' F' ∧ Rep K next f N (r' + 1) F' := by
  intro d
  induction d using Nat.strongRecOn with
  | _ d ih =>
    intro r F hF hr hd
    obtain ⟨G, hG⟩ := rep_ex K next f N (by omega) (r + 1)
    by_cases c : G = F
    · rw [c] at hG; exact ⟨r, F, by omega, hF, hG⟩
    · have lt := hF.more (by omega) hG c
      have le := nfix_le G N.toNat
      exact ih (N.toNat - nfix G N.toNat) (by omega) (r + 1) G hG (by omega) (by omega)
theorem rep_all {K : Int} {next : List (List Int)} {f : Nat} {N : Int} {F : List Int} (hN : 1 ≤ N) (hm : okMach N K next) (hF : Rep K next f N (N - 1).toNat F) {i j : Int} (i0 : 0 ≤ i) (i1 : i < N) (j0 : 0 ≤ j) (j1 : j < N) : rd F i = rd F j ↔ ∀ n, ¬ Td K next f n i j := by
  obtain ⟨F0, h0⟩ := rep_ex K next f N (by omega) 0
  have l0 := h0.lo 0 (by omega) (by omega)
  have hp := nfix_pos F0 (by omega) N.toNat (by omega)
  have le := nfix_le F0 N.toNat
  obtain ⟨r, G, hr, hG, hG2⟩ := rep_stop hN (N.toNat - nfix F0 N.toNat) 0 F0 h0 (by omega) (by omega)
  have st := hG.stays hm hG2
  have e : F = G := by
    have := st ((N - 1).toNat - r)
    rw [show r + ((N - 1).toNat - r) = (N - 1).toNat by omega] at this
    exact hF.uniq this
  subst e
  constructor
  · intro q n
    exact ((st n).iff i0 i1 j0 j1).1 q n (by omega)
  · intro q
    exact (hF.iff i0 i1 j0 j1).2 (fun n _ => q n)
theorem al_all {K : Int} {next : List (List Int)} {f : Nat} {N : Int} (hN : 1 ≤ N) (hm : okMach N K next) {i j : Int} (i0 : 0 ≤ i) (i1 : i < N) (j0 : 0 ≤ j) (j1 : j < N) (h : Al K next f (N - 1).toNat i j) : ∀ n, ¬ Td K next f n i j := by
  obtain ⟨F, hF⟩ := rep_ex K next f N (by omega) (N - 1).toNat
  exact (rep_all hN hm hF i0 i1 j0 j1).1 ((hF.iff i0 i1 j0 j1).2 h)
def besM (NA : Int) (nA nB : List (List Int)) : List (List Int) := nA ++ nB.map (fun l => l.map (fun x => x + NA))
section
variable {NA NB K : Int} {nA nB : List (List Int)} {fA fB fM : Nat} (hA1 : 1 ≤ NA) (hB1 : 1 ≤ NB) (hA : okMach NA K nA) (hB : okMach NB K nB)
  (hl : ∀ i : Int, 0 ≤ i → i < NA → fM.testBit i.toNat = fA.testBit i.toNat) (hr : ∀ j : Int, 0 ≤ j → j < NB → fM.testBit (NA + j).toNat = fB.testBit j.toNat)
include hA1 hB1 hA hB hl hr
def EqM (K NA : Int) (nA nB : List (List Int)) (fM : Nat) (i j : Int) : Prop := ∀ n, ¬ Td K (besM NA nA nB) fM n i j
omit hA1 hB1 hA hB hl hr in
theorem EqM.symm {i j : Int} (h : EqM K NA nA nB fM i j) : EqM K NA nA nB fM j i := fun n q => h n (Td.symm _ _ _ n _ _ q)
omit hA1 hB1 hA hB hl hr in
theorem EqM.trans {i j k : Int} (h : EqM K NA nA nB fM i j) (h2 : EqM K NA nA nB fM j k) : EqM K NA nA nB fM i k := fun n q => by
  rcases Td.mid _ _ _ n i j k q with q | q
  · exact h n q
  · exact h2 n q
omit hA1 hB1 hA hB hl hr in
theorem EqM.step {i j c : Int} (h : EqM K NA nA nB fM i j) (c0 : 0 ≤ c) (c1 : c < K) : EqM K NA nA nB fM (mto (besM NA nA nB) i c) (mto (besM NA nA nB) j c) := fun n q => h (n + 1) ⟨c, c0, c1, q⟩
end
section
variable (K : Int) (next : List (List Int)) (F : List Int)
theorem rowM_tab (i : Int) (S : List Int) (i0 : 0 ≤ i) (i1 : i < S.length) : ∀ c : Nat, ∀ x : Int, 0 ≤ x → x < c → 0 ≤ rd (rowM next F i S c).2 x ∧ rd (rowM next F i S c).2 x < (rowM next F i S c).1.length ∧ rd (rowM next F i S c).1 (rd (rowM next F i S c).2 x) = tgM next F (rd S i) x
  | 0, x, x0, x1 => by omega
  | c + 1, x, x0, x1 => by
    have hp := rowM_pre next F i S c
    have hlen := rowM_len next F i S c
    have ih := rowM_tab i S i0 i1 c
    have hpl := hp.length_le
    have eS : rd (rowM next F i S c).1 i = rd S i := rd_pre hp (by omega)
    have hq := addM_pre next F i (rowM next F i S c) c
    have hql := hq.length_le
    show 0 ≤ rd (addM next F i (rowM next F i S c) c).2 x ∧ rd (addM next F i (rowM next F i S c) c).2 x < (addM next F i (rowM next F i S c) c).1.length ∧ rd (addM next F i (rowM next F i S c) c).1 (rd (addM next F i (rowM next F i S c) c).2 x) = tgM next F (rd S i) x
    by_cases e : x = c
    · have e2 : rd (addM next F i (rowM next F i S c) c).2 x = (((rowM next F i S c).1.idxOf (tgM next F (rd S i) c) : Nat) : Int) := by
        unfold addM; rw [eS]; exact rd_append_last _ _ _ (by omega)
      rw [e2, e]
      unfold addM; rw [eS]
      by_cases m : tgM next F (rd S i) c ∈ (rowM next F i S c).1
      · have := idxI_mem m
        simp only [if_pos m]
        exact ⟨by omega, by omega, this.2⟩
      · simp only [if_neg m]
        rw [List.idxOf_eq_length m, List.length_append]
        exact ⟨by omega, by simp; omega, rd_append_last _ _ _ rfl⟩
    · have := ih x x0 (by omega)
      have e2 : rd (addM next F i (rowM next F i S c) c).2 x = rd (rowM next F i S c).2 x := by
        unfold addM; exact rd_append_left _ _ _ x0 (by omega)
      rw [e2]
      exact ⟨this.1, by omega, by rw [rd_pre hq (by omega)]; exact this.2.2⟩
theorem rdLI_app (l : List (List Int)) (r : List Int) (x : Int) (x0 : 0 ≤ x) (x1 : x ≤ l.length) : Ze (l ++ [r]) x = if x = l.length then r else Ze l x := by
  simp only [Ze, List.getD_eq_getElem?_getD]
  by_cases c : x = l.length
  · subst c; simp
  · rw [if_neg c, List.getElem?_append_left (by omega)]
theorem bfsM_tab (hK : 0 ≤ K) {i : Nat} {S Sf : List Int} {nx nf : List (List Int)} (h : BfsM K next F i S nx Sf nf) (hl : nx.length = i) (hi : i ≤ S.length)
    (ht : ∀ x c : Int, 0 ≤ x → x < i → 0 ≤ c → c < K → 0 ≤ rd (Ze nx x) c ∧ rd (Ze nx x) c < S.length ∧ rd S (rd (Ze nx x) c) = tgM next F (rd S x) c) :
    ∀ x c : Int, 0 ≤ x → x < Sf.length → 0 ≤ c → c < K → 0 ≤ rd (Ze nf x) c ∧ rd (Ze nf x) c < Sf.length ∧ rd Sf (rd (Ze nf x) c) = tgM next F (rd Sf x) c := by
  induction h with
  | done i S nx h => intro x c x0 x1 c0 c1; exact ht x c x0 (by omega) c0 c1
  | step i S nx Sf nf h0 _ ih =>
    have hp := rowM_pre next F i S K.toNat
    have hpl := hp.length_le
    refine ih (by simp [hl]) (by omega) (fun x c x0 x1 c0 c1 => ?_)
    rw [rdLI_app _ _ _ x0 (by omega)]
    by_cases e : x = nx.length
    · rw [if_pos e]
      have := rowM_tab next F i S (by omega) (by omega) K.toNat c c0 (by omega)
      rw [e, hl, rd_pre hp (i := (i : Int)) (by omega)]; exact this
    · rw [if_neg e]
      have := ht x c x0 (by omega) c0 c1
      refine ⟨this.1, by omega, ?_⟩
      rw [rd_pre hp (by omega), rd_pre hp (i := x) (by omega)]; exact this.2.2
end
theorem SmallM_ev {N K : Int} {next : List (List Int)} {st : Int} {f : Nat} (n0 : 1 ≤ N) (n1 : N ≤ 7) (hK : 0 ≤ K ∧ K ≤ 3) (hm : okMach N K next) (hf32 : f < 2 ^ 32) (s0 : 0 ≤ st) (s1 : st < N) :
    EvP (fun k => Zf1.f k N K next st (f : Int)) (fun r => ∃ F Sf nf, Rep K next f N (N - 1).toNat F ∧ BfsM K next F 0 [rd F st] [] Sf nf ∧ OkM N F Sf ∧ r = ((Sf.length : Int), K, nf, 0, ((finM f Sf Sf.length : Nat) : Int))) := by
  unfold Zf1.f
  refine EvP.bindP (alike_ev n0 n1 hK hm hf32) (fun F hF => ?_)
  exact (Small_ev n0 n1 hK hm hf32 hF s0 s1).mono (fun r ⟨Sf, nf, a, b, c⟩ => ⟨F, Sf, nf, hF, a, b, c⟩)
def okW (K : Int) (w : List Int) : Prop := ∀ c ∈ w, 0 ≤ c ∧ c < K
theorem okW.app {K : Int} {u v : List Int} (h : okW K u) (h2 : okW K v) : okW K (u ++ v) := fun c hc => (List.mem_append.1 hc).elim (h c) (h2 c)
theorem okW.one {K c : Int} (c0 : 0 ≤ c) (c1 : c < K) : okW K [c] := fun x hx => by rw [List.mem_singleton] at hx; subst hx; exact ⟨c0, c1⟩
theorem mrun_app (next : List (List Int)) : ∀ (u v : List Int) (s : Int), mrun next s (u ++ v) = mrun next (mrun next s u) v
  | [], v, s => rfl
  | c :: u, v, s => mrun_app next u v (mto next s c)
theorem leadsL_l0 (N K : Int) (next : List (List Int)) (st f : Int) (ho : okMach N K next) (w : List Int) (hw : w.length ≤ 1000000) (hk : okW K w) (d : Nat) : ∀ (i s : Int), 0 ≤ i → i + d = w.length → 0 ≤ s → s < N →
    Ev (fun k => Zp1.l0 k s w (w.length : Int) i N K next st f) (mrun next s (w.drop i.toNat)) := by
  induction d with
  | zero =>
    intro i s h0 hd s0 s1
    refine Ev.step (fun k => Zp1.l0.eq_2 _ _ _ _ _ _ _ _ _ k) ?_
    rw [List.drop_eq_nil_of_le (by omega)]
    exact Ev.neg (by omega) (Ev.now _)
  | succ d ih =>
    intro i s h0 hd s0 s1
    refine Ev.step (fun k => Zp1.l0.eq_2 _ _ _ _ _ _ _ _ _ k) ?_
    have hc := hk _ (rd_mem h0 (show i < w.length by omega))
    have hr := ho.row s0 s1
    have ht := ho.to s0 s1 hc.1 hc.2
    rw [drop_rd h0 (by omega), w64 (x := i + 1) (by omega) (by omega)]
    exact Ev.pos (by omega) (Ev.pos (by omega) (Ev.pos (by omega) (Ev.pos (by omega) (Ev.pos (by omega) (Ev.pos (by omega) (Ev.pos (by omega) (ih (i + 1) _ (by omega) (by omega) ht.1 ht.2)))))))
theorem leadsL_ev (N K : Int) (next : List (List Int)) (st f : Int) (ho : okMach N K next) (w : List Int) (hw : w.length ≤ 1000000) (hk : okW K w) (s : Int) (s0 : 0 ≤ s) (s1 : s < N) : Ev (fun k => Zp1.f k N K next st f s w) (mrun next s w) := by
  unfold Zp1.f
  simpa using leadsL_l0 N K next st f ho w hw hk w.length 0 s (by omega) (by omega) s0 s1
section
variable (K : Int) (next : List (List Int)) (st : Int)
def RE (i : Int) : Prop := ∃ y, okW K y ∧ mrun next st y = i
def Rn : Nat → Int → Prop
  | 0, i => i = st
  | d + 1, i => Rn d i ∨ ∃ j c, 0 ≤ c ∧ c < K ∧ Rn d j ∧ mto next j c = i
theorem Rn.re : ∀ (d : Nat) (i : Int), Rn K next st d i → RE K next st i
  | 0, i, h => ⟨[], fun c hc => by simp at hc, h.symm⟩
  | d + 1, i, h => by
    rcases h with h | ⟨j, c, c0, c1, h, e⟩
    · exact Rn.re d i h
    · obtain ⟨y, hy, ey⟩ := Rn.re d j h
      refine ⟨y ++ [c], hy.app (okW.one c0 c1), ?_⟩
      rw [mrun_app, ey]; exact e
theorem RE.to {i c : Int} (h : RE K next st i) (c0 : 0 ≤ c) (c1 : c < K) : RE K next st (mto next i c) := by
  obtain ⟨y, hy, ey⟩ := h
  refine ⟨y ++ [c], hy.app (okW.one c0 c1), ?_⟩
  rw [mrun_app, ey]; rfl
theorem re_Rn_aux : ∀ (y : List Int) (d : Nat) (s : Int), okW K y → Rn K next st d s → ∃ e, Rn K next st e (mrun next s y)
  | [], d, s, _, h => ⟨d, h⟩
  | c :: y, d, s, hy, h => by
    have hc := hy c (by simp)
    exact re_Rn_aux y (d + 1) _ (fun x hx => hy x (by simp [hx])) (.inr ⟨s, c, hc.1, hc.2, h, rfl⟩)
theorem re_Rn {i : Int} (h : RE K next st i) : ∃ e, Rn K next st e i := by
  obtain ⟨y, hy, rfl⟩ := h
  exact re_Rn_aux K next st y 0 st hy rfl
variable {N : Int} {K next st} (hm : okMach N K next) (s0 : 0 ≤ st) (s1 : st < N)
include hm s0 s1
theorem RE.rng {i : Int} (h : RE K next st i) : 0 ≤ i ∧ i < N := by
  obtain ⟨y, hy, rfl⟩ := h
  exact hm.run y st s0 s1 hy
theorem Rn.mono {d : Nat} {i : Int} (e : Nat) (h : Rn K next st d i) : Rn K next st (d + e) i := by
  induction e with
  | zero => exact h
  | succ e ih => exact .inl ih
theorem re_all {i : Int} (h : RE K next st i) : Rn K next st N.toNat i := by
  have hr := h.rng hm s0 s1
  obtain ⟨e, he⟩ := re_Rn K next st h
  have hp : ∃ p : Nat → Nat → Bool, ∀ d x, p d x = true ↔ Rn K next st d (x : Int) :=
    ⟨fun d x => @decide (Rn K next st d (x : Int)) (Classical.propDecidable _), fun d x => @decide_eq_true_iff _ (Classical.propDecidable _)⟩
  obtain ⟨p, hp⟩ := hp
  have key := chain_all N.toNat p (fun d x _ q => (hp _ _).2 (.inl ((hp _ _).1 q))) (by
    intro d q x hx
    rw [Bool.eq_iff_iff, hp, hp]
    constructor
    · rintro (a | ⟨j, c, c0, c1, a, b⟩)
      · exact a
      · have hj := (Rn.re K next st _ _ a).rng hm s0 s1
        have := q j.toNat (by omega)
        rw [Bool.eq_iff_iff, hp, hp, Int.toNat_of_nonneg hj.1] at this
        exact .inr ⟨j, c, c0, c1, this.1 a, b⟩
    · exact .inl) e i.toNat (by omega)
  rw [Bool.eq_iff_iff, hp, hp, Int.toNat_of_nonneg hr.1, Nat.add_comm] at key
  refine key.1 ?_
  exact Rn.mono hm s0 s1 N.toNat he
end
structure CI (K : Int) (next : List (List Int)) (st N : Int) (r : Nat) (P : Int → Int → Prop) (C : List Bool) : Prop where
  len : (C.length : Int) = N
  sound : ∀ x : Int, 0 ≤ x → x < N → rdOf false C x = true → RE K next st x
  has : ∀ x : Int, 0 ≤ x → x < N → Rn K next st r x → rdOf false C x = true
  nxt : ∀ j c : Int, 0 ≤ j → j < N → 0 ≤ c → c < K → P j c → Rn K next st r j → rdOf false C (mto next j c) = true
theorem CI.put {K : Int} {next : List (List Int)} {st N : Int} {r : Nat} {P Q : Int → Int → Prop} {C D : List Bool} {i s : Int} (h : CI K next st N r P C) (hm : okMach N K next) (i0 : 0 ≤ i) (i1 : i < N) (c0 : 0 ≤ s) (c1 : s < K)
    (hl : D.length = C.length) (hD : ∀ x : Int, 0 ≤ x → (rdOf false D x = true ↔ rdOf false C x = true ∨ x = mto next i s ∧ rdOf false C i = true))
    (hQ : ∀ j c, Q j c → P j c ∨ j = i ∧ c = s) : CI K next st N r Q D := by
  have ht := hm.to i0 i1 c0 c1
  refine ⟨by rw [hl]; exact h.len, fun x x0 x1 q => ?_, fun x x0 x1 q => (hD x x0).2 (.inl (h.has x x0 x1 q)), fun j c j0 j1 d0 d1 q rn => ?_⟩
  · rcases (hD x x0).1 q with q | ⟨q, q2⟩
    · exact h.sound x x0 x1 q
    · rw [q]; exact RE.to K next st (h.sound i i0 i1 q2) c0 c1
  · have hj := hm.to j0 j1 d0 d1
    rcases hQ j c q with q | ⟨q, q2⟩
    · exact (hD _ hj.1).2 (.inl (h.nxt j c j0 j1 d0 d1 q rn))
    · subst q; subst q2; exact (hD _ hj.1).2 (.inr ⟨rfl, h.has j j0 j1 rn⟩)
structure DW (K : Int) (next : List (List Int)) (st N : Int) (F : List Int) (w D : List Int) : Prop where
  len : (D.length : Int) = N
  yes : ∀ j : Int, 0 ≤ j → j < N → RE K next st j → rd D j = rd F (mrun next j w)
  no : ∀ j : Int, 0 ≤ j → j < N → ¬ RE K next st j → rd D j = -1
theorem DW.eq_iff {K : Int} {next : List (List Int)} {st N : Int} {F u v D E : List Int} (h : DW K next st N F u D) (g : DW K next st N F v E) : D = E ↔ ∀ j : Int, 0 ≤ j → j < N → RE K next st j → rd F (mrun next j u) = rd F (mrun next j v) := by
  have l1 := h.len
  have l2 := g.len
  constructor
  · intro e j j0 j1 r
    rw [← h.yes j j0 j1 r, ← g.yes j j0 j1 r, e]
  · intro e
    refine ext_rd (by omega) (fun j j0 j1 => ?_)
    have j1 : j < N := by omega
    by_cases r : RE K next st j
    · rw [h.yes j j0 j1 r, g.yes j j0 j1 r]; exact e j j0 j1 r
    · rw [h.no j j0 j1 r, g.no j j0 j1 r]
section
variable {N K : Int} {next : List (List Int)} {st : Int} {f : Nat} {F : List Int} (hN0 : 1 ≤ N) (hN1 : N ≤ 7) (hK : 0 ≤ K ∧ K ≤ 3) (hm : okMach N K next) (hf : f < 2 ^ 32) (hF : Rep K next f N (N - 1).toNat F) (s0 : 0 ≤ st) (s1 : st < N)
include hN0 hN1 hK hm hf hF s0 s1
theorem does_l3 {w : List Int} (hw : w.length ≤ 1000000) (hk : okW K w) {C : List Bool} (hC : CI K next st N N.toNat (fun _ _ => False) C) :
    EvP (fun k => Zq.l3 k w C [] 0 N K next st (f : Int)) (DW K next st N F w) := by
  have hl := hC.len
  refine EvP.loop (σ := List Int) (L := fun k i D => Zq.l3 k w C D i N K next st (f : Int)) (n := N)
    (fun i D => (D.length : Int) = i ∧ ∀ j : Int, 0 ≤ j → j < i → (RE K next st j → rd D j = rd F (mrun next j w)) ∧ (¬ RE K next st j → rd D j = -1)) ?_ ?_ 0 [] (Int.le_refl _) (by omega) ⟨rfl, fun j p q => by omega⟩
  · rintro D ⟨l, h⟩
    refine EvP.step (fun k => Zq.l3.eq_2 _ _ _ _ _ _ _ _ _ k) ?_
    exact EvP.neg (by omega) (EvP.now ⟨l, fun j p q => (h j p q).1, fun j p q => (h j p q).2⟩)
  · rintro i D i0 i1 ⟨l, h⟩ hn
    refine EvP.step (fun k => Zq.l3.eq_2 _ _ _ _ _ _ _ _ _ k) ?_
    rw [w64 (x := i + 1) (by omega) (by omega)]
    refine EvP.pos i1 (EvP.pos i0 (EvP.pos (by omega) ?_))
    have old : ∀ v : Int, ∀ j : Int, 0 ≤ j → j < i → rd (D ++ [v]) j = rd D j := fun v j p q => rd_append_left _ _ _ p (by omega)
    have new : ∀ v : Int, rd (D ++ [v]) i = v := fun v => rd_append_last _ _ _ l.symm
    by_cases c : rdOf false C i = true
    · have hr := hm.run w i i0 i1 hk
      refine EvP.pos c (EvP.bind (leadsL_ev N K next st f hm w hw hk i i0 i1) (EvP.bind (leastOf_ev hN0 (by omega) hK hm hf hF hr.1 hr.2) (EvP.pos (by omega) (hn _ ⟨by rw [List.length_append, List.length_singleton]; omega, fun j p q => ?_⟩))))
      have hre := hC.sound i i0 i1 c
      by_cases e : j = i
      · subst e; rw [new]; exact ⟨fun _ => rfl, fun z => absurd hre z⟩
      · rw [old _ j p (by omega)]; exact h j p (by omega)
    · refine EvP.neg c (EvP.pos (by omega) (hn _ ⟨by rw [List.length_append, List.length_singleton]; omega, fun j p q => ?_⟩))
      by_cases e : j = i
      · subst e; rw [new]; exact ⟨fun z => absurd (hC.has j i0 i1 (re_all hm s0 s1 z)) c, fun _ => rfl⟩
      · rw [old _ j p (by omega)]; exact h j p (by omega)
theorem does_ev {w : List Int} (hw : w.length ≤ 1000000) (hk : okW K w) : EvP (fun k => Zq.f k N K next st (f : Int) w) (DW K next st N F w) := by
  unfold Zq.f
  have hrep : ∀ x : Int, rdOf false (List.replicate N.toNat false) x = false := fun x => rdB_rep _ _
  have hput : ∀ (C : List Bool) (t x : Int), 0 ≤ t → t < C.length → 0 ≤ x → ∀ b, rdOf false (C.set t.toNat b) x = if x = t then b else rdOf false C x := fun C t x a b c d => rdB_set C t x d a b c
  refine EvP.pos (by omega) (EvP.pos (by omega) ?_)
  refine EvP.bind (Ev.now _) (EvP.pos s0 (EvP.pos (by rw [List.length_replicate]; omega) ?_))
  refine EvP.loop (σ := List Bool) (L := fun k r C => Zq.l0 k w C r N K next st (f : Int)) (n := N) (fun r C => CI K next st N r.toNat (fun _ _ => False) C) ?_ ?_ 0 _ (Int.le_refl _) (by omega) ?_
  · intro C hC
    refine EvP.step (fun k => Zq.l0.eq_2 _ _ _ _ _ _ _ _ k) ?_
    exact EvP.neg (by omega) (does_l3 hN0 hN1 hK hm hf hF s0 s1 hw hk hC)
  · intro r C r0 r1 hC hn
    refine EvP.step (fun k => Zq.l0.eq_2 _ _ _ _ _ _ _ _ k) ?_
    refine EvP.pos r1 ?_
    refine EvP.loop (σ := List Bool) (L := fun k i C => Zq.l1 k w C r i N K next st (f : Int)) (n := N) (fun i C => CI K next st N r.toNat (fun j _ => j < i) C) ?_ ?_ 0 C (Int.le_refl _) (by omega) ⟨hC.len, hC.sound, hC.has, fun j c a b d e q => by omega⟩
    · intro C hC
      refine EvP.step (fun k => Zq.l1.eq_2 _ _ _ _ _ _ _ _ _ k) ?_
      rw [w64 (x := r + 1) (by omega) (by omega)]
      refine EvP.neg (by omega) (hn C ?_)
      rw [show (r + 1).toNat = r.toNat + 1 by omega]
      refine ⟨hC.len, hC.sound, fun x x0 x1 q => ?_, fun j c a b d e q => q.elim⟩
      rcases q with q | ⟨j, c, c0, c1, q, rfl⟩
      · exact hC.has x x0 x1 q
      · have hj := (Rn.re K next st _ _ q).rng hm s0 s1
        exact hC.nxt j c hj.1 hj.2 c0 c1 hj.2 q
    · intro i C i0 i1 hC hn2
      refine EvP.step (fun k => Zq.l1.eq_2 _ _ _ _ _ _ _ _ _ k) ?_
      refine EvP.pos i1 ?_
      refine EvP.loop (σ := List Bool) (L := fun k s C => Zq.l2 k w C r i s N K next st (f : Int)) (n := K) (fun s C => CI K next st N r.toNat (fun j c => j < i ∨ j = i ∧ c < s) C) ?_ ?_ 0 C (Int.le_refl _) (by omega) ⟨hC.len, hC.sound, hC.has, fun j c a b d e q => hC.nxt j c a b d e (by omega)⟩
      · intro C hC
        refine EvP.step (fun k => Zq.l2.eq_2 _ _ _ _ _ _ _ _ _ _ k) ?_
        rw [w64 (x := i + 1) (by omega) (by omega)]
        exact EvP.neg (by omega) (hn2 C ⟨hC.len, hC.sound, hC.has, fun j c a b d e q => hC.nxt j c a b d e (by omega)⟩)
      · intro s C c0 c1 hC hn3
        have hl := hC.len
        have hr := hm.row i0 i1
        have ht := hm.to i0 i1 c0 c1
        refine EvP.step (fun k => Zq.l2.eq_2 _ _ _ _ _ _ _ _ _ _ k) ?_
        rw [w64 (x := s + 1) (by omega) (by omega)]
        refine EvP.pos c1 (EvP.pos i0 (EvP.pos hr.2 (EvP.pos c0 (EvP.pos (by omega) (EvP.pos ht.1 (EvP.pos (show mto next i s < (C.length : Int) by omega) ?_))))))
        by_cases c : rdOf false C (mto next i s) = true
        · refine EvP.pos c (hn3 _ (hC.put hm i0 i1 c0 c1 (by rw [List.length_set]) (fun x x0 => ?_) (fun j c q => by omega)))
          show rdOf false (C.set (mto next i s).toNat true) x = true ↔ _
          rw [hput C (mto next i s) x ht.1 (by omega) x0]
          by_cases e : x = mto next i s
          · rw [if_pos e, e]; exact ⟨fun _ => .inl c, fun _ => rfl⟩
          · rw [if_neg e]; exact ⟨.inl, fun q => q.elim id (fun q => absurd q.1 e)⟩
        · refine EvP.neg c (EvP.pos (by omega) (hn3 _ (hC.put hm i0 i1 c0 c1 (by rw [List.length_set]) (fun x x0 => ?_) (fun j c q => by omega))))
          show rdOf false (C.set (mto next i s).toNat (rdOf false C i)) x = true ↔ _
          rw [hput C (mto next i s) x ht.1 (by omega) x0]
          by_cases e : x = mto next i s
          · rw [if_pos e, e]; exact ⟨fun q => .inr ⟨rfl, q⟩, fun q => q.elim (fun q => absurd q c) (fun q => q.2)⟩
          · rw [if_neg e]; exact ⟨.inl, fun q => q.elim id (fun q => absurd q.1 e)⟩
  · refine ⟨by rw [List.length_set, List.length_replicate]; omega, fun x x0 x1 q => ?_, fun x x0 x1 q => ?_, fun j c a b d e q => q.elim⟩
    · rw [hput _ _ x s0 (by rw [List.length_replicate]; omega) x0] at q
      by_cases e : x = st
      · rw [e]; exact ⟨[], fun c hc => by simp at hc, rfl⟩
      · rw [if_neg e, hrep] at q; cases q
    · rw [hput _ _ x s0 (by rw [List.length_replicate]; omega) x0, if_pos (show x = st from q)]
theorem cong1 {i j c : Int} (i0 : 0 ≤ i) (i1 : i < N) (j0 : 0 ≤ j) (j1 : j < N) (c0 : 0 ≤ c) (c1 : c < K) (h : rd F i = rd F j) : rd F (mto next i c) = rd F (mto next j c) := by
  have a := hm.to i0 i1 c0 c1
  have b := hm.to j0 j1 c0 c1
  have al := al_all hN0 hm i0 i1 j0 j1 ((hF.iff i0 i1 j0 j1).1 h)
  exact (hF.iff a.1 a.2 b.1 b.2).2 (fun n _ q => al (n + 1) ⟨c, c0, c1, q⟩)
theorem congW : ∀ (w : List Int) (i j : Int), okW K w → 0 ≤ i → i < N → 0 ≤ j → j < N → rd F i = rd F j → rd F (mrun next i w) = rd F (mrun next j w)
  | [], _, _, _, _, _, _, _, h => h
  | c :: w, i, j, hw, i0, i1, j0, j1, h => by
    have hc := hw c (by simp)
    have a := hm.to i0 i1 hc.1 hc.2
    have b := hm.to j0 j1 hc.1 hc.2
    exact congW w _ _ (fun x hx => hw x (by simp [hx])) a.1 a.2 b.1 b.2 (cong1 hN0 hN1 hK hm hf hF s0 s1 i0 i1 j0 j1 hc.1 hc.2 h)
structure SmM (N K : Int) (next : List (List Int)) (st : Int) (F Sf : List Int) (nf : List (List Int)) : Prop where
  ok : OkM N F Sf
  len : (nf.length : Int) = Sf.length
  mach : okMach (Sf.length : Int) K nf
  pos : 1 ≤ Sf.length
  le : Sf.length ≤ 7
  one : rd Sf 0 = rd F st
  tab : ∀ x c : Int, 0 ≤ x → x < Sf.length → 0 ≤ c → c < K → rd Sf (mto nf x c) = rd F (mto next (rd Sf x) c)
  from0 : ∀ x ∈ Sf, ∃ i, RE K next st i ∧ rd F i = x
theorem addM_re {i c : Int} {p : List Int × List Int} (ok : OkM N F p.1) (i0 : 0 ≤ i) (i1 : i < p.1.length) (c0 : 0 ≤ c) (c1 : c < K) (h : ∀ x ∈ p.1, ∃ i, RE K next st i ∧ rd F i = x) : ∀ x ∈ (addM next F i p c).1, ∃ i, RE K next st i ∧ rd F i = x := by
  intro x hx
  unfold addM at hx
  by_cases m : tgM next F (rd p.1 i) c ∈ p.1
  · simp only [if_pos m] at hx; exact h x hx
  · simp only [if_neg m, List.mem_append, List.mem_singleton] at hx
    rcases hx with hx | rfl
    · exact h x hx
    · obtain ⟨y, hy, ey⟩ := h _ (rd_mem i0 i1)
      have q := ok.2 _ (rd_mem i0 i1)
      have ry := hy.rng hm s0 s1
      refine ⟨_, RE.to K next st hy c0 c1, ?_⟩
      exact cong1 hN0 hN1 hK hm hf hF s0 s1 ry.1 ry.2 q.1 q.2.1 c0 c1 (by rw [ey, q.2.2])
theorem rowM_re {i : Int} {S : List Int} (ok : OkM N F S) (i0 : 0 ≤ i) (i1 : i < S.length) (h : ∀ x ∈ S, ∃ i, RE K next st i ∧ rd F i = x) : ∀ c : Nat, (c : Int) ≤ K → ∀ x ∈ (rowM next F i S c).1, ∃ i, RE K next st i ∧ rd F i = x
  | 0, _ => h
  | c + 1, hc => addM_re hN0 hN1 hK hm hf hF s0 s1 (rowM_ok hN0 hN1 hK hm hf hF ok i0 i1 c (by omega)) i0 (by have := (rowM_pre next F i S c).length_le; omega) (by omega) (by omega) (rowM_re ok i0 i1 h c (by omega))
theorem bfsM_re {i : Nat} {S Sf : List Int} {nx nf : List (List Int)} (b : BfsM K next F i S nx Sf nf) : OkM N F S → (∀ x ∈ S, ∃ i, RE K next st i ∧ rd F i = x) → ∀ x ∈ Sf, ∃ i, RE K next st i ∧ rd F i = x := by
  induction b with
  | done => intro _ h; exact h
  | step i S nx Sf nf c b ih =>
    intro ok h
    exact ih (rowM_ok hN0 hN1 hK hm hf hF ok (i := (i : Int)) (by omega) (by omega) K.toNat (by omega)) (rowM_re hN0 hN1 hK hm hf hF s0 s1 ok (by omega) (by omega) h K.toNat (by omega))
theorem smM {Sf : List Int} {nf : List (List Int)} (b : BfsM K next F 0 [rd F st] [] Sf nf) (ok : OkM N F Sf) : SmM N K next st F Sf nf := by
  have hlen := ok.len hN0 hN1 hK hm hf hF
  have hrows := bfsM_row K next F b rfl (by simp)
  have hr2 := hrows.2 (by simp)
  have tab := bfsM_tab K next F hK.1 b rfl (by simp) (fun x c x0 x1 => by omega)
  obtain ⟨z, hz⟩ := bfsM_pre K next F b
  have hp : 1 ≤ Sf.length := by rw [← hz]; simp
  refine ⟨ok, by omega, ⟨by omega, fun row hr => ?_⟩, hp, hlen, by rw [← hz]; rfl, fun x c x0 x1 c0 c1 => (tab x c x0 x1 c0 c1).2.2, ?_⟩
  · have l := hr2 row hr
    refine ⟨by omega, fun y hy => ?_⟩
    obtain ⟨a, ha, rfl⟩ := List.getElem_of_mem hr
    obtain ⟨c, hc, rfl⟩ := List.getElem_of_mem hy
    have t := tab (a : Int) (c : Int) (by omega) (by omega) (by omega) (by omega)
    have e : rd (Ze nf (a : Int)) (c : Int) = nf[a][c] := by
      have e1 : Ze nf (a : Int) = nf[a] := by simp [Ze, List.getD_eq_getElem?_getD, List.getElem?_eq_getElem ha]
      rw [e1, rd_getElem (by simpa using hc)]; simp
    rw [e] at t
    exact ⟨t.1, t.2.1⟩
  · refine bfsM_re hN0 hN1 hK hm hf hF s0 s1 b (start_ok hN0 hN1 hK hm hf hF s0 s1) (fun x hx => ?_)
    rw [List.mem_singleton] at hx
    exact ⟨st, ⟨[], fun c hc => by simp at hc, rfl⟩, hx.symm⟩
variable {Sf : List Int} {nf : List (List Int)} (hS : SmM N K next st F Sf nf)
include hS
theorem run_tab : ∀ (w : List Int) (x : Int), okW K w → 0 ≤ x → x < Sf.length → rd Sf (mrun nf x w) = rd F (mrun next (rd Sf x) w)
  | [], x, _, x0, x1 => ((hS.ok.2 _ (rd_mem x0 x1)).2.2).symm
  | c :: w, x, hw, x0, x1 => by
    have hc := hw c (by simp)
    have hw2 : okW K w := fun y hy => hw y (by simp [hy])
    have t := hS.mach.to x0 x1 hc.1 hc.2
    have q := hS.ok.2 _ (rd_mem x0 x1)
    have t2 := hm.to q.1 q.2.1 hc.1 hc.2
    have rr := rep_rep hN0 hN1 hK hm hf hF t2.1 t2.2
    have ih := run_tab w _ hw2 t.1 t.2
    rw [hS.tab x c x0 x1 hc.1 hc.2] at ih
    show rd Sf (mrun nf (mto nf x c) w) = rd F (mrun next (mto next (rd Sf x) c) w)
    rw [ih]
    exact congW hN0 hN1 hK hm hf hF s0 s1 w _ _ hw2 rr.1 rr.2.1 t2.1 t2.2 rr.2.2
theorem key_eq {u v : List Int} (hu : okW K u) (hv : okW K v) : (∀ x : Int, 0 ≤ x → x < Sf.length → mrun nf x u = mrun nf x v) ↔ ∀ j : Int, 0 ≤ j → j < N → RE K next st j → rd F (mrun next j u) = rd F (mrun next j v) := by
  have hp := hS.pos
  have rt := fun w x => run_tab hN0 hN1 hK hm hf hF s0 s1 hS w x
  have cw := fun w i j => congW hN0 hN1 hK hm hf hF s0 s1 w i j
  constructor
  · intro h j j0 j1 hj
    obtain ⟨y, hy, ey⟩ := hj
    have x := hS.mach.run y 0 (Int.le_refl _) (by omega) hy
    have e := rt y 0 hy (Int.le_refl _) (by omega)
    have rst := rep_rep hN0 hN1 hK hm hf hF s0 s1
    rw [hS.one, cw y (rd F st) st hy rst.1 rst.2.1 s0 s1 rst.2.2, ey] at e
    have q := hS.ok.2 _ (rd_mem x.1 x.2)
    have e2 : rd F (rd Sf (mrun nf 0 y)) = rd F j := by rw [q.2.2]; exact e
    rw [← cw u _ j hu q.1 q.2.1 j0 j1 e2, ← cw v _ j hv q.1 q.2.1 j0 j1 e2, ← rt u _ hu x.1 x.2, ← rt v _ hv x.1 x.2, h _ x.1 x.2]
  · intro h x x0 x1
    have q := hS.ok.2 _ (rd_mem x0 x1)
    obtain ⟨i, hi, ei⟩ := hS.from0 _ (rd_mem x0 x1)
    have ri := hi.rng hm s0 s1
    have e2 : rd F (rd Sf x) = rd F i := by rw [q.2.2]; exact ei.symm
    have e : rd Sf (mrun nf x u) = rd Sf (mrun nf x v) := by
      rw [rt u _ hu x0 x1, rt v _ hv x0 x1, cw u _ i hu q.1 q.2.1 ri.1 ri.2 e2, cw v _ i hv q.1 q.2.1 ri.1 ri.2 e2]
      exact h i ri.1 ri.2 hi
    have a := hS.mach.run u x x0 x1 hu
    have b := hS.mach.run v x x0 x1 hv
    have ia := idxI_at hS.ok.1 a.1 a.2
    have ib := idxI_at hS.ok.1 b.1 b.2
    rw [e] at ia
    omega
end
def mvw (M : Int) (nf : List (List Int)) (w : List Int) : List Int := [0, 1, 2, 3, 4, 5, 6].map (fun x : Int => if x < M then mrun nf x w else x)
def tup (l : List Int) : Int × Int × Int × Int × Int × Int × Int := (rd l 0, rd l 1, rd l 2, rd l 3, rd l 4, rd l 5, rd l 6)
theorem seven {l : List Int} (h : l.length = 7) : [rd l 0, rd l 1, rd l 2, rd l 3, rd l 4, rd l 5, rd l 6] = l := by
  match l, h with
  | [a, b, c, d, e, f, g], _ => rfl
theorem mvw_len (M : Int) (nf : List (List Int)) (w : List Int) : (mvw M nf w).length = 7 := rfl
theorem mvw_rd (M : Int) (nf : List (List Int)) (w : List Int) {x : Int} (x0 : 0 ≤ x) (x1 : x < 7) : rd (mvw M nf w) x = if x < M then mrun nf x w else x := by
  obtain ⟨n, rfl⟩ := Int.eq_ofNat_of_zero_le x0
  have : n < 7 := by omega
  match n, this with
  | 0, _ => rfl
  | 1, _ => rfl
  | 2, _ => rfl
  | 3, _ => rfl
  | 4, _ => rfl
  | 5, _ => rfl
  | 6, _ => rfl
theorem mvw_eq {M : Int} {nf : List (List Int)} {u v : List Int} (h7 : M ≤ 7) : mvw M nf u = mvw M nf v ↔ ∀ x : Int, 0 ≤ x → x < M → mrun nf x u = mrun nf x v := by
  constructor
  · intro h x x0 x1
    have a := mvw_rd M nf u x0 (by omega)
    have b := mvw_rd M nf v x0 (by omega)
    rw [if_pos x1] at a b
    rw [← a, ← b, h]
  · intro h
    refine ext_rd (by rw [mvw_len, mvw_len]) (fun x x0 x1 => ?_)
    rw [mvw_len] at x1
    rw [mvw_rd M nf u x0 (by omega), mvw_rd M nf v x0 (by omega)]
    by_cases c : x < M
    · rw [if_pos c, if_pos c]; exact h x x0 c
    · rw [if_neg c, if_neg c]
theorem mvw_app {M : Int} {nf : List (List Int)} {u v w : List Int} (h7 : M ≤ 7) (h : mvw M nf u = mvw M nf v) : mvw M nf (u ++ w) = mvw M nf (v ++ w) := by
  rw [mvw_eq h7] at h ⊢
  intro x x0 x1
  rw [mrun_app, mrun_app, h x x0 x1]
theorem still_eq (M : Int) (nf : List (List Int)) : kinds_still.f = some (tup (mvw M nf [])) := by
  have e : mvw M nf [] = [0, 1, 2, 3, 4, 5, 6] := by
    unfold mvw
    have : (fun x : Int => if x < M then mrun nf x [] else x) = id := by funext x; simp [mrun]
    rw [this, List.map_id]
  rw [e]; rfl
theorem then_tup (a b : List Int) (ha : a.length = 7) (hb : b.length = 7) (h : ∀ x ∈ a, 0 ≤ x ∧ x < 7) :
    Zw1.f (rd a 0) (rd a 1) (rd a 2) (rd a 3) (rd a 4) (rd a 5) (rd a 6) (rd b 0) (rd b 1) (rd b 2) (rd b 3) (rd b 4) (rd b 5) (rd b 6) = some (tup (a.map (rd b))) := by
  unfold Zw1.f
  rw [seven ha, seven hb]
  have e : (a.all fun x => decide (0 ≤ x ∧ x < 7)) = true := List.all_eq_true.2 (fun x hx => decide_eq_true (h x hx))
  have e2 : ∀ i : Int, 0 ≤ i → i < 7 → rd (a.map (rd b)) i = rd b (rd a i) := fun i i0 i1 => by
    rw [rd_getElem (by rw [List.length_map]; omega), List.getElem_map, ← rd_getElem (by omega)]
  rw [if_pos e]
  unfold tup
  simp (disch := decide) only [e2]
section
variable {M K : Int} {nf : List (List Int)} (hM0 : 1 ≤ M) (hM1 : M ≤ 7) (hK : 0 ≤ K ∧ K ≤ 3) (hm : okMach M K nf)
include hM0 hM1 hK hm
theorem mvw_rng {w : List Int} (hw : okW K w) : ∀ x ∈ mvw M nf w, 0 ≤ x ∧ x < 7 := by
  intro x hx
  unfold mvw at hx
  rw [List.mem_map] at hx
  obtain ⟨y, hy, rfl⟩ := hx
  have hy2 : 0 ≤ y ∧ y < 7 := by
    simp only [List.mem_cons, List.not_mem_nil, or_false] at hy; omega
  by_cases c : y < M
  · rw [if_pos c]
    have := hm.run w y hy2.1 c hw
    omega
  · rw [if_neg c]; exact hy2
theorem then_mvw {u v : List Int} (hu : okW K u) : (mvw M nf u).map (rd (mvw M nf v)) = mvw M nf (u ++ v) := by
  refine ext_rd (by rw [List.length_map, mvw_len, mvw_len]) (fun x x0 x1 => ?_)
  rw [List.length_map, mvw_len] at x1
  have e : rd ((mvw M nf u).map (rd (mvw M nf v))) x = rd (mvw M nf v) (rd (mvw M nf u) x) := by
    rw [rd_getElem (by rw [List.length_map, mvw_len]; omega), List.getElem_map, ← rd_getElem (by rw [mvw_len]; omega)]
  rw [e, mvw_rd M nf u x0 (by omega), mvw_rd M nf (u ++ v) x0 (by omega)]
  by_cases c : x < M
  · rw [if_pos c, if_pos c]
    have r := hm.run u x x0 c hu
    rw [mvw_rd M nf v r.1 (by omega), if_pos r.2, mrun_app]
  · rw [if_neg c, if_neg c, mvw_rd M nf v x0 (by omega), if_neg c]
theorem then_ev {u v : List Int} (hu : okW K u) {a b : Int × Int × Int × Int × Int × Int × Int} (ha : a = tup (mvw M nf u)) (hb : b = tup (mvw M nf v)) :
    Zw1.f a.1 a.2.1 a.2.2.1 a.2.2.2.1 a.2.2.2.2.1 a.2.2.2.2.2.1 a.2.2.2.2.2.2 b.1 b.2.1 b.2.2.1 b.2.2.2.1 b.2.2.2.2.1 b.2.2.2.2.2.1 b.2.2.2.2.2.2 = some (tup (mvw M nf (u ++ v))) := by
  subst ha; subst hb
  rw [← then_mvw hM0 hM1 hK hm hu]
  exact then_tup _ _ (mvw_len _ _ _) (mvw_len _ _ _) (mvw_rng hM0 hM1 hK hm hu)
theorem by_ev (g : Int) {s : Int} (c0 : 0 ≤ s) (c1 : s < K) : Ev (fun k => kinds_by.f k M K nf 0 g s) (tup (mvw M nf [s])) := by
  unfold kinds_by.f
  refine Ev.bind (a := mvw M nf [s]) ?_ (Ev.now _)
  refine Ev.loopc (σ := List Int) (L := fun k x t => kinds_by.l0 k x t M K nf 0 g s) (n := M)
    (fun i t => t.length = 7 ∧ ∀ x : Int, 0 ≤ x → x < 7 → rd t x = if x < i then mto nf x s else x) ?_ ?_ 0 [0, 1, 2, 3, 4, 5, 6] (Int.le_refl _) (by omega) ⟨rfl, fun x x0 x1 => ?_⟩
  · rintro t ⟨hl, ht⟩
    refine Ev.step (fun k => kinds_by.l0.eq_2 _ _ _ _ _ _ _ _ k) ?_
    refine Ev.neg (by omega) (Ev.val ?_)
    refine ext_rd (by rw [hl, mvw_len]) (fun x x0 x1 => ?_)
    rw [ht x x0 (by omega), mvw_rd M nf [s] x0 (by omega)]; rfl
  · rintro i t i0 i1 ⟨hl, ht⟩ hn
    have hr := hm.row i0 i1
    refine Ev.step (fun k => kinds_by.l0.eq_2 _ _ _ _ _ _ _ _ k) ?_
    rw [w64 (x := i + 1) (by omega) (by omega)]
    refine Ev.pos i1 (Ev.pos i0 (Ev.pos (by omega) (Ev.pos hr.2 (Ev.pos c0 (Ev.pos (by omega) (hn _ ⟨by rw [List.length_set]; exact hl, fun x x0 x1 => ?_⟩))))))
    by_cases e : x = i
    · subst e; rw [rd_set_eq _ _ _ x0 (by omega), if_pos (by omega)]; rfl
    · rw [rd_set_ne _ _ _ _ i0 x0 e, ht x x0 x1]
      by_cases c : x < i
      · rw [if_pos c, if_pos (by omega)]
      · rw [if_neg c, if_neg (by omega)]
  · rw [if_neg (by omega)]
    have := mvw_rd 0 nf [] x0 x1
    rw [if_neg (by omega)] at this
    exact this
end
section
variable {N K : Int} {next : List (List Int)} {st : Int} {f : Nat} {F : List Int} (hN0 : 1 ≤ N) (hN1 : N ≤ 7) (hK : 0 ≤ K ∧ K ≤ 3) (hm : okMach N K next) (hf : f < 2 ^ 32) (hF : Rep K next f N (N - 1).toNat F) (s0 : 0 ≤ st) (s1 : st < N)
  {Sf : List Int} {nf : List (List Int)} (hS : SmM N K next st F Sf nf)
include hN0 hN1 hK hm hf hF s0 s1 hS
theorem dw_mv {u v D E : List Int} (hu : okW K u) (hv : okW K v) (h : DW K next st N F u D) (g : DW K next st N F v E) : D = E ↔ mvw Sf.length nf u = mvw Sf.length nf v := by
  have := hS.le
  rw [h.eq_iff g, mvw_eq (by omega), key_eq hN0 hN1 hK hm hf hF s0 s1 hS hu hv]
end
def vw (t : S48) : List Int := [t.f0, t.f1, t.f2, t.f3, t.f4, t.f5, t.f6]
section
variable (M K : Int) (nf : List (List Int))
def stepW (W : List (List Int)) (w : List Int) : List (List Int) := if mvw M nf w ∈ W.map (mvw M nf) then W else W ++ [w]
def rowW (i : Int) (W : List (List Int)) : Nat → List (List Int)
  | 0 => W
  | c + 1 => stepW M nf (rowW i W c) (Ze (rowW i W c) i ++ [(c : Int)])
inductive AllW : Nat → List (List Int) → List (List Int) → Prop
  | done (i : Nat) (W : List (List Int)) : ¬ (i < W.length ∧ W.length ≤ 100) → AllW i W W
  | step (i : Nat) (W Wf : List (List Int)) : i < W.length → W.length ≤ 100 → AllW (i + 1) (rowW M nf i W K.toNat) Wf → AllW i W Wf
structure OkWs (L : Nat) (W : List (List Int)) : Prop where
  ok : ∀ w ∈ W, okW K w ∧ w.length ≤ L
  nd : (W.map (mvw M nf)).Nodup
theorem stepW_pre (W : List (List Int)) (w : List Int) : W <+: stepW M nf W w := by
  unfold stepW
  by_cases h : mvw M nf w ∈ W.map (mvw M nf)
  · rw [if_pos h]; exact List.prefix_refl _
  · rw [if_neg h]; exact List.prefix_append _ _
theorem rowW_pre (i : Int) (W : List (List Int)) : ∀ c, W <+: rowW M nf i W c
  | 0 => List.prefix_refl _
  | c + 1 => (rowW_pre i W c).trans (stepW_pre M nf _ _)
theorem stepW_len (W : List (List Int)) (w : List Int) : (stepW M nf W w).length ≤ W.length + 1 := by
  unfold stepW
  by_cases h : mvw M nf w ∈ W.map (mvw M nf)
  · rw [if_pos h]; omega
  · rw [if_neg h, List.length_append]; simp
theorem rowW_len (i : Int) (W : List (List Int)) : ∀ c, (rowW M nf i W c).length ≤ W.length + c
  | 0 => Nat.le_refl _
  | c + 1 => by
    have := rowW_len i W c
    have := stepW_len M nf (rowW M nf i W c) (Ze (rowW M nf i W c) i ++ [(c : Int)])
    show (stepW M nf _ _).length ≤ _
    omega
theorem rdL_pre {S T : List (List Int)} (h : S <+: T) {i : Int} (h1 : i.toNat < S.length) : Ze T i = Ze S i := by
  obtain ⟨r, rfl⟩ := h
  simp only [Ze, List.getD_eq_getElem?_getD]
  rw [List.getElem?_append_left h1]
variable {M K nf}
theorem OkWs.step {L : Nat} {W : List (List Int)} {w : List Int} (h : OkWs M K nf L W) (hw : okW K w) (hl : w.length ≤ L) : OkWs M K nf L (stepW M nf W w) := by
  unfold stepW
  by_cases c : mvw M nf w ∈ W.map (mvw M nf)
  · rw [if_pos c]; exact h
  · rw [if_neg c]
    refine ⟨fun v hv => ?_, ?_⟩
    · rcases List.mem_append.1 hv with hv | hv
      · exact h.ok v hv
      · rw [List.mem_singleton] at hv; subst hv; exact ⟨hw, hl⟩
    · rw [List.map_append, List.nodup_append]
      refine ⟨h.nd, by simp, fun a ha b hb => ?_⟩
      rw [List.map_singleton, List.mem_singleton] at hb; subst hb
      intro q; subst q; exact c ha
theorem OkWs.row {i : Nat} {W : List (List Int)} (h : OkWs M K nf i W) (hi : i < W.length) : ∀ c : Nat, (c : Int) ≤ K → OkWs M K nf (i + 1) (rowW M nf i W c)
  | 0, _ => ⟨fun w hw => ⟨(h.ok w hw).1, by have := (h.ok w hw).2; omega⟩, h.nd⟩
  | c + 1, hc => by
    have ih := OkWs.row h hi c (by omega)
    have hp := rowW_pre M nf i W c
    have e := rdL_pre hp (i := (i : Int)) (by rw [Int.toNat_natCast]; exact hi)
    have q := h.ok _ (rdL_mem (l := W) (i := (i : Int)) (by omega) (by omega))
    refine ih.step ?_ ?_
    · rw [e]; exact q.1.app (okW.one (by omega) (by omega))
    · rw [e, List.length_append, List.length_singleton]; omega
theorem AllW.ok {i : Nat} {W Wf : List (List Int)} (a : AllW M K nf i W Wf) (hK : 0 ≤ K) : OkWs M K nf i W → i ≤ 100 → OkWs M K nf 101 Wf := by
  induction a with
  | done i W h => intro o hi; exact ⟨fun w hw => ⟨(o.ok w hw).1, by have := (o.ok w hw).2; omega⟩, o.nd⟩
  | step i W Wf h1 h2 a ih =>
    intro o hi
    exact ih (o.row h1 K.toNat (by omega)) (by omega)
theorem AllW.len {i : Nat} {W Wf : List (List Int)} (a : AllW M K nf i W Wf) (hK : K ≤ 3) : W.length ≤ 103 → Wf.length ≤ 103 := by
  induction a with
  | done => exact id
  | step i W Wf h1 h2 a ih =>
    intro _
    have := rowW_len M nf i W K.toNat
    exact ih (by omega)
end
section
variable {M K : Int} {nf : List (List Int)} (hM0 : 1 ≤ M) (hM1 : M ≤ 7) (hK : 0 ≤ K ∧ K ≤ 3) (hm : okMach M K nf)
include hM0 hM1 hK hm
theorem index_mv (l : List S48) (hl : l.length ≤ 1000) (t : List Int) (ht : t.length = 7) : EvP (fun k => Zu1.f k l (rd t 0) (rd t 1) (rd t 2) (rd t 3) (rd t 4) (rd t 5) (rd t 6)) (fun r => r ≥ 0 ↔ t ∈ l.map vw) := by
  unfold Zu1.f
  have rdm : ∀ i : Int, 0 ≤ i → (h : i.toNat < l.length) → Zd l i = l[i.toNat] := fun i i0 h => by simp [Zd, List.getD_eq_getElem?_getD, List.getElem?_eq_getElem h]
  refine EvP.loop (σ := Unit) (L := fun k i _ => Zu1.l0 k l (l.length : Int) i (rd t 0) (rd t 1) (rd t 2) (rd t 3) (rd t 4) (rd t 5) (rd t 6)) (n := (l.length : Int))
    (fun i _ => ∀ j : Int, 0 ≤ j → j < i → vw (Zd l j) ≠ t) ?_ ?_ 0 () (Int.le_refl _) (by omega) (fun j a b => by omega)
  · intro _ h
    refine EvP.step (fun k => Zu1.l0.eq_2 _ _ _ _ _ _ _ _ _ _ k) ?_
    refine EvP.neg (by omega) (EvP.now ⟨fun q => by omega, fun q => ?_⟩)
    obtain ⟨y, hy, e⟩ := List.mem_map.1 q
    obtain ⟨a, ha, rfl⟩ := List.getElem_of_mem hy
    refine absurd e ?_
    have := h (a : Int) (by omega) (by omega)
    rwa [rdm (a : Int) (by omega) (by omega)] at this
  · intro i _ i0 i1 h hn
    refine EvP.step (fun k => Zu1.l0.eq_2 _ _ _ _ _ _ _ _ _ _ k) ?_
    rw [w64 (x := i + 1) (by omega) (by omega)]
    refine EvP.pos i1 (EvP.pos i0 (EvP.pos i1 ?_))
    by_cases c : t = vw (Zd l i)
    · refine EvP.pos ?_ (EvP.now ⟨fun _ => List.mem_map.2 ⟨_, ?_, c.symm⟩, fun _ => i0⟩)
      · rw [← seven ht] at c
        unfold vw at c
        simp only [List.cons.injEq, and_true] at c
        obtain ⟨a, b, d, e, f, g, h⟩ := c
        simp [a, b, d, e, f, g, h]
      · rw [rdm i i0 (by omega)]; exact List.getElem_mem _
    · refine EvP.neg ?_ (hn () (fun j a b => ?_))
      · intro q
        refine c ?_
        rw [← seven ht]
        unfold vw
        simpa using q
      · by_cases e : j = i
        · rw [e]; exact fun q => c q.symm
        · exact h j a (by omega)
theorem contains_mv (l : List S48) (hl : l.length ≤ 1000) (t : List Int) (ht : t.length = 7) : Ev (fun k => Zv1.f k l (rd t 0) (rd t 1) (rd t 2) (rd t 3) (rd t 4) (rd t 5) (rd t 6)) (decide (t ∈ l.map vw)) := by
  unfold Zv1.f
  refine EvP.ev (index_mv hM0 hM1 hK hm l hl t ht) (fun r hr => Ev.val ?_)
  exact decide_eq_decide.2 hr
theorem all_l0 (g : Int) : ∀ (d i : Nat) (W : List (List Int)) (l : List S48), OkWs M K nf i W → l.map vw = W.map (mvw M nf) → 101 ≤ i + d → i ≤ 101 → W.length ≤ 103 →
    EvP (fun k => Zy.l0 k 100 l (i : Int) M K nf 0 g) (fun r => ∃ Wf, AllW M K nf i W Wf ∧ r.map vw = Wf.map (mvw M nf)) := by
  intro d
  induction d with
  | zero =>
    intro i W l o e hd hi hlen
    have el : l.length = W.length := by have := congrArg List.length e; simpa using this
    refine EvP.step (fun k => Zy.l0.eq_2 _ _ _ _ _ _ _ _ k) ?_
    have fin : ∀ b : Bool, b = false → EvP (fun k => Zy.j1 k 100 l (i : Int) b M K nf 0 g) (fun r => ∃ Wf, AllW M K nf i W Wf ∧ r.map vw = Wf.map (mvw M nf)) := by
      rintro b rfl
      refine EvP.step (fun k => Zy.j1.eq_2 _ _ _ _ _ _ _ _ _ k) ?_
      exact EvP.neg (by simp) (EvP.now ⟨W, .done i W (by omega), e⟩)
    by_cases c : (i : Int) < (l.length : Int)
    · exact EvP.pos c (fin _ (decide_eq_false (by omega)))
    · exact EvP.neg c (fin _ rfl)
  | succ d ih =>
    intro i W l o e hd hi hlen
    have el : l.length = W.length := by have := congrArg List.length e; simpa using this
    refine EvP.step (fun k => Zy.l0.eq_2 _ _ _ _ _ _ _ _ k) ?_
    have fin : ¬ (i < W.length ∧ W.length ≤ 100) → ∀ b : Bool, b = false → EvP (fun k => Zy.j1 k 100 l (i : Int) b M K nf 0 g) (fun r => ∃ Wf, AllW M K nf i W Wf ∧ r.map vw = Wf.map (mvw M nf)) := by
      rintro h b rfl
      refine EvP.step (fun k => Zy.j1.eq_2 _ _ _ _ _ _ _ _ _ k) ?_
      exact EvP.neg (by simp) (EvP.now ⟨W, .done i W h, e⟩)
    by_cases c : (i : Int) < (l.length : Int)
    · refine EvP.pos c ?_
      by_cases c2 : (l.length : Int) ≤ 100
      · rw [decide_eq_true c2]
        refine EvP.step (fun k => Zy.j1.eq_2 _ _ _ _ _ _ _ _ _ k) ?_
        refine EvP.pos rfl ?_
        refine EvP.loop (σ := List S48) (L := fun k s l => Zy.l1 k 100 l (i : Int) K s M K nf 0 g) (n := K)
          (fun s l => l.map vw = (rowW M nf i W s.toNat).map (mvw M nf)) ?_ ?_ 0 l (Int.le_refl _) hK.1 e
        · intro l hl
          refine EvP.step (fun k => Zy.l1.eq_2 _ _ _ _ _ _ _ _ _ _ k) ?_
          rw [w64 (x := (i : Int) + 1) (by omega) (by omega)]
          have := rowW_len M nf i W K.toNat
          refine EvP.neg (by omega) ((ih (i + 1) _ l (o.row (by omega) K.toNat (by omega)) hl (by omega) (by omega) (by omega)).mono ?_)
          rintro r ⟨Wf, a, b⟩
          exact ⟨Wf, .step i W Wf (by omega) (by omega) a, b⟩
        · intro s l c0 c1 hl hn
          have hlen2 := rowW_len M nf i W s.toNat
          have hp := rowW_pre M nf i W s.toNat
          have hpl := hp.length_le
          have o2 := o.row (by omega) s.toNat (by omega)
          have er : rowW M nf i W (s + 1).toNat = stepW M nf (rowW M nf i W s.toNat) (Ze (rowW M nf i W s.toNat) i ++ [s]) := by
            rw [show (s + 1).toNat = s.toNat + 1 by omega]
            show stepW M nf (rowW M nf i W s.toNat) (Ze (rowW M nf i W s.toNat) i ++ [((s.toNat : Nat) : Int)]) = _
            rw [Int.toNat_of_nonneg c0]
          obtain ⟨P, hP⟩ : ∃ P, P = rowW M nf i W s.toNat := ⟨_, rfl⟩
          rw [← hP] at hlen2 hp hpl o2 er hl
          have ell : l.length = P.length := by have := congrArg List.length hl; simpa using this
          have ip : i < P.length := by omega
          have q := o2.ok _ (rdL_mem (l := P) (i := (i : Int)) (by omega) (by omega))
          have emv : vw (Zd l i) = mvw M nf (Ze P i) := by
            have a1 : Zd l (i : Int) = l[i]'(by omega) := by simp [Zd, List.getD_eq_getElem?_getD, List.getElem?_eq_getElem (show i < l.length by omega)]
            have a2 : Ze P (i : Int) = P[i] := by simp [Ze, List.getD_eq_getElem?_getD, List.getElem?_eq_getElem ip]
            have a3 : (l.map vw)[i]? = (P.map (mvw M nf))[i]? := by rw [hl]
            rw [List.getElem?_map, List.getElem?_map, List.getElem?_eq_getElem (show i < l.length by omega), List.getElem?_eq_getElem ip] at a3
            rw [a1, a2]
            simpa using a3
          have ht := then_ev hM0 hM1 hK hm (u := Ze P i) (v := [s]) q.1 rfl rfl
          refine EvP.step (fun k => Zy.l1.eq_2 _ _ _ _ _ _ _ _ _ _ k) ?_
          rw [w64 (x := s + 1) (by omega) (by omega)]
          refine EvP.pos c1 (EvP.pos (by omega) (EvP.pos (by omega) (EvP.bind (by_ev hM0 hM1 hK hm g c0 c1) ?_)))
          rw [← emv] at ht
          refine EvP.bind (a := tup (mvw M nf (Ze P i ++ [s]))) (Ev.congr (f := fun _ => some (tup (mvw M nf (Ze P i ++ [s])))) (fun k => ht) (Ev.now _)) ?_
          have hc := contains_mv hM0 hM1 hK hm l (by omega) (mvw M nf (Ze P i ++ [s])) (mvw_len _ _ _)
          refine EvP.bind hc ?_
          rw [hl]
          by_cases m : mvw M nf (Ze P i ++ [s]) ∈ P.map (mvw M nf)
          · rw [decide_eq_true m]
            refine EvP.pos rfl (hn l ?_)
            rw [er]; unfold stepW; rw [if_pos m]; exact hl
          · rw [decide_eq_false m]
            refine EvP.neg (by simp) (EvP.pos (by omega) (hn _ ?_))
            rw [er]; unfold stepW; rw [if_neg m, List.map_append, List.map_append, hl, List.map_singleton, List.map_singleton]
            congr 2
      · exact fin (by omega) _ (decide_eq_false c2)
    · exact EvP.neg c (fin (by omega) _ rfl)
theorem all_ev (g : Int) : EvP (fun k => Zy.f k M K nf 0 g 100) (fun r => ∃ Wf, AllW M K nf 0 [[]] Wf ∧ r.map vw = Wf.map (mvw M nf)) := by
  unfold Zy.f
  refine EvP.congr (fun k => by rw [still_eq M nf]) ?_
  refine all_l0 hM0 hM1 hK hm g 101 0 [[]] _ ⟨fun w hw => ?_, by simp⟩ ?_ (by omega) (by omega) (by simp)
  · rw [List.mem_singleton] at hw; subst hw; exact ⟨fun c hc => by simp at hc, by simp⟩
  · exact congrArg (fun x => [x]) (seven (mvw_len M nf []))
end
section
variable {N K : Int} {next : List (List Int)} {st : Int} {f : Nat} {F : List Int} (hN0 : 1 ≤ N) (hN1 : N ≤ 7) (hK : 0 ≤ K ∧ K ≤ 3) (hm : okMach N K next) (hf : f < 2 ^ 32) (hF : Rep K next f N (N - 1).toNat F) (s0 : 0 ≤ st) (s1 : st < N)
  {Sf : List Int} {nf : List (List Int)} (hS : SmM N K next st F Sf nf)
include hN0 hN1 hK hm hf hF s0 s1 hS
structure RelD (N K : Int) (next : List (List Int)) (st : Int) (F : List Int) (W D : List (List Int)) : Prop where
  len : D.length = W.length
  at_ : ∀ j : Int, 0 ≤ j → j < W.length → DW K next st N F (Ze W j) (Ze D j)
theorem rkinds_l2 {W D : List (List Int)} {w d : List Int} {i s : Int} {r : List (List Int)} (hr : RelD N K next st F W D) (hw : ∀ v ∈ W, okW K v) (hwk : okW K w) (hd : DW K next st N F w d) (hlen : W.length ≤ 1000) (c0 : 0 ≤ s) (c1 : s < K)
    (hy : Ev (fun k => Zt.l1 k 100 (stepW Sf.length nf W w) (if mvw Sf.length nf w ∈ W.map (mvw Sf.length nf) then D else D ++ [d]) i (s + 1) N K next st (f : Int)) r) :
    Ev (fun k => Zt.l2 k 100 W D i s w d true (D.length : Int) 0 N K next st (f : Int)) r := by
  have hl := hr.len
  have dl := hd.len
  refine Ev.loopc (σ := Bool) (L := fun k j b => Zt.l2 k 100 W D i s w d b (D.length : Int) j N K next st (f : Int)) (n := (D.length : Int))
    (fun j b => b = true ↔ ∀ x : Int, 0 ≤ x → x < j → mvw Sf.length nf (Ze W x) ≠ mvw Sf.length nf w) ?_ ?_ 0 true (Int.le_refl _) (by omega) ⟨fun _ x a b => by omega, fun _ => rfl⟩
  · intro b hb
    refine Ev.step (fun k => Zt.l2.eq_2 _ _ _ _ _ _ _ _ _ _ _ _ _ _ _ k) ?_
    rw [w64 (x := s + 1) (by omega) (by omega)]
    refine Ev.neg (by omega) ?_
    unfold stepW at hy
    have hmem : mvw Sf.length nf w ∈ W.map (mvw Sf.length nf) ↔ ¬ ∀ x : Int, 0 ≤ x → x < D.length → mvw Sf.length nf (Ze W x) ≠ mvw Sf.length nf w := by
      constructor
      · intro q h
        obtain ⟨y, hy, e⟩ := List.mem_map.1 q
        obtain ⟨a, ha, rfl⟩ := List.getElem_of_mem hy
        have := h (a : Int) (by omega) (by omega)
        have e1 : Ze W (a : Int) = W[a] := by simp [Ze, List.getD_eq_getElem?_getD, List.getElem?_eq_getElem ha]
        rw [e1] at this; exact this e
      · intro h
        apply Classical.byContradiction
        intro q
        exact h (fun x x0 x1 e => q (List.mem_map.2 ⟨_, rdL_mem x0 (by omega), e⟩))
    by_cases c : b = true
    · have m : ¬ mvw Sf.length nf w ∈ W.map (mvw Sf.length nf) := fun q => hmem.1 q (hb.1 c)
      rw [if_neg m, if_neg m] at hy
      exact Ev.pos c (Ev.pos (by omega) (Ev.pos (by omega) hy))
    · have m : mvw Sf.length nf w ∈ W.map (mvw Sf.length nf) := hmem.2 (fun q => c (hb.2 q))
      rw [if_pos m, if_pos m] at hy
      exact Ev.neg c hy
  · intro j b j0 j1 hb hn
    refine Ev.step (fun k => Zt.l2.eq_2 _ _ _ _ _ _ _ _ _ _ _ _ _ _ _ k) ?_
    rw [w64 (x := j + 1) (by omega) (by omega)]
    refine Ev.pos j1 (Ev.pos j0 (Ev.pos j1 ?_))
    have dj := hr.at_ j j0 (by omega)
    by_cases c : b = true
    · refine Ev.pos c (Ev.bind (Ints_ev _ _ (by have := dj.len; omega)) (hn _ ?_))
      rw [Bool.not_eq_true', decide_eq_false_iff_not, dw_mv hN0 hN1 hK hm hf hF s0 s1 hS (hw _ (rdL_mem j0 (by omega))) hwk dj hd]
      constructor
      · intro h x x0 x1
        by_cases e : x = j
        · rw [e]; exact h
        · exact hb.1 c x x0 (by omega)
      · intro h; exact h j j0 (by omega)
    · refine Ev.neg c (hn false ⟨fun q => (by cases q), fun q => absurd (hb.2 (fun x x0 x1 => q x x0 (by omega))) c⟩)
theorem rkinds_l0 {i : Nat} {W Wf : List (List Int)} (a : AllW (Sf.length : Int) K nf i W Wf) : ∀ D, RelD N K next st F W D → OkWs (Sf.length : Int) K nf i W → W.length ≤ 103 → i ≤ 100 →
    Ev (fun k => Zt.l0 k 100 W D (i : Int) N K next st (f : Int)) Wf := by
  induction a with
  | done i W h =>
    intro D hr o hlen hi
    have fin : ∀ b : Bool, b = false → Ev (fun k => Zt.j1 k 100 W D (i : Int) b N K next st (f : Int)) W := by
      rintro b rfl
      refine Ev.step (fun k => Zt.j1.eq_2 _ _ _ _ _ _ _ _ _ _ k) ?_
      exact Ev.neg (by simp) (Ev.now _)
    refine Ev.step (fun k => Zt.l0.eq_2 _ _ _ _ _ _ _ _ _ k) ?_
    by_cases c : (i : Int) < (W.length : Int)
    · exact Ev.pos c (fin _ (decide_eq_false (by omega)))
    · exact Ev.neg c (fin _ rfl)
  | step i W Wf h1 h2 a ih =>
    intro D hr o hlen hi
    refine Ev.step (fun k => Zt.l0.eq_2 _ _ _ _ _ _ _ _ _ k) ?_
    refine Ev.pos (by omega) ?_
    rw [decide_eq_true (show (W.length : Int) ≤ 100 by omega)]
    refine Ev.step (fun k => Zt.j1.eq_2 _ _ _ _ _ _ _ _ _ _ k) ?_
    refine Ev.pos rfl ?_
    refine Ev.loopc (σ := List (List Int) × List (List Int)) (L := fun k s p => Zt.l1 k 100 p.1 p.2 (i : Int) s N K next st (f : Int)) (n := K)
      (fun s p => p.1 = rowW Sf.length nf i W s.toNat ∧ RelD N K next st F p.1 p.2) ?_ ?_ 0 (W, D) (Int.le_refl _) hK.1 ⟨rfl, hr⟩
    · rintro ⟨P, D2⟩ ⟨hP, hr2⟩
      dsimp only at hP hr2 ⊢
      subst hP
      have := rowW_len Sf.length nf i W K.toNat
      refine Ev.step (fun k => Zt.l1.eq_2 _ _ _ _ _ _ _ _ _ _ k) ?_
      rw [w64 (x := (i : Int) + 1) (by omega) (by omega)]
      by_cases c : i + 1 ≤ 100
      · exact Ev.neg (by omega) (ih D2 hr2 (o.row h1 K.toNat (by omega)) (by omega) c)
      · refine Ev.neg (by omega) (ih D2 hr2 (o.row h1 K.toNat (by omega)) (by omega) ?_)
        omega
    · rintro s ⟨P, D2⟩ c0 c1 ⟨hP, hr2⟩ hn
      dsimp only at hP hr2 ⊢
      have hlen2 := rowW_len Sf.length nf i W s.toNat
      have hp := rowW_pre Sf.length nf i W s.toNat
      have hpl := hp.length_le
      have o2 := o.row h1 s.toNat (by omega)
      have er : rowW Sf.length nf i W (s + 1).toNat = stepW Sf.length nf (rowW Sf.length nf i W s.toNat) (Ze (rowW Sf.length nf i W s.toNat) i ++ [s]) := by
        rw [show (s + 1).toNat = s.toNat + 1 by omega]
        show stepW Sf.length nf (rowW Sf.length nf i W s.toNat) (Ze (rowW Sf.length nf i W s.toNat) i ++ [((s.toNat : Nat) : Int)]) = _
        rw [Int.toNat_of_nonneg c0]
      rw [← hP] at hlen2 hp hpl o2 er
      have q := o2.ok _ (rdL_mem (l := P) (i := (i : Int)) (by omega) (by omega))
      have hw2 : okW K (Ze P i ++ [s]) := q.1.app (okW.one c0 c1)
      have hl2 : (Ze P i ++ [s]).length ≤ 1000000 := by rw [List.length_append, List.length_singleton]; omega
      refine Ev.step (fun k => Zt.l1.eq_2 _ _ _ _ _ _ _ _ _ _ k) ?_
      refine Ev.pos c1 ?_
      simp only [Option.bind_some, List.nil_append, List.length_nil]
      refine Ev.pos (by omega) (Ev.pos (by omega) (Ev.pos (by omega) (Ev.pos (by omega) ?_)))
      refine EvP.ev (does_ev hN0 hN1 hK hm hf hF s0 s1 hl2 hw2) (fun d hd => ?_)
      refine rkinds_l2 hN0 hN1 hK hm hf hF s0 s1 hS hr2 (fun v hv => (o2.ok v hv).1) hw2 hd (by omega) c0 c1 ?_
      have hrel : RelD N K next st F (stepW Sf.length nf P (Ze P i ++ [s])) (if mvw Sf.length nf (Ze P i ++ [s]) ∈ P.map (mvw Sf.length nf) then D2 else D2 ++ [d]) := by
        unfold stepW
        by_cases m : mvw Sf.length nf (Ze P i ++ [s]) ∈ P.map (mvw Sf.length nf)
        · rw [if_pos m, if_pos m]; exact hr2
        · rw [if_neg m, if_neg m]
          have hl := hr2.len
          refine ⟨by simp [hl], fun j j0 j1 => ?_⟩
          rw [rdLI_app P _ j j0 (by rw [List.length_append, List.length_singleton] at j1; omega), rdLI_app D2 _ j j0 (by rw [List.length_append, List.length_singleton] at j1; omega), hl]
          by_cases e : j = P.length
          · rw [if_pos e, if_pos e]; exact hd
          · rw [if_neg e, if_neg e]
            exact hr2.at_ j j0 (by rw [List.length_append, List.length_singleton] at j1; omega)
      exact hn (_, _) ⟨er.symm, hrel⟩
theorem rkinds_ev {Wf : List (List Int)} (a : AllW (Sf.length : Int) K nf 0 [[]] Wf) : Ev (fun k => Zt.f k N K next st (f : Int) 100) Wf := by
  unfold Zt.f
  refine EvP.ev (does_ev hN0 hN1 hK hm hf hF s0 s1 (w := []) (by simp) (fun c hc => by simp at hc)) (fun d hd => ?_)
  refine rkinds_l0 hN0 hN1 hK hm hf hF s0 s1 hS a [d] ⟨rfl, fun j j0 j1 => ?_⟩ ⟨fun w hw => ?_, by simp⟩ (by simp) (by omega)
  · obtain rfl : j = 0 := by simp at j1; omega
    exact hd
  · rw [List.mem_singleton] at hw; subst hw; exact ⟨fun c hc => by simp at hc, by simp⟩
end
theorem kinds_ev {N K : Int} {next : List (List Int)} {st : Int} {f : Nat} (n0 : 1 ≤ N) (n1 : N ≤ 7) (hK : 0 ≤ K ∧ K ≤ 3) (hm : okMach N K next) (hf32 : f < 2 ^ 32) (s0 : 0 ≤ st) (s1 : st < N) (c1 : Ev (fun k => Zz.f k N K next st (f : Int)) 0) :
    EvP (fun k => kinds_kinds.f k N K next st (f : Int)) (fun r => ∃ F Sf nf Wf, Rep K next f N (N - 1).toNat F ∧ SmM N K next st F Sf nf ∧ AllW (Sf.length : Int) K nf 0 [[]] Wf ∧
      (100 < Wf.length ∧ r = ([], 1) ∨ Wf.length ≤ 100 ∧ r.2 = 0 ∧ r.1.map vw = Wf.map (mvw Sf.length nf))) := by
  unfold kinds_kinds.f
  refine EvP.bind c1 (EvP.pos rfl (EvP.bindP (SmallM_ev n0 n1 hK hm hf32 s0 s1) ?_))
  rintro _ ⟨F, Sf, nf, hF, b, o, rfl⟩
  have hS := smM n0 n1 hK hm hf32 hF s0 s1 b o
  have h7 := hS.le
  have h1 := hS.pos
  refine EvP.bindP (all_ev (by omega) (by omega) hK hS.mach _) ?_
  rintro l ⟨Wf, a, e⟩
  have el : l.length = Wf.length := by have := congrArg List.length e; simpa using this
  by_cases c : (l.length : Int) > 100
  · exact EvP.pos c (EvP.now ⟨F, Sf, nf, Wf, hF, hS, a, .inl ⟨by omega, rfl⟩⟩)
  · exact EvP.neg c (EvP.now ⟨F, Sf, nf, Wf, hF, hS, a, .inr ⟨by omega, rfl, e⟩⟩)
def pw (w : List Int) : Nat → List Int
  | 0 => []
  | n + 1 => pw w n ++ w
theorem pw_len {w : List Int} (h : w.length ≤ 101) : ∀ n, (pw w n).length ≤ 101 * n
  | 0 => Nat.le_refl _
  | n + 1 => by
    have := pw_len h n
    show (pw w n ++ w).length ≤ _
    rw [List.length_append]; omega
theorem pw_ok {K : Int} {w : List Int} (h : okW K w) : ∀ n, okW K (pw w n)
  | 0 => fun c hc => by cases hc
  | n + 1 => (pw_ok h n).app h
theorem again_ev (w : List Int) (h : w.length ≤ 101) (n : Nat) (hn : n ≤ 200) : Ev (fun k => Zr1.f k w (n : Int)) (pw w n) := by
  unfold Zr1.f
  refine Ev.loopc (σ := List Int) (L := fun k i o => Zr1.l0 k w (n : Int) o i) (n := (n : Int)) (fun i o => o = pw w i.toNat) ?_ ?_ 0 [] (Int.le_refl _) (by omega) rfl
  · rintro o rfl
    refine Ev.step (fun k => Zr1.l0.eq_2 _ _ _ _ k) ?_
    exact Ev.neg (by omega) (Ev.val (by rw [Int.toNat_natCast]))
  · rintro i o i0 i1 rfl hn2
    have := pw_len h i.toNat
    refine Ev.step (fun k => Zr1.l0.eq_2 _ _ _ _ k) ?_
    rw [w64 (x := i + 1) (by omega) (by omega)]
    refine Ev.pos i1 (Ev.pos (by omega) (hn2 _ ?_))
    rw [show (i + 1).toNat = i.toNat + 1 by omega]; rfl
section
variable (M K : Int) (nf : List (List Int))
theorem stepW_has (W : List (List Int)) (w : List Int) : mvw M nf w ∈ (stepW M nf W w).map (mvw M nf) := by
  unfold stepW
  by_cases h : mvw M nf w ∈ W.map (mvw M nf)
  · rw [if_pos h]; exact h
  · rw [if_neg h]; simp
theorem mem_pre {W V : List (List Int)} (h : W <+: V) {x : List Int} (hx : x ∈ W.map (mvw M nf)) : x ∈ V.map (mvw M nf) := by
  obtain ⟨r, rfl⟩ := h
  rw [List.map_append]; exact List.mem_append.2 (.inl hx)
theorem rowW_has {i : Nat} {W : List (List Int)} (hi : i < W.length) : ∀ (c : Nat) (x : Nat), x < c → mvw M nf (Ze W i ++ [(x : Int)]) ∈ (rowW M nf i W c).map (mvw M nf)
  | 0, x, h => by omega
  | c + 1, x, h => by
    have hp := rowW_pre M nf i W c
    have e := rdL_pre hp (i := (i : Int)) (by rw [Int.toNat_natCast]; exact hi)
    show _ ∈ (stepW M nf (rowW M nf i W c) (Ze (rowW M nf i W c) i ++ [(c : Int)])).map (mvw M nf)
    by_cases q : x = c
    · subst q; rw [← e]; exact stepW_has M nf _ _
    · exact mem_pre M nf (stepW_pre M nf _ _) (rowW_has hi c x (by omega))
variable {M K nf}
theorem AllW.pre {i : Nat} {W Wf : List (List Int)} (a : AllW M K nf i W Wf) : W <+: Wf := by
  induction a with
  | done => exact List.prefix_refl _
  | step i W Wf _ _ _ ih => exact (rowW_pre M nf i W _).trans ih
theorem AllW.closed {i : Nat} {W Wf : List (List Int)} (a : AllW M K nf i W Wf) (hf : Wf.length ≤ 100) : i ≤ W.length → (∀ j : Nat, j < i → ∀ c : Nat, (c : Int) < K → mvw M nf (Ze W j ++ [(c : Int)]) ∈ W.map (mvw M nf)) →
    ∀ j : Nat, j < Wf.length → ∀ c : Nat, (c : Int) < K → mvw M nf (Ze Wf j ++ [(c : Int)]) ∈ Wf.map (mvw M nf) := by
  induction a with
  | done i W h => intro hi h2 j hj; exact h2 j (by omega)
  | step i W Wf h1 h2 a ih =>
    intro hi h j
    have hp := rowW_pre M nf i W K.toNat
    have hpl := hp.length_le
    refine ih hf (by omega) (fun j hj c hc => ?_) j
    rw [rdL_pre hp (i := (j : Int)) (by rw [Int.toNat_natCast]; omega)]
    by_cases q : j = i
    · subst q; exact rowW_has M nf h1 K.toNat c (by omega)
    · exact mem_pre M nf hp (h j (by omega) c hc)
theorem AllW.every {Wf : List (List Int)} (a : AllW M K nf 0 [[]] Wf) (hf : Wf.length ≤ 100) (h7 : M ≤ 7) : ∀ (w u : List Int), okW K w → mvw M nf u ∈ Wf.map (mvw M nf) → mvw M nf (u ++ w) ∈ Wf.map (mvw M nf)
  | [], u, _, h => by rw [List.append_nil]; exact h
  | c :: w, u, hw, h => by
    have hc := hw c (by simp)
    obtain ⟨v, hv, e⟩ := List.mem_map.1 h
    obtain ⟨j, hj, rfl⟩ := List.getElem_of_mem hv
    have q := a.closed hf (by simp) (fun j hj => by omega) j hj c.toNat (by omega)
    have e1 : Ze Wf (j : Int) = Wf[j] := by simp [Ze, List.getD_eq_getElem?_getD, List.getElem?_eq_getElem hj]
    rw [e1, Int.toNat_of_nonneg hc.1, mvw_app h7 e] at q
    have := AllW.every a hf h7 w (u ++ [c]) (fun x hx => hw x (by simp [hx])) q
    rwa [List.append_assoc] at this
end
theorem nodupW_le : ∀ (a b : List (List Int)), a.Nodup → (∀ x ∈ a, x ∈ b) → a.length ≤ b.length
  | [], b, _, _ => Nat.zero_le _
  | x :: a, b, hd, h => by
    have hd2 := List.nodup_cons.1 hd
    have hx := h x (by simp)
    have := nodupW_le a (b.erase x) hd2.2 (fun y hy => (List.mem_erase_of_ne (fun q => hd2.1 (by rw [← q]; exact hy))).2 (h y (by simp [hy])))
    rw [List.length_erase_of_mem hx] at this
    have := List.length_pos_of_mem hx
    rw [List.length_cons]; omega
theorem pw_same {M K : Int} {nf : List (List Int)} {Wf : List (List Int)} (a : AllW M K nf 0 [[]] Wf) (hf : Wf.length ≤ 100) (h7 : M ≤ 7) {w : List Int} (hw : okW K w) :
    mvw M nf (pw w Wf.length) = mvw M nf (pw w (Wf.length + 1)) ↔ mvw M nf (pw w (Wf.length + 1)) = mvw M nf (pw w (Wf.length + 1 + 1)) := by
  have up : ∀ i j : Nat, mvw M nf (pw w i) = mvw M nf (pw w j) → ∀ d, mvw M nf (pw w (i + d)) = mvw M nf (pw w (j + d)) := by
    intro i j h d
    induction d with
    | zero => exact h
    | succ d ih => exact mvw_app (w := w) h7 ih
  constructor
  · intro h; exact up _ _ h 1
  · intro h
    have hall : ∀ k : Nat, mvw M nf (pw w k) ∈ Wf.map (mvw M nf) := by
      intro k
      have h0 : mvw M nf [] ∈ Wf.map (mvw M nf) := mem_pre M nf a.pre (by simp)
      have := a.every hf h7 (pw w k) [] (pw_ok hw k) h0
      simpa using this
    have hij : ∃ i j : Nat, i < j ∧ j ≤ Wf.length ∧ mvw M nf (pw w i) = mvw M nf (pw w j) := by
      apply Classical.byContradiction
      intro q
      have nd : ((List.range (Wf.length + 1)).map (fun k => mvw M nf (pw w k))).Nodup := by
        unfold List.Nodup
        rw [List.pairwise_iff_getElem]
        intro i j hi hj hlt
        rw [List.length_map, List.length_range] at hi hj
        rw [List.getElem_map, List.getElem_map, List.getElem_range, List.getElem_range]
        exact fun e => q ⟨i, j, hlt, by omega, e⟩
      have := nodupW_le _ (Wf.map (mvw M nf)) nd (fun x hx => by
        obtain ⟨k, _, rfl⟩ := List.mem_map.1 hx
        exact hall k)
      rw [List.length_map, List.length_range, List.length_map] at this
      omega
    obtain ⟨i, j, hlt, hj, e⟩ := hij
    have stay : ∀ d : Nat, mvw M nf (pw w (Wf.length + 1)) = mvw M nf (pw w (Wf.length + 1 + d)) := by
      intro d
      induction d with
      | zero => rfl
      | succ d ih =>
        have := up _ _ h d
        rw [ih, show Wf.length + 1 + (d + 1) = Wf.length + 1 + 1 + d by omega]
        exact this
    have e1 := up i j e (Wf.length - i)
    rw [show i + (Wf.length - i) = Wf.length by omega, show j + (Wf.length - i) = Wf.length + 1 + (j - i - 1) by omega, ← stay] at e1
    exact e1
section
variable {N K : Int} {next : List (List Int)} {st : Int} {f : Nat} {F : List Int} (hN0 : 1 ≤ N) (hN1 : N ≤ 7) (hK : 0 ≤ K ∧ K ≤ 3) (hm : okMach N K next) (hf : f < 2 ^ 32) (hF : Rep K next f N (N - 1).toNat F) (s0 : 0 ≤ st) (s1 : st < N)
  {Sf : List Int} {nf : List (List Int)} (hS : SmM N K next st F Sf nf) {Wf : List (List Int)} (a : AllW (Sf.length : Int) K nf 0 [[]] Wf) (h100 : Wf.length ≤ 100)
include hN0 hN1 hK hm hf hF s0 s1 hS a h100
theorem still_ref {R : Bool} (hR : R = true ↔ ∀ j : Int, 0 ≤ j → j < Wf.length → mvw Sf.length nf (pw (Ze Wf j) Wf.length) = mvw Sf.length nf (pw (Ze Wf j) (Wf.length + 1))) :
    Ev (fun k => Zh1.f k N K next st (f : Int) Wf) R := by
  have ok := a.ok hK.1 ⟨fun w hw => (by rw [List.mem_singleton] at hw; subst hw; exact ⟨fun c hc => (by cases hc), by simp⟩), by simp⟩ (by omega)
  unfold Zh1.f
  refine Ev.loopc (σ := Unit) (L := fun k j _ => Zh1.l0 k Wf Wf (Wf.length : Int) j N K next st (f : Int)) (n := (Wf.length : Int))
    (fun i _ => ∀ j : Int, 0 ≤ j → j < i → mvw Sf.length nf (pw (Ze Wf j) Wf.length) = mvw Sf.length nf (pw (Ze Wf j) (Wf.length + 1))) ?_ ?_ 0 () (Int.le_refl _) (by omega) (fun j p q => by omega)
  · intro _ h
    refine Ev.step (fun k => Zh1.l0.eq_2 _ _ _ _ _ _ _ _ _ k) ?_
    exact Ev.neg (by omega) (Ev.val (hR.2 h).symm)
  · intro i _ i0 i1 h hn
    have q := ok.ok _ (rdL_mem (l := Wf) i0 i1)
    have p1 := pw_len q.2 Wf.length
    have p2 := pw_len q.2 (Wf.length + 1)
    obtain ⟨d1, h1, e1⟩ := does_ev hN0 hN1 hK hm hf hF s0 s1 (w := pw (Ze Wf i) Wf.length) (by omega) (pw_ok q.1 _)
    obtain ⟨d2, h2, e2⟩ := does_ev hN0 hN1 hK hm hf hF s0 s1 (w := pw (Ze Wf i) (Wf.length + 1)) (by omega) (pw_ok q.1 _)
    have key := dw_mv hN0 hN1 hK hm hf hF s0 s1 hS (pw_ok q.1 _) (pw_ok q.1 _) h1 h2
    refine Ev.step (fun k => Zh1.l0.eq_2 _ _ _ _ _ _ _ _ _ k) ?_
    rw [w64 (x := i + 1) (by omega) (by omega), w64 (x := (Wf.length : Int) + 1) (by omega) (by omega), show (Wf.length : Int) + 1 = ((Wf.length + 1 : Nat) : Int) by omega]
    refine Ev.pos i1 (Ev.pos i0 (Ev.pos i1 (Ev.bind (again_ev _ q.2 _ (by omega)) (Ev.bind e1 (Ev.bind (again_ev _ q.2 _ (by omega)) (Ev.bind e2 (Ev.bind (Ints_ev _ _ (by have := h1.len; omega)) ?_)))))))
    by_cases c : d1 = d2
    · refine Ev.pos (decide_eq_true c) (hn () (fun j j0 j1 => ?_))
      by_cases e : j = i
      · rw [e]; exact key.1 c
      · exact h j j0 (by omega)
    · refine Ev.neg (by simpa using c) (Ev.val ?_)
      exact (Bool.eq_false_iff.2 (fun z => c (key.2 (hR.1 z i i0 i1)))).symm
theorem still_prog {l : List S48} (hl : l.map vw = Wf.map (mvw Sf.length nf)) {R : Bool} (hR : R = true ↔ ∀ j : Int, 0 ≤ j → j < Wf.length → mvw Sf.length nf (pw (Ze Wf j) Wf.length) = mvw Sf.length nf (pw (Ze Wf j) (Wf.length + 1))) :
    Ev (fun k => Zj1.l0 k l (l.length : Int) 0) (R, 0) := by
  have ok := a.ok hK.1 ⟨fun w hw => (by rw [List.mem_singleton] at hw; subst hw; exact ⟨fun c hc => (by cases hc), by simp⟩), by simp⟩ (by omega)
  have el : l.length = Wf.length := by have := congrArg List.length hl; simpa using this
  have h7 := hS.le
  have h1 := hS.pos
  refine Ev.loopc (σ := Unit) (L := fun k j _ => Zj1.l0 k l (l.length : Int) j) (n := (l.length : Int))
    (fun i _ => ∀ j : Int, 0 ≤ j → j < i → mvw Sf.length nf (pw (Ze Wf j) Wf.length) = mvw Sf.length nf (pw (Ze Wf j) (Wf.length + 1))) ?_ ?_ 0 () (Int.le_refl _) (by omega) (fun j p q => by omega)
  · intro _ h
    refine Ev.step (fun k => Zj1.l0.eq_2 _ _ _ k) ?_
    refine Ev.neg (by omega) (Ev.val ?_)
    rw [hR.2 (fun j p q => h j p (by omega))]
  · intro i _ i0 i1 h hn
    have q := ok.ok _ (rdL_mem (l := Wf) i0 (by omega))
    have emv : vw (Zd l i) = mvw Sf.length nf (Ze Wf i) := by
      have a1 : Zd l i = l[i.toNat]'(by omega) := by simp [Zd, List.getD_eq_getElem?_getD, List.getElem?_eq_getElem (show i.toNat < l.length by omega)]
      have a2 : Ze Wf i = Wf[i.toNat]'(by omega) := by simp [Ze, List.getD_eq_getElem?_getD, List.getElem?_eq_getElem (show i.toNat < Wf.length by omega)]
      have a3 : (l.map vw)[i.toNat]? = (Wf.map (mvw Sf.length nf))[i.toNat]? := by rw [hl]
      rw [List.getElem?_map, List.getElem?_map, List.getElem?_eq_getElem (show i.toNat < l.length by omega), List.getElem?_eq_getElem (show i.toNat < Wf.length by omega)] at a3
      rw [a1, a2]
      simpa using a3
    obtain ⟨w, hw⟩ : ∃ w, w = Ze Wf i := ⟨_, rfl⟩
    obtain ⟨t, ht⟩ : ∃ t, t = Zd l i := ⟨_, rfl⟩
    rw [← hw] at q emv
    rw [← ht] at emv
    have key := pw_same a h100 (by omega) q.1
    refine Ev.step (fun k => Zj1.l0.eq_2 _ _ _ k) ?_
    refine Ev.pos i1 (Ev.pos i0 (Ev.pos i1 ?_))
    rw [← ht]
    have pw1 : mvw Sf.length nf (pw w 1) = vw t := by rw [emv]; rfl
    have thn : ∀ n : Nat, Zw1.f (tup (mvw Sf.length nf (pw w n))).1 (tup (mvw Sf.length nf (pw w n))).2.1 (tup (mvw Sf.length nf (pw w n))).2.2.1 (tup (mvw Sf.length nf (pw w n))).2.2.2.1 (tup (mvw Sf.length nf (pw w n))).2.2.2.2.1 (tup (mvw Sf.length nf (pw w n))).2.2.2.2.2.1 (tup (mvw Sf.length nf (pw w n))).2.2.2.2.2.2 t.f0 t.f1 t.f2 t.f3 t.f4 t.f5 t.f6 = some (tup (mvw Sf.length nf (pw w (n + 1)))) := by
      intro n
      have := then_ev (M := (Sf.length : Int)) (nf := nf) (by omega) (by omega) hK hS.mach (u := pw w n) (v := w) (pw_ok q.1 n) rfl rfl
      rw [← emv] at this
      exact this
    refine Ev.loopc (σ := Int × Int × Int × Int × Int × Int × Int) (L := fun k c x => Zj1.l1 k l (l.length : Int) i (l.length : Int) c t.f0 t.f1 t.f2 t.f3 t.f4 t.f5 t.f6 x.1 x.2.1 x.2.2.1 x.2.2.2.1 x.2.2.2.2.1 x.2.2.2.2.2.1 x.2.2.2.2.2.2) (n := (l.length : Int))
      (fun c x => x = tup (mvw Sf.length nf (pw w (c.toNat + 1)))) ?_ ?_ 0 (t.f0, t.f1, t.f2, t.f3, t.f4, t.f5, t.f6) (Int.le_refl _) (by omega) ?_
    · rintro x rfl
      rw [Int.toNat_natCast, el]
      refine Ev.step (fun k => Zj1.l1.eq_2 _ _ _ _ _ _ _ _ _ _ _ _ _ _ _ _ _ _ _ k) ?_
      rw [w64 (x := i + 1) (by omega) (by omega)]
      refine Ev.neg (by omega) ?_
      refine Ev.bind (a := tup (mvw Sf.length nf (pw w (Wf.length + 1 + 1)))) (Ev.congr (f := fun _ => some _) (fun k => thn (Wf.length + 1)) (Ev.now _)) ?_
      have cmp : (!((tup (mvw Sf.length nf (pw w (Wf.length + 1 + 1)))).1 == (tup (mvw Sf.length nf (pw w (Wf.length + 1)))).1) || (!((tup (mvw Sf.length nf (pw w (Wf.length + 1 + 1)))).2.1 == (tup (mvw Sf.length nf (pw w (Wf.length + 1)))).2.1) || (!((tup (mvw Sf.length nf (pw w (Wf.length + 1 + 1)))).2.2.1 == (tup (mvw Sf.length nf (pw w (Wf.length + 1)))).2.2.1) || (!((tup (mvw Sf.length nf (pw w (Wf.length + 1 + 1)))).2.2.2.1 == (tup (mvw Sf.length nf (pw w (Wf.length + 1)))).2.2.2.1) || (!((tup (mvw Sf.length nf (pw w (Wf.length + 1 + 1)))).2.2.2.2.1 == (tup (mvw Sf.length nf (pw w (Wf.length + 1)))).2.2.2.2.1) || (!((tup (mvw Sf.length nf (pw w (Wf.length + 1 + 1)))).2.2.2.2.2.1 == (tup (mvw Sf.length nf (pw w (Wf.length + 1)))).2.2.2.2.2.1) || (!((tup (mvw Sf.length nf (pw w (Wf.length + 1 + 1)))).2.2.2.2.2.2 == (tup (mvw Sf.length nf (pw w (Wf.length + 1)))).2.2.2.2.2.2)))))))) = true ↔ mvw Sf.length nf (pw w (Wf.length + 1 + 1)) ≠ mvw Sf.length nf (pw w (Wf.length + 1)) := by
        rw [Ne, ← seven (mvw_len Sf.length nf (pw w (Wf.length + 1 + 1))), ← seven (mvw_len Sf.length nf (pw w (Wf.length + 1)))]
        simp only [tup, List.cons.injEq, and_true, Bool.or_eq_true, Bool.not_eq_true', beq_eq_false_iff_ne, ne_eq, rd, List.getD_eq_getElem?_getD]
        simp
        omega
      by_cases c : mvw Sf.length nf (pw w (Wf.length + 1)) = mvw Sf.length nf (pw w (Wf.length + 1 + 1))
      · refine Ev.neg (fun z => cmp.1 z c.symm) ?_
        rw [← el]
        refine hn () (fun j j0 j1 => ?_)
        by_cases e : j = i
        · rw [e, ← hw]; exact key.2 c
        · exact h j j0 (by omega)
      · refine Ev.pos (cmp.2 (fun z => c z.symm)) (Ev.val ?_)
        have : R = false := Bool.eq_false_iff.2 (fun z => c (key.1 (by have := hR.1 z i i0 (by omega); rwa [← hw] at this)))
        rw [this]
    · rintro c x c0 c1 rfl hn2
      refine Ev.step (fun k => Zj1.l1.eq_2 _ _ _ _ _ _ _ _ _ _ _ _ _ _ _ _ _ _ _ k) ?_
      rw [w64 (x := c + 1) (by omega) (by omega)]
      refine Ev.pos c1 (Ev.bind (a := tup (mvw Sf.length nf (pw w (c.toNat + 1 + 1)))) (Ev.congr (f := fun _ => some _) (fun k => thn (c.toNat + 1)) (Ev.now _)) (hn2 (tup _) ?_))
      rw [show (c + 1).toNat = c.toNat + 1 by omega]
    · show _ = tup (mvw Sf.length nf (pw w 1))
      rw [pw1]; rfl
end
theorem KindsStills : Zd1.Pure := by
  unfold Zd1.Pure
  intro N K next st f
  intros
  have hf : 0 ≤ f ∧ f ≤ 4294967295 := wf_u32 ‹_›
  apply Ev.rounds
  unfold Zd1.f Zj1.f
  have c1 := machCheck_ev N K next st f hf.1
  have c2 := rmach_ev N K next st f
  by_cases c : machCode N K next st f = 0
  · obtain ⟨n0, n1, k0, k1, hm, s0, s1, f1⟩ := machCode_0 c
    rw [c] at c1 c2
    obtain ⟨f, rfl⟩ := Int.eq_ofNat_of_zero_le hf.1
    have hf32 : f < 2 ^ 32 := by omega
    have hK : 0 ≤ K ∧ K ≤ 3 := by omega
    obtain ⟨⟨l, e⟩, ⟨F, Sf, nf, Wf, hF, hS, a, h⟩, ev⟩ := kinds_ev n0 n1 hK hm hf32 s0 s1 c1
    have c3 := rkinds_ev n0 n1 hK hm hf32 hF s0 s1 hS a
    rcases h with ⟨h, q⟩ | ⟨h, q, q2⟩
    · cases q
      refine Ev.bind (Ev.bind ev (Ev.neg (by decide) (Ev.now _))) (Ev.bind c2 (Ev.pos rfl (Ev.bind c3 ?_)))
      refine Ev.step (fun k => Zd1.j0.eq_2 _ _ _ _ _ _ _ _ _ k) ?_
      refine Ev.pos (decide_eq_true (by omega)) ?_
      refine Ev.step (fun k => Zd1.j1.eq_2 _ _ _ _ _ _ _ _ k) ?_
      exact Ev.neg (by decide) (Ev.pos rfl (Ev.val rfl))
    · dsimp only at q q2
      obtain ⟨R, hR⟩ := isB (∀ j : Int, 0 ≤ j → j < Wf.length → mvw Sf.length nf (pw (Ze Wf j) Wf.length) = mvw Sf.length nf (pw (Ze Wf j) (Wf.length + 1)))
      have e1 := still_prog n0 n1 hK hm hf32 hF s0 s1 hS a h q2 hR
      have e2 := still_ref n0 n1 hK hm hf32 hF s0 s1 hS a h hR
      refine Ev.bind (Ev.bind ev (Ev.pos q e1)) (Ev.bind c2 (Ev.pos rfl (Ev.bind c3 ?_)))
      refine Ev.step (fun k => Zd1.j0.eq_2 _ _ _ _ _ _ _ _ _ k) ?_
      refine Ev.neg (by simp; omega) ?_
      refine Ev.step (fun k => Zd1.j1.eq_2 _ _ _ _ _ _ _ _ k) ?_
      exact Ev.pos rfl (Ev.pos rfl (Ev.bind c3 (Ev.bind e2 (Ev.val (by simp)))))
  · refine Ev.bind (a := (false, machCode N K next st f)) (Ev.bind (a := ([], machCode N K next st f)) ?_ (Ev.neg c (Ev.now _))) (Ev.bind c2 (Ev.neg c ?_))
    · unfold kinds_kinds.f
      exact Ev.bind c1 (Ev.neg c (Ev.now _))
    · refine Ev.step (fun k => Zd1.j0.eq_2 _ _ _ _ _ _ _ _ _ k) ?_
      refine Ev.neg (by decide) ?_
      refine Ev.step (fun k => Zd1.j1.eq_2 _ _ _ _ _ _ _ _ k) ?_
      exact Ev.neg c (Ev.pos rfl (Ev.val rfl))
end Go.Proofs.Ytofdaiknpficfaa.Pure
