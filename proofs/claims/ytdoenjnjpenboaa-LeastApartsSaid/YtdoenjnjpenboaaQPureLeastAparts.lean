/- The law LeastAparts as a statement over numbers and lists alone: it holds under the bounds that the statement names. -/
import Derived.Test.YtdoenjnjpenboaaQStatLeastAparts
set_option linter.unusedVariables false
set_option linter.unusedSimpArgs false
set_option linter.unusedSectionVars false
namespace Go.Proofs.Ytdoenjnjpenboaa.Pure
open Go.RowKit Go.Proofs.Ytdoenjnjpenboaa.PLeastAparts Go.Proofs.YtdoenjnjpenboaaW.PrintWords Go.Proofs.YtdoenjnjpenboaaW.PrintLast Go.Proofs.YtdoenjnjpenboaaW.PrintMore
theorem w64 {x : Int} (h0 : -9223372036854775808 ≤ x) (h1 : x ≤ 9223372036854775807) : wrap64 x = x := by unfold wrap64; omega
theorem Ev.pos {α : Type} {c : Prop} [Decidable c] {g f : Nat → Option α} {r : α} (h : c) (e : Ev g r) : Ev (fun k => if c then g k else f k) r := Ev.congr (fun k => by rw [if_pos h]) e
theorem Ev.neg {α : Type} {c : Prop} [Decidable c] {g f : Nat → Option α} {r : α} (h : ¬ c) (e : Ev f r) : Ev (fun k => if c then g k else f k) r := Ev.congr (fun k => by rw [if_neg h]) e
theorem Ev.val {α : Type} {r q : α} (h : r = q) : Ev (fun _ => some r) q := by subst h; exact Ev.now r
theorem rd_getElem {l : List Int} {i : Int} (h1 : i.toNat < l.length) : rd l i = l[i.toNat] := by simp [rd, List.getD_eq_getElem?_getD, List.getElem?_eq_getElem h1]
theorem drop_rd {l : List Int} {i : Int} (h0 : 0 ≤ i) (h1 : i < l.length) : l.drop i.toNat = rd l i :: l.drop (i + 1).toNat := by
  have h : i.toNat < l.length := by omega
  rw [rd_getElem h, List.drop_eq_getElem_cons h]; congr 2; omega
theorem take_rd {l : List Int} {i : Int} (h0 : 0 ≤ i) (h1 : i < l.length) : l.take (i + 1).toNat = l.take i.toNat ++ [rd l i] := by
  have h : i.toNat < l.length := by omega
  have e : (i + 1).toNat = i.toNat + 1 := by omega
  rw [rd_getElem h, e, List.take_succ_eq_append_getElem h]
theorem drop_all {α : Type} (l : List α) (n : Nat) (h : l.length ≤ n) : l.drop n = [] := List.drop_eq_nil_of_le h
theorem ext_rd {a b : List Int} (hl : a.length = b.length) (h : ∀ i : Int, 0 ≤ i → i < a.length → rd a i = rd b i) : a = b := by
  apply List.ext_getElem hl
  intro i h1 h2
  have := h i (by omega) (by omega)
  rwa [rd_getElem (by simpa using h1), rd_getElem (by simpa using h2)] at this
theorem wf_u32 {x : Int} (h : (Lit.int .u32 x).wf = true) : 0 ≤ x ∧ x ≤ 4294967295 := by simpa [Lit.wf, IntKind.min, IntKind.max, IntKind.signed, IntKind.bits] using h
theorem rd_mem {l : List Int} {i : Int} (h0 : 0 ≤ i) (h1 : i < l.length) : rd l i ∈ l := by
  rw [rd_getElem (by omega)]; exact List.getElem_mem _
theorem drop_rdL {l : List (List Int)} {i : Int} (h0 : 0 ≤ i) (h1 : i < l.length) : l.drop i.toNat = Zd l i :: l.drop (i + 1).toNat := by
  have h : i.toNat < l.length := by omega
  have e : Zd l i = l[i.toNat] := by simp [Zd, List.getD_eq_getElem?_getD, List.getElem?_eq_getElem h]
  rw [e, List.drop_eq_getElem_cons h]; congr 2; omega
theorem rdL_mem {l : List (List Int)} {i : Int} (h0 : 0 ≤ i) (h1 : i < l.length) : Zd l i ∈ l := by
  have h : i.toNat < l.length := by omega
  have e : Zd l i = l[i.toNat] := by simp [Zd, List.getD_eq_getElem?_getD, List.getElem?_eq_getElem h]
  rw [e]; exact List.getElem_mem _
theorem u32_id {x : Int} (h0 : 0 ≤ x) (h1 : x ≤ 4294967295) : IntKind.u32.wrap x = x := by rw [IntKind.wrap_u32]; omega
theorem u64_id {x : Int} (h0 : 0 ≤ x) (h1 : x ≤ 18446744073709551615) : IntKind.u64.wrap x = x := by simp [IntKind.wrap, IntKind.bits, IntKind.signed]; omega
theorem u32_or (a b : Nat) (ha : a < 2 ^ 32) (hb : b < 2 ^ 32) : Go.bits .or .u32 a b = ((a ||| b : Nat) : Int) :=
  (bits_nat .u32 32 (by decide) (fun n h0 h1 => u32_id h0 (by omega)) a b ha hb).2
theorem u32_and (a b : Nat) (ha : a < 2 ^ 32) (hb : b < 2 ^ 32) : Go.bits .and .u32 a b = ((a &&& b : Nat) : Int) :=
  (bits_nat .u32 32 (by decide) (fun n h0 h1 => u32_id h0 (by omega)) a b ha hb).1
theorem shl1 (n : Nat) (h : n < 32) : shl .u32 1 (n : Int) = ((2 ^ n : Nat) : Int) := by
  unfold shl
  have e : min ((n : Int)).toNat IntKind.u32.bits = n := by simp [IntKind.bits]; omega
  have h2 : 2 ^ n ≤ 2 ^ 31 := Nat.pow_le_pow_right (by omega) (by omega)
  rw [e, Int.one_mul, u32_id (by exact_mod_cast Nat.zero_le _) (by have : ((2 ^ n : Nat) : Int) ≤ 2 ^ 31 := by exact_mod_cast h2
                                                                   have e2 : ((2 : Int) ^ n) = ((2 ^ n : Nat) : Int) := by simp
                                                                   omega)]
  simp
theorem shrn (a n : Nat) (h : n < 32) : shr .u32 (a : Int) (n : Int) = ((a / 2 ^ n : Nat) : Int) := by
  unfold shr
  have e : min ((n : Int)).toNat IntKind.u32.bits = n := by simp [IntKind.bits]; omega
  rw [e]; simp
theorem bit_and (a i : Nat) (ha : a < 2 ^ 32) (hi : i < 32) : (Go.bits .and .u32 (a : Int) (shl .u32 1 (i : Int)) != 0) = a.testBit i := by
  have h0 : 2 ^ i < 2 ^ 32 := Nat.pow_lt_pow_right (by omega) hi
  rw [shl1 i hi, u32_and a (2 ^ i) ha h0]
  cases h : a.testBit i with
  | true =>
    have : a &&& 2 ^ i ≠ 0 := fun e => by
      have q := congrArg (fun x => Nat.testBit x i) e
      simp [Nat.testBit_and, Nat.testBit_two_pow_self, h] at q
    simp; omega
  | false =>
    have : a &&& 2 ^ i = 0 := by
      apply Nat.eq_of_testBit_eq
      intro j
      by_cases e : i = j
      · subst e; simp [Nat.testBit_and, h]
      · simp [Nat.testBit_and, Nat.testBit_two_pow, e]
    rw [this]; rfl
theorem rd_set_eq (l : List Int) (i : Int) (v : Int) (h0 : 0 ≤ i) (h1 : i < l.length) : rd (l.set i.toNat v) i = v := by
  simp [rd, List.getD_eq_getElem?_getD, List.getElem?_set, show i.toNat < l.length by omega]
theorem rd_set_ne (l : List Int) (i j : Int) (v : Int) (h0 : 0 ≤ i) (hj : 0 ≤ j) (h : j ≠ i) : rd (l.set i.toNat v) j = rd l j := by
  simp only [rd, List.getD_eq_getElem?_getD]
  rw [List.getElem?_set_ne (by omega)]
theorem isB (p : Prop) : ∃ R : Bool, R = true ↔ p := by
  by_cases h : p
  · exact ⟨true, by simp [h]⟩
  · exact ⟨false, by simp [h]⟩
theorem anyO_of {α : Type} {f : α → Option Bool} {p : α → Bool} {l : List α} (h : ∀ x ∈ l, f x = some (p x)) : anyO f l = some (l.any p) := by
  induction l with
  | nil => rfl
  | cons x l ih =>
    unfold anyO
    rw [h x (by simp), Option.bind_some, ih (fun y hy => h y (by simp [hy])), List.any_cons]
    cases p x <;> simp
theorem Ev.loop {σ ρ : Type} {L : Nat → Int → σ → Option ρ} {n : Int} {r : ρ} (I : Int → σ → Prop)
    (hend : ∀ s, I n s → Ev (fun k => L k n s) r)
    (hstep : ∀ i s, 0 ≤ i → i < n → I i s → Ev (fun k => L k i s) r ∨ ∃ s', I (i + 1) s' ∧ (Ev (fun k => L k (i + 1) s') r → Ev (fun k => L k i s) r)) :
    ∀ (i : Int) (s : σ), 0 ≤ i → i ≤ n → I i s → Ev (fun k => L k i s) r := by
  have key : ∀ (d : Nat) (i : Int) (s : σ), 0 ≤ i → i + d = n → I i s → Ev (fun k => L k i s) r := by
    intro d
    induction d with
    | zero => intro i s h0 h1 hI; obtain rfl : i = n := by omega
              exact hend s hI
    | succ d ih =>
      intro i s h0 h1 hI
      rcases hstep i s h0 (by omega) hI with h | ⟨s', h', h⟩
      · exact h
      · exact h (ih (i + 1) s' (by omega) (by omega) h')
  intro i s h0 h1 hI
  exact key (n - i).toNat i s h0 (by omega) hI
theorem Concat_l1 (l : List (List Int)) (hl : l.length ≤ 4611686018427387904) (R : List Int) (hR : R.length < 17592186044416) (d : Nat) : ∀ (i : Int) (acc : List Int), 0 ≤ i → i + d = l.length → acc ++ (l.drop i.toNat).flatten = R →
    Ev (fun k => Zb1.l1 k acc l (l.length : Int) i) R := by
  induction d with
  | zero =>
    intro i acc h0 hd h
    refine Ev.step (fun k => Zb1.l1.eq_2 _ _ _ _ k) ?_
    simp (disch := omega) only [if_neg]
    rw [List.drop_eq_nil_of_le (by omega)] at h
    exact Ev.val (by simpa using h)
  | succ d ih =>
    intro i acc h0 hd h
    refine Ev.step (fun k => Zb1.l1.eq_2 _ _ _ _ k) ?_
    rw [drop_rdL h0 (by omega), List.flatten_cons, ← List.append_assoc] at h
    have hlen : acc.length + (Zd l i).length ≤ R.length := by
      rw [← h]; simp only [List.length_append]; omega
    simp (disch := omega) only [if_pos, w64]
    exact ih (i + 1) _ (by omega) (by omega) h
theorem Concat_l0 (l : List (List Int)) (hl : l.length ≤ 4611686018427387904) (hR : l.flatten.length < 17592186044416) (d : Nat) : ∀ (i s : Int), 0 ≤ i → i + d = l.length → 0 ≤ s → s + (l.drop i.toNat).flatten.length = l.flatten.length →
    Ev (fun k => Zb1.l0 k l s l (l.length : Int) i) l.flatten := by
  induction d with
  | zero =>
    intro i s h0 hd hs h
    refine Ev.step (fun k => Zb1.l0.eq_2 _ _ _ _ _ k) ?_
    rw [List.drop_eq_nil_of_le (by omega)] at h
    simp only [List.flatten_nil, List.length_nil] at h
    simp (disch := omega) only [if_neg, slices_Grow_Sint_int.f, if_pos, Option.bind_some]
    exact Concat_l1 l hl _ hR l.length 0 [] (by omega) (by omega) (by simp)
  | succ d ih =>
    intro i s h0 hd hs h
    refine Ev.step (fun k => Zb1.l0.eq_2 _ _ _ _ _ k) ?_
    rw [drop_rdL h0 (by omega), List.flatten_cons, List.length_append] at h
    simp (disch := omega) only [if_pos, if_neg, w64]
    exact ih (i + 1) _ (by omega) (by omega) (by omega) (by omega)
theorem Concat_ev (l : List (List Int)) (hl : l.length ≤ 4611686018427387904) (hR : l.flatten.length < 17592186044416) : Ev (fun k => Zb1.f k l) l.flatten := by
  unfold Zb1.f
  exact Concat_l0 l hl hR l.length 0 0 (by omega) (by omega) (by omega) (by simp)
theorem Ints_l0 (a b : List Int) (hl : a.length = b.length) (hb : (a.length : Int) ≤ 4611686018427387904) (d : Nat) : ∀ i : Int, 0 ≤ i → i + d = a.length → Ev (fun k => Zg1.l0 k a b i) (decide (a.drop i.toNat = b.drop i.toNat)) := by
  induction d with
  | zero =>
    intro i h0 hd
    refine Ev.step (fun k => Zg1.l0.eq_2 _ _ _ k) ?_
    simp (disch := omega) only [if_pos, if_neg]
    exact Ev.val (by rw [List.drop_eq_nil_of_le (by omega), List.drop_eq_nil_of_le (by omega)]; simp)
  | succ d ih =>
    intro i h0 hd
    refine Ev.step (fun k => Zg1.l0.eq_2 _ _ _ k) ?_
    simp (disch := omega) only [if_pos, w64]
    rw [drop_rd h0 (by omega), drop_rd (l := b) h0 (by omega)]
    by_cases h : rd a i = rd b i
    · simp only [if_pos h]
      exact Ev.congr (fun _ => rfl) (by simpa [h] using ih (i + 1) (by omega) (by omega))
    · simp only [if_neg h]
      exact Ev.val (by simp [h])
theorem Ints_ev (a b : List Int) (hb : (a.length : Int) ≤ 4611686018427387904) : Ev (fun k => Zg1.f k a b) (decide (a = b)) := by
  unfold Zg1.f
  by_cases hl : a.length = b.length
  · simp (disch := omega) only [if_pos]
    simpa using Ints_l0 a b hl hb a.length 0 (by omega) (by omega)
  · simp (disch := omega) only [if_neg]
    exact Ev.val (by simp; intro h; exact hl (by rw [h]))
abbrev bad (N x : Int) : Prop := x < 0 ∨ x ≥ N
def machCode (N K : Int) (next : List (List Int)) (st f : Int) : Int :=
  if N < 1 ∨ N > 7 ∨ K < 1 ∨ K > 3 then 1 else if (next.length : Int) ≠ N ∨ (next.any fun l => decide ((l.length : Int) ≠ K)) = true then 3
  else if (next.flatten.any fun x => decide (bad N x)) = true ∨ bad N st then 2 else if f ≥ 2 ^ N.toNat then 4 else 0
theorem flat_len (K : Int) (hK : 0 ≤ K) : ∀ l : List (List Int), (∀ x ∈ l, (x.length : Int) = K) → (l.flatten.length : Int) = l.length * K
  | [], _ => by simp
  | x :: l, h => by
    have := flat_len K hK l (fun y hy => h y (by simp [hy]))
    have hx := h x (by simp)
    rw [List.flatten_cons, List.length_append, List.length_cons]
    push_cast
    rw [this, hx, Int.add_mul]; omega
theorem check_l0 (N K : Int) (next : List (List Int)) (st f : Int) (hN0 : 1 ≤ N) (hN1 : N ≤ 7) (hf0 : 0 ≤ f) (all : List Int) (hl : all.length ≤ 4611686018427387904) (d : Nat) : ∀ i : Int, 0 ≤ i → i + d = all.length →
    Ev (fun k => Zt.l0 k all (all.length : Int) i N K next st f) (if ((all.drop i.toNat).any fun x => decide (bad N x)) = true then 2 else if f ≥ 2 ^ N.toNat then 4 else 0) := by
  induction d with
  | zero =>
    intro i h0 hd
    refine Ev.step (fun k => Zt.l0.eq_2 _ _ _ _ _ _ _ _ k) ?_
    obtain ⟨a, rfl⟩ := Int.eq_ofNat_of_zero_le hf0
    obtain ⟨n, rfl⟩ := Int.eq_ofNat_of_zero_le (show 0 ≤ N by omega)
    have e : ((2 : Int) ^ n) = ((2 ^ n : Nat) : Int) := by simp
    simp (disch := omega) only [if_neg (show ¬ i < (all.length : Int) by omega), if_pos (show 0 ≤ (n : Int) by omega), shrn a n (by omega)]
    rw [List.drop_eq_nil_of_le (by omega), Int.toNat_natCast, e]
    have key : a / 2 ^ n = 0 ↔ a < 2 ^ n := by
      rw [Nat.div_eq_zero_iff]
      have := Nat.two_pow_pos n
      omega
    by_cases q : a < 2 ^ n
    · have q' : ((a / 2 ^ n : Nat) : Int) = 0 := by have := key.2 q; omega
      simp only [if_pos q']; exact Ev.val (by rw [if_neg (by simp), if_neg (by omega)])
    · have q' : ¬ ((a / 2 ^ n : Nat) : Int) = 0 := by have := mt key.1 q; omega
      simp only [if_neg q']; exact Ev.val (by rw [if_neg (by simp), if_pos (by omega)])
  | succ d ih =>
    intro i h0 hd
    refine Ev.step (fun k => Zt.l0.eq_2 _ _ _ _ _ _ _ _ k) ?_
    rw [drop_rd h0 (by omega)]
    simp (disch := omega) only [if_pos (show i < (all.length : Int) by omega), if_pos h0, w64]
    by_cases a : rd all i < 0
    · simp only [if_pos a]; exact Ev.val (by rw [if_pos (by simp [a])])
    · by_cases b : rd all i ≥ N
      · simp only [if_neg a, if_pos b]; exact Ev.val (by rw [if_pos (by simp [b])])
      · simp only [if_neg a, if_neg b]
        have := ih (i + 1) (by omega) (by omega)
        simpa [a, b] using this
theorem mchk1 (N K : Int) (next l : List (List Int)) (st f : Int) : machine_Check_1_any.f l N K next st f = some (l.any fun l => decide ((l.length : Int) ≠ K)) := by
  unfold machine_Check_1_any.f
  exact anyO_of (fun x _ => by unfold machine_Check_1.f; congr 1; by_cases h : (x.length : Int) = K <;> simp [h])
theorem machCheck_ev (N K : Int) (next : List (List Int)) (st f : Int) (hf0 : 0 ≤ f) : Ev (fun k => Zt.f k N K next st f) (machCode N K next st f) := by
  unfold Zt.f
  have wrong : (N < 1 ∨ N > 7 ∨ K < 1 ∨ K > 3) → Ev (fun k => Zt.j0 k true N K next st f) (machCode N K next st f) := by
    intro h
    unfold machCode; rw [if_pos h]
    refine Ev.step (fun k => Zt.j0.eq_2 _ _ _ _ _ _ k) ?_
    simp only [if_true]; exact Ev.now _
  by_cases c1 : N < 1
  · simp only [if_pos c1]; exact wrong (by omega)
  by_cases c2 : N > 7
  · simp only [if_neg c1, if_pos c2]; exact wrong (by omega)
  by_cases c3 : K < 1
  · simp only [if_neg c1, if_neg c2, if_pos c3]; exact wrong (by omega)
  simp only [if_neg c1, if_neg c2, if_neg c3]
  by_cases c4 : K > 3
  · simp only [c4, decide_true]; exact wrong (by omega)
  · simp only [c4, decide_false]
    unfold machCode; rw [if_neg (by omega)]
    refine Ev.step (fun k => Zt.j0.eq_2 _ _ _ _ _ _ k) ?_
    simp only [Bool.false_eq_true, if_false]
    by_cases c5 : (next.length : Int) = N
    · simp only [if_pos c5, mchk1, Option.bind_some]
      refine Ev.step (fun k => Zt.j1.eq_2 _ _ _ _ _ _ k) ?_
      by_cases c6 : (next.any fun l => decide ((l.length : Int) ≠ K)) = true
      · simp only [if_pos c6]; exact Ev.val (by rw [if_pos (.inr c6)])
      · simp only [if_neg c6]
        have hrows : ∀ x ∈ next, (x.length : Int) = K := by
          intro x hx
          simp only [List.any_eq_true, not_exists, not_and, decide_eq_true_eq, Classical.not_not] at c6
          exact c6 x hx
        have hfl := flat_len K (by omega) next hrows
        have h21 : next.flatten.length ≤ 21 := by
          have : (next.length : Int) * K ≤ 7 * 3 := Int.mul_le_mul (by omega) (by omega) (by omega) (by omega)
          omega
        refine Ev.bind (Concat_ev next (by omega) (by omega)) ?_
        have hlim : next.flatten.length + ([st] : List Int).length < 17592186044416 := by simp only [List.length_singleton]; omega
        simp only [Option.bind_some, if_pos hlim]
        have := check_l0 N K next st f (by omega) (by omega) hf0 (next.flatten ++ [st]) (by simp only [List.length_append, List.length_singleton]; omega) (next.flatten ++ [st]).length 0 (by omega) (by omega)
        rw [Int.toNat_zero, List.drop_zero] at this
        refine Ev.congr (fun _ => rfl) ?_
        have e : ((next.flatten ++ [st]).any fun x => decide (bad N x)) = true ↔ ((next.flatten.any fun x => decide (bad N x)) = true ∨ bad N st) := by simp [List.any_append]
        rw [if_neg (fun h => h.elim (fun a => a c5) c6)]
        simp only [e] at this
        exact this
    · simp only [if_neg c5]
      refine Ev.step (fun k => Zt.j1.eq_2 _ _ _ _ _ _ k) ?_
      simp only [if_true]
      exact Ev.val (by rw [if_pos (.inl c5)])
theorem rmach_j4 (N K : Int) (next : List (List Int)) (st f : Int) (hN0 : 1 ≤ N) (hN1 : N ≤ 7) (b : Bool) : Ev (fun k => Zp.j4 k b N K next st f) (if b = true then 2 else if f ≥ 2 ^ N.toNat then 4 else 0) := by
  refine Ev.step (fun k => Zp.j4.eq_2 _ _ _ _ _ _ k) ?_
  cases b with
  | true => simp only [if_true]; exact Ev.now _
  | false =>
    obtain ⟨n, rfl⟩ := Int.eq_ofNat_of_zero_le (show 0 ≤ N by omega)
    have e : ((2 : Int) ^ n) = ((2 ^ n : Nat) : Int) := by simp
    simp (disch := omega) only [Bool.false_eq_true, if_false, u64_id, if_pos (show 0 ≤ (n : Int) by omega), shl1 n (by omega), Int.toNat_natCast, e]
    by_cases q : f ≥ ((2 ^ n : Nat) : Int)
    · simp only [if_pos q]; exact Ev.now _
    · simp only [if_neg q]; exact Ev.now _
theorem rmach_l2 (N K : Int) (next : List (List Int)) (st f : Int) (R : Int) (all : List (List Int)) (n j : Int) (row : List Int) (hl : row.length ≤ 60) (hbad : (row.any fun x => decide (bad N x)) = true → R = 2) (hok : ¬ (row.any fun x => decide (bad N x)) = true → Ev (fun k => Zp.l1 k all n (wrap64 (j + 1)) N K next st f) R) (d : Nat) : ∀ i : Int, 0 ≤ i → i + d = row.length → ((row.any fun x => decide (bad N x)) = true ↔ ((row.drop i.toNat).any fun x => decide (bad N x)) = true) →
    Ev (fun k => Zp.l2 k all n j row (row.length : Int) i N K next st f) R := by
  induction d with
  | zero =>
    intro i h0 hd he
    refine Ev.step (fun k => Zp.l2.eq_2 _ _ _ _ _ _ _ _ _ _ _ k) ?_
    simp (disch := omega) only [if_neg (show ¬ i < (row.length : Int) by omega)]
    rw [drop_all row _ (by omega)] at he
    exact hok (fun h => by simpa using he.1 h)
  | succ d ih =>
    intro i h0 hd he
    refine Ev.step (fun k => Zp.l2.eq_2 _ _ _ _ _ _ _ _ _ _ _ k) ?_
    rw [drop_rd h0 (by omega)] at he
    simp (disch := omega) only [if_pos (show i < (row.length : Int) by omega), if_pos h0, w64]
    by_cases a : rd row i < 0
    · simp only [if_pos a]; exact Ev.val (hbad (he.2 (by simp [a]))).symm
    · by_cases b : rd row i ≥ N
      · simp only [if_neg a, if_pos b]; exact Ev.val (hbad (he.2 (by simp [b]))).symm
      · simp only [if_neg a, if_neg b]
        exact ih (i + 1) (by omega) (by omega) (by rw [he]; simp [a, b])
theorem rmach_l1 (N K : Int) (next : List (List Int)) (st f : Int) (hN0 : 1 ≤ N) (hN1 : N ≤ 7) (all : List (List Int)) (ha : all.length ≤ 60) (hrow : ∀ x ∈ all, x.length ≤ 60) (d : Nat) : ∀ i : Int, 0 ≤ i → i + d = all.length →
    Ev (fun k => Zp.l1 k all (all.length : Int) i N K next st f) (if ((all.drop i.toNat).flatten.any fun x => decide (bad N x)) = true ∨ bad N st then 2 else if f ≥ 2 ^ N.toNat then 4 else 0) := by
  induction d with
  | zero =>
    intro i h0 hd
    refine Ev.step (fun k => Zp.l1.eq_2 _ _ _ _ _ _ _ _ k) ?_
    simp (disch := omega) only [if_neg (show ¬ i < (all.length : Int) by omega)]
    rw [List.drop_eq_nil_of_le (by omega)]
    by_cases a : st < 0
    · simp only [if_pos a]
      have := rmach_j4 N K next st f hN0 hN1 true
      rw [if_pos rfl] at this
      rw [if_pos (.inr (.inl a))]; exact this
    · simp only [if_neg a]
      have := rmach_j4 N K next st f hN0 hN1 (decide (st ≥ N))
      by_cases b : st ≥ N
      · rw [if_pos (decide_eq_true b)] at this
        rw [if_pos (.inr (.inr b))]; exact this
      · rw [if_neg (by simpa using b)] at this
        rw [if_neg (by simp [bad]; omega)]; exact this
  | succ d ih =>
    intro i h0 hd
    refine Ev.step (fun k => Zp.l1.eq_2 _ _ _ _ _ _ _ _ k) ?_
    rw [drop_rdL h0 (by omega), List.flatten_cons]
    simp (disch := omega) only [if_pos (show i < (all.length : Int) by omega), if_pos h0]
    refine rmach_l2 N K next st f _ all _ i _ (hrow _ (rdL_mem h0 (by omega))) ?_ ?_ (Zd all i).length 0 (by omega) (by omega) (by simp)
    · intro h
      rw [if_pos (.inl (by rw [List.any_append, h]; rfl))]
    · intro h
      have h' : ((Zd all i).any fun x => decide (bad N x)) = false := by simpa using h
      rw [List.any_append, h', Bool.false_or, w64 (by omega) (by omega)]
      exact ih (i + 1) (by omega) (by omega)
theorem rmach_l0 (N K : Int) (st f : Int) (hN0 : 1 ≤ N) (hN1 : N ≤ 7) (hK : 1 ≤ K ∧ K ≤ 3) (next : List (List Int)) (hn : next.length ≤ 60) (d : Nat) : ∀ i : Int, 0 ≤ i → i + d = next.length → (∀ x ∈ next, ((x.length : Int) = K ∨ x ∈ next.drop i.toNat)) →
    Ev (fun k => Zp.l0 k next (next.length : Int) i N K next st f) (if ((next.drop i.toNat).any fun l => decide ((l.length : Int) ≠ K)) = true then 3 else if (next.flatten.any fun x => decide (bad N x)) = true ∨ bad N st then 2 else if f ≥ 2 ^ N.toNat then 4 else 0) := by
  induction d with
  | zero =>
    intro i h0 hd hr
    refine Ev.step (fun k => Zp.l0.eq_2 _ _ _ _ _ _ _ _ k) ?_
    simp (disch := omega) only [if_neg (show ¬ i < (next.length : Int) by omega)]
    rw [List.drop_eq_nil_of_le (by omega)] at hr ⊢
    rw [if_neg (by simp)]
    have := rmach_l1 N K next st f hN0 hN1 next hn (fun x hx => by
      rcases hr x hx with q | q
      · omega
      · simp at q) next.length 0 (by omega) (by omega)
    simpa using this
  | succ d ih =>
    intro i h0 hd hr
    refine Ev.step (fun k => Zp.l0.eq_2 _ _ _ _ _ _ _ _ k) ?_
    rw [drop_rdL h0 (by omega)] at hr ⊢
    simp (disch := omega) only [if_pos (show i < (next.length : Int) by omega), if_pos h0, w64]
    by_cases c : ((Zd next i).length : Int) = K
    · simp only [if_pos c]
      have := ih (i + 1) (by omega) (by omega) (fun x hx => by
        rcases hr x hx with q | q
        · exact .inl q
        · rcases List.mem_cons.1 q with q | q
          · rw [q]; exact .inl c
          · exact .inr q)
      rw [List.any_cons, show decide (((Zd next i).length : Int) ≠ K) = false from by simp [c], Bool.false_or]
      exact this
    · simp only [if_neg c]
      exact Ev.val (by rw [if_pos (by simp [c])])
theorem rmach_ev (N K : Int) (next : List (List Int)) (st f : Int) : Ev (fun k => Zp.f k N K next st f) (machCode N K next st f) := by
  unfold Zp.f
  have wrong : (N < 1 ∨ N > 7 ∨ K < 1 ∨ K > 3) → Ev (fun k => Zp.j0 k true N K next st f) (machCode N K next st f) := by
    intro h
    unfold machCode; rw [if_pos h]
    refine Ev.step (fun k => Zp.j0.eq_2 _ _ _ _ _ _ k) ?_
    simp only [if_true]; exact Ev.now _
  by_cases c1 : N < 1
  · simp only [if_pos c1]; exact wrong (by omega)
  by_cases c2 : N > 7
  · simp only [if_neg c1, if_pos c2]; exact wrong (by omega)
  by_cases c3 : K < 1
  · simp only [if_neg c1, if_neg c2, if_pos c3]; exact wrong (by omega)
  simp only [if_neg c1, if_neg c2, if_neg c3]
  by_cases c4 : K > 3
  · simp only [c4, decide_true]; exact wrong (by omega)
  · simp only [c4, decide_false]
    unfold machCode; rw [if_neg (by omega)]
    refine Ev.step (fun k => Zp.j0.eq_2 _ _ _ _ _ _ k) ?_
    simp only [Bool.false_eq_true, if_false]
    by_cases c5 : (next.length : Int) = N
    · simp only [if_pos c5]
      have := rmach_l0 N K st f (by omega) (by omega) ⟨by omega, by omega⟩ next (by omega) next.length 0 (by omega) (by omega) (fun x hx => .inr (by simpa using hx))
      rw [Int.toNat_zero, List.drop_zero] at this
      by_cases c6 : (next.any fun l => decide ((l.length : Int) ≠ K)) = true
      · rw [if_pos c6] at this
        rw [if_pos (.inr c6)]; exact this
      · rw [if_neg c6] at this
        rw [if_neg (fun h => h.elim (fun a => a c5) c6)]; exact this
    · simp only [if_neg c5]
      exact Ev.val (by rw [if_pos (.inl c5)])
def okMach (N K : Int) (next : List (List Int)) : Prop := (next.length : Int) = N ∧ ∀ row ∈ next, (row.length : Int) = K ∧ ∀ x ∈ row, 0 ≤ x ∧ x < N
theorem machCode_0 {N K : Int} {next : List (List Int)} {st f : Int} (h : machCode N K next st f = 0) : 1 ≤ N ∧ N ≤ 7 ∧ 1 ≤ K ∧ K ≤ 3 ∧ okMach N K next ∧ 0 ≤ st ∧ st < N ∧ f < 2 ^ N.toNat := by
  unfold machCode at h
  by_cases c : N < 1 ∨ N > 7 ∨ K < 1 ∨ K > 3
  · rw [if_pos c] at h; omega
  rw [if_neg c] at h
  by_cases c2 : (next.length : Int) ≠ N ∨ (next.any fun l => decide ((l.length : Int) ≠ K)) = true
  · rw [if_pos c2] at h; omega
  rw [if_neg c2] at h
  by_cases c3 : (next.flatten.any fun x => decide (bad N x)) = true ∨ bad N st
  · rw [if_pos c3] at h; omega
  rw [if_neg c3] at h
  by_cases c4 : f ≥ 2 ^ N.toNat
  · rw [if_pos c4] at h; omega
  simp only [not_or, Classical.not_not, List.any_eq_true, not_exists, not_and, decide_eq_true_eq] at c2 c3
  refine ⟨by omega, by omega, by omega, by omega, ⟨c2.1, fun row hr => ⟨c2.2 row hr, fun x hx => ?_⟩⟩, ?_, ?_, by omega⟩
  · have := c3.1 x (List.mem_flatten.2 ⟨row, hr, hx⟩)
    omega
  · have := c3.2; omega
  · have := c3.2; omega
def mto (next : List (List Int)) (s c : Int) : Int := rd (Zd next s) c
def mrun (next : List (List Int)) : Int → List Int → Int
  | s, [] => s
  | s, c :: w => mrun next (mto next s c) w
theorem okMach.row {N K : Int} {next : List (List Int)} (h : okMach N K next) {s : Int} (h0 : 0 ≤ s) (h1 : s < N) : ((Zd next s).length : Int) = K ∧ s < next.length := by
  have hl : s < next.length := by have := h.1; omega
  exact ⟨(h.2 _ (rdL_mem h0 hl)).1, hl⟩
theorem okMach.to {N K : Int} {next : List (List Int)} (h : okMach N K next) {s c : Int} (h0 : 0 ≤ s) (h1 : s < N) (c0 : 0 ≤ c) (c1 : c < K) : 0 ≤ mto next s c ∧ mto next s c < N := by
  have hl : s < next.length := by have := h.1; omega
  have hr := h.2 _ (rdL_mem h0 hl)
  exact hr.2 _ (rd_mem c0 (by omega))
theorem okMach.run {N K : Int} {next : List (List Int)} (h : okMach N K next) : ∀ (w : List Int) (s : Int), 0 ≤ s → s < N → (∀ c ∈ w, 0 ≤ c ∧ c < K) → 0 ≤ mrun next s w ∧ mrun next s w < N
  | [], s, h0, h1, _ => ⟨h0, h1⟩
  | c :: w, s, h0, h1, hw => by
    have hc := hw c (by simp)
    have := h.to h0 h1 hc.1 hc.2
    exact h.run w _ this.1 this.2 (fun x hx => hw x (by simp [hx]))
section
variable (K : Int) (next : List (List Int)) (f : Nat)
def Td : Nat → Int → Int → Prop
  | 0, i, j => f.testBit i.toNat ≠ f.testBit j.toNat
  | n + 1, i, j => ∃ c, 0 ≤ c ∧ c < K ∧ Td n (mto next i c) (mto next j c)
theorem Td.symm : ∀ (n : Nat) (i j : Int), Td K next f n i j → Td K next f n j i
  | 0, _, _, h => Ne.symm h
  | n + 1, _, _, ⟨c, h0, h1, h⟩ => ⟨c, h0, h1, Td.symm n _ _ h⟩
theorem Td.mid : ∀ (n : Nat) (i j k : Int), Td K next f n i k → Td K next f n i j ∨ Td K next f n j k
  | 0, i, j, k, h => by
    by_cases e : f.testBit i.toNat = f.testBit j.toNat
    · right; intro q; exact h (e.trans q)
    · exact .inl e
  | n + 1, i, j, k, ⟨c, h0, h1, h⟩ => by
    rcases Td.mid n _ (mto next j c) _ h with q | q
    · exact .inl ⟨c, h0, h1, q⟩
    · exact .inr ⟨c, h0, h1, q⟩
theorem Td.irr : ∀ (n : Nat) (i : Int), ¬ Td K next f n i i
  | 0, _, h => h rfl
  | n + 1, _, ⟨_, _, _, h⟩ => Td.irr n _ h
def Al (r : Nat) (i j : Int) : Prop := ∀ n, n ≤ r → ¬ Td K next f n i j
theorem Al.refl (r : Nat) (i : Int) : Al K next f r i i := fun n _ => Td.irr K next f n i
theorem Al.symm {r : Nat} {i j : Int} (h : Al K next f r i j) : Al K next f r j i := fun n hn q => h n hn (Td.symm K next f n _ _ q)
theorem Al.trans {r : Nat} {i j k : Int} (h : Al K next f r i j) (h2 : Al K next f r j k) : Al K next f r i k := fun n hn q => by
  rcases Td.mid K next f n i j k q with q | q
  · exact h n hn q
  · exact h2 n hn q
theorem Al.zero {i j : Int} : Al K next f 0 i j ↔ f.testBit i.toNat = f.testBit j.toNat := by
  constructor
  · intro h; exact Classical.not_not.1 (h 0 (Nat.le_refl _))
  · intro h n hn q
    obtain rfl : n = 0 := by omega
    exact q h
theorem Al.succ {r : Nat} {i j : Int} : Al K next f (r + 1) i j ↔ Al K next f r i j ∧ ∀ c, 0 ≤ c → c < K → Al K next f r (mto next i c) (mto next j c) := by
  constructor
  · intro h
    exact ⟨fun n hn => h n (by omega), fun c c0 c1 n hn q => h (n + 1) (by omega) ⟨c, c0, c1, q⟩⟩
  · rintro ⟨h, h2⟩ n hn q
    cases n with
    | zero => exact h 0 (Nat.zero_le _) q
    | succ n => obtain ⟨c, c0, c1, q⟩ := q; exact h2 c c0 c1 n (by omega) q
structure Rep (N : Int) (r : Nat) (F : List Int) : Prop where
  len : (F.length : Int) = N
  lo : ∀ i : Int, 0 ≤ i → i < N → 0 ≤ rd F i ∧ rd F i ≤ i
  al : ∀ i : Int, 0 ≤ i → i < N → Al K next f r (rd F i) i
  min : ∀ i j : Int, 0 ≤ i → i < N → 0 ≤ j → j < rd F i → ¬ Al K next f r j i
variable {K next f}
theorem Rep.iff {N : Int} {r : Nat} {F : List Int} (h : Rep K next f N r F) {i j : Int} (i0 : 0 ≤ i) (i1 : i < N) (j0 : 0 ≤ j) (j1 : j < N) : rd F i = rd F j ↔ Al K next f r i j := by
  have a := h.al i i0 i1
  have b := h.al j j0 j1
  constructor
  · intro e
    rw [e] at a
    exact (a.symm).trans K next f b
  · intro e
    have l1 := h.lo i i0 i1
    have l2 := h.lo j j0 j1
    apply Int.le_antisymm
    · apply Int.not_lt.1; intro q
      exact h.min i (rd F j) i0 i1 l2.1 q (b.trans K next f (e.symm))
    · apply Int.not_lt.1; intro q
      exact h.min j (rd F i) j0 j1 l1.1 q (a.trans K next f e)
theorem Rep.uniq {N : Int} {r : Nat} {F G : List Int} (h : Rep K next f N r F) (g : Rep K next f N r G) : F = G := by
  refine ext_rd (by have := h.len; have := g.len; omega) (fun i i0 i1 => ?_)
  have i1 : i < N := by have := h.len; omega
  have l1 := h.lo i i0 i1
  have l2 := g.lo i i0 i1
  apply Int.le_antisymm
  · apply Int.not_lt.1; intro q; exact h.min i _ i0 i1 l2.1 q (g.al i i0 i1)
  · apply Int.not_lt.1; intro q; exact g.min i _ i0 i1 l1.1 q (h.al i i0 i1)
theorem Al.stable {N : Int} {r : Nat} (hm : okMach N K next) (h : ∀ i j : Int, 0 ≤ i → i < N → 0 ≤ j → j < N → Al K next f r i j → Al K next f (r + 1) i j) :
    ∀ (s : Nat) (i j : Int), 0 ≤ i → i < N → 0 ≤ j → j < N → Al K next f r i j → Al K next f (r + s) i j
  | 0, _, _, _, _, _, _, q => q
  | s + 1, i, j, i0, i1, j0, j1, q => by
    refine (Al.succ K next f).2 ⟨Al.stable hm h s i j i0 i1 j0 j1 q, fun c c0 c1 => ?_⟩
    have a := hm.to i0 i1 c0 c1
    have b := hm.to j0 j1 c0 c1
    exact Al.stable hm h s _ _ a.1 a.2 b.1 b.2 (((Al.succ K next f).1 (h i j i0 i1 j0 j1 q)).2 c c0 c1)
theorem Al.le {r s : Nat} {i j : Int} (h : Al K next f s i j) (hrs : r ≤ s) : Al K next f r i j := fun n hn => h n (by omega)
theorem Rep.stays {N : Int} {r : Nat} {F : List Int} (hm : okMach N K next) (h : Rep K next f N r F) (h2 : Rep K next f N (r + 1) F) (s : Nat) : Rep K next f N (r + s) F := by
  have st := Al.stable (f := f) hm (r := r) (fun i j i0 i1 j0 j1 q => (h2.iff i0 i1 j0 j1).1 ((h.iff i0 i1 j0 j1).2 q))
  refine ⟨h.len, h.lo, fun i i0 i1 => ?_, fun i j i0 i1 j0 j1 q => h.min i j i0 i1 j0 j1 (q.le (by omega))⟩
  have l := h.lo i i0 i1
  exact st s _ _ l.1 (by omega) i0 i1 (h.al i i0 i1)
def nfix (F : List Int) : Nat → Nat
  | 0 => 0
  | n + 1 => nfix F n + if rd F n = n then 1 else 0
theorem nfix_le (F : List Int) : ∀ n, nfix F n ≤ n
  | 0 => Nat.le_refl _
  | n + 1 => by
    have := nfix_le F n
    unfold nfix; split <;> omega
theorem nfix_mono {F G : List Int} : ∀ n : Nat, (∀ i : Nat, i < n → rd F i = i → rd G i = i) → nfix F n ≤ nfix G n
  | 0, _ => Nat.le_refl _
  | n + 1, h => by
    have := nfix_mono n (fun i hi => h i (by omega))
    have q := h n (by omega)
    unfold nfix
    by_cases c : rd F n = n
    · rw [if_pos c, if_pos (q c)]; omega
    · rw [if_neg c]; split <;> omega
theorem nfix_lt {F G : List Int} {a : Nat} (ha : rd F a ≠ a) (hb : rd G a = a) : ∀ n : Nat, a < n → (∀ i : Nat, i < n → rd F i = i → rd G i = i) → nfix F n < nfix G n
  | 0, h, _ => by omega
  | n + 1, hn, h => by
    unfold nfix
    by_cases e : a = n
    · subst e
      have := nfix_mono a (fun i hi => h i (by omega))
      rw [if_neg ha, if_pos hb]; omega
    · have := nfix_lt ha hb n (by omega) (fun i hi => h i (by omega))
      have q := h n (by omega)
      by_cases c : rd F n = n
      · rw [if_pos c, if_pos (q c)]; omega
      · rw [if_neg c]; split <;> omega
theorem Rep.more {N : Int} {r : Nat} {F G : List Int} (hN : 0 ≤ N) (h : Rep K next f N r F) (g : Rep K next f N (r + 1) G) (hne : G ≠ F) : nfix F N.toNat < nfix G N.toNat := by
  have hle : ∀ i : Int, 0 ≤ i → i < N → rd F i ≤ rd G i := by
    intro i i0 i1
    apply Int.not_lt.1; intro q
    exact h.min i _ i0 i1 (g.lo i i0 i1).1 q ((g.al i i0 i1).le (by omega))
  have hfix : ∀ i : Nat, i < N.toNat → rd F i = i → rd G i = i := by
    intro i hi e
    have a := hle i (by omega) (by omega)
    have b := (g.lo i (by omega) (by omega)).2
    omega
  obtain ⟨i, i0, i1, hi⟩ : ∃ i : Int, 0 ≤ i ∧ i < N ∧ rd F i ≠ rd G i := by
    apply Classical.byContradiction
    intro q
    apply hne
    refine ext_rd (by have := h.len; have := g.len; omega) (fun i i0 i1 => ?_)
    have i1 : i < N := by have := g.len; omega
    apply Classical.byContradiction
    intro e
    exact q ⟨i, i0, i1, fun z => e z.symm⟩
  have lG := g.lo i i0 i1
  have a1 : rd G i < N := by omega
  have hlt : rd F i < rd G i := by have := hle i i0 i1; omega
  have eF : rd F (rd G i) = rd F i := (h.iff lG.1 a1 i0 i1).2 ((g.al i i0 i1).le (by omega))
  have eG : rd G (rd G i) = rd G i := (g.iff lG.1 a1 i0 i1).2 (g.al i i0 i1)
  refine nfix_lt (a := (rd G i).toNat) ?_ ?_ N.toNat (by omega) hfix
  · rw [Int.toNat_of_nonneg lG.1, eF]; omega
  · rw [Int.toNat_of_nonneg lG.1]; exact eG
end
theorem Ev.loopc {σ ρ : Type} {L : Nat → Int → σ → Option ρ} {n : Int} {r : ρ} (I : Int → σ → Prop)
    (hend : ∀ s, I n s → Ev (fun k => L k n s) r)
    (hstep : ∀ i s, 0 ≤ i → i < n → I i s → (∀ s', I (i + 1) s' → Ev (fun k => L k (i + 1) s') r) → Ev (fun k => L k i s) r) :
    ∀ (i : Int) (s : σ), 0 ≤ i → i ≤ n → I i s → Ev (fun k => L k i s) r := by
  have key : ∀ (d : Nat) (i : Int) (s : σ), 0 ≤ i → i + d = n → I i s → Ev (fun k => L k i s) r := by
    intro d
    induction d with
    | zero => intro i s h0 h1 hI; obtain rfl : i = n := by omega
              exact hend s hI
    | succ d ih =>
      intro i s h0 h1 hI
      exact hstep i s h0 (by omega) hI (fun s' h' => ih (i + 1) s' (by omega) (by omega) h')
  intro i s h0 h1 hI
  exact key (n - i).toNat i s h0 (by omega) hI
def EvP {α : Type} (g : Nat → Option α) (J : α → Prop) : Prop := ∃ r, J r ∧ Ev g r
theorem EvP.of {α : Type} {g : Nat → Option α} {J : α → Prop} {r : α} (h : J r) (e : Ev g r) : EvP g J := ⟨r, h, e⟩
theorem EvP.now {α : Type} {J : α → Prop} {r : α} (h : J r) : EvP (fun _ => some r) J := ⟨r, h, Ev.now r⟩
theorem EvP.pos {α : Type} {c : Prop} [Decidable c] {g f : Nat → Option α} {J : α → Prop} (h : c) (e : EvP g J) : EvP (fun k => if c then g k else f k) J := let ⟨r, h1, h2⟩ := e; ⟨r, h1, Ev.pos h h2⟩
theorem EvP.neg {α : Type} {c : Prop} [Decidable c] {g f : Nat → Option α} {J : α → Prop} (h : ¬ c) (e : EvP f J) : EvP (fun k => if c then g k else f k) J := let ⟨r, h1, h2⟩ := e; ⟨r, h1, Ev.neg h h2⟩
theorem EvP.step {α : Type} {g f : Nat → Option α} {J : α → Prop} (h : ∀ k, g (k + 1) = f k) (e : EvP f J) : EvP g J := let ⟨r, h1, h2⟩ := e; ⟨r, h1, Ev.step h h2⟩
theorem EvP.congr {α : Type} {g f : Nat → Option α} {J : α → Prop} (h : ∀ k, g k = f k) (e : EvP f J) : EvP g J := let ⟨r, h1, h2⟩ := e; ⟨r, h1, Ev.congr h h2⟩
theorem EvP.bind {α β : Type} {g : Nat → Option α} {f : Nat → α → Option β} {a : α} {J : β → Prop} (h : Ev g a) (e : EvP (fun n => f n a) J) : EvP (fun n => (g n).bind (f n)) J := let ⟨r, h1, h2⟩ := e; ⟨r, h1, Ev.bind h h2⟩
theorem EvP.ev {α β : Type} {g : Nat → Option α} {f : Nat → α → Option β} {I : α → Prop} {r : β} (h : EvP g I) (e : ∀ a, I a → Ev (fun n => f n a) r) : Ev (fun n => (g n).bind (f n)) r := let ⟨a, h1, h2⟩ := h; Ev.bind h2 (e a h1)
theorem EvP.mono {α : Type} {g : Nat → Option α} {I J : α → Prop} (h : EvP g I) (hi : ∀ a, I a → J a) : EvP g J := let ⟨a, h1, h2⟩ := h; ⟨a, hi a h1, h2⟩
theorem EvP.loop {σ ρ : Type} {L : Nat → Int → σ → Option ρ} {n : Int} {J : ρ → Prop} (I : Int → σ → Prop)
    (hend : ∀ s, I n s → EvP (fun k => L k n s) J)
    (hstep : ∀ i s, 0 ≤ i → i < n → I i s → (∀ s', I (i + 1) s' → EvP (fun k => L k (i + 1) s') J) → EvP (fun k => L k i s) J) :
    ∀ (i : Int) (s : σ), 0 ≤ i → i ≤ n → I i s → EvP (fun k => L k i s) J := by
  have key : ∀ (d : Nat) (i : Int) (s : σ), 0 ≤ i → i + d = n → I i s → EvP (fun k => L k i s) J := by
    intro d
    induction d with
    | zero => intro i s h0 h1 hI; obtain rfl : i = n := by omega
              exact hend s hI
    | succ d ih =>
      intro i s h0 h1 hI
      exact hstep i s h0 (by omega) hI (fun s' h' => ih (i + 1) s' (by omega) (by omega) h')
  intro i s h0 h1 hI
  exact key (n - i).toNat i s h0 (by omega) hI
structure RepTo (K : Int) (next : List (List Int)) (f : Nat) (N : Int) (r : Nat) (F : List Int) (n : Int) : Prop where
  len : (F.length : Int) = N
  lo : ∀ i : Int, 0 ≤ i → i < n → 0 ≤ rd F i ∧ rd F i ≤ i
  al : ∀ i : Int, 0 ≤ i → i < n → Al K next f r (rd F i) i
  min : ∀ i j : Int, 0 ≤ i → i < n → 0 ≤ j → j < rd F i → ¬ Al K next f r j i
theorem RepTo.start {K : Int} {next : List (List Int)} {f : Nat} {N : Int} {r : Nat} (hN : 0 ≤ N) : RepTo K next f N r (List.replicate N.toNat 0) 0 :=
  ⟨by rw [List.length_replicate]; omega, fun i p q => by omega, fun i p q => by omega, fun i j p q => by omega⟩
theorem RepTo.put {K : Int} {next : List (List Int)} {f : Nat} {N : Int} {r : Nat} {F : List Int} {i v : Int} (h : RepTo K next f N r F i) (i0 : 0 ≤ i) (i1 : i < N) (v0 : 0 ≤ v) (v1 : v ≤ i) (ha : Al K next f r v i) (hm : ∀ j : Int, 0 ≤ j → j < v → ¬ Al K next f r j i) : RepTo K next f N r (F.set i.toNat v) (i + 1) := by
  have hl := h.len
  have e : ∀ x : Int, 0 ≤ x → rd (F.set i.toNat v) x = if x = i then v else rd F x := by
    intro x x0
    by_cases c : x = i
    · subst c; rw [if_pos rfl]; exact rd_set_eq _ _ _ x0 (by omega)
    · rw [if_neg c]; exact rd_set_ne _ _ _ _ i0 x0 c
  refine ⟨by rw [List.length_set]; exact hl, fun x p q => ?_, fun x p q => ?_, fun x j p q a b => ?_⟩
  · rw [e x p]; by_cases c : x = i
    · rw [if_pos c]; omega
    · rw [if_neg c]; exact h.lo x p (by omega)
  · rw [e x p]; by_cases c : x = i
    · rw [if_pos c, c]; exact ha
    · rw [if_neg c]; exact h.al x p (by omega)
  · rw [e x p] at b; by_cases c : x = i
    · rw [if_pos c] at b; rw [c]; exact hm j a b
    · rw [if_neg c] at b; exact h.min x j p (by omega) a b
theorem RepTo.done {K : Int} {next : List (List Int)} {f : Nat} {N : Int} {r : Nat} {F : List Int} (h : RepTo K next f N r F N) : Rep K next f N r F := ⟨h.len, h.lo, h.al, h.min⟩
theorem nfix_pos (F : List Int) (h : rd F 0 = 0) : ∀ n : Nat, 1 ≤ n → 1 ≤ nfix F n
  | 0, h => by omega
  | n + 1, _ => by
    unfold nfix
    by_cases c : n = 0
    · subst c; rw [if_pos (by simpa using h)]; omega
    · have := nfix_pos F h n (by omega); omega
theorem rdLB_set (T : List (List Bool)) (k k' : Int) (r : List Bool) (h0 : 0 ≤ k) (h1 : k < T.length) (h2 : 0 ≤ k') : rd_L4 (T.set k.toNat r) k' = if k' = k then r else rd_L4 T k' := by
  simp only [rd_L4, List.getD_eq_getElem?_getD]
  by_cases c : k' = k
  · subst c; rw [if_pos rfl, List.getElem?_set_self (by omega)]; rfl
  · rw [if_neg c, List.getElem?_set_ne (by omega)]
theorem rdB_set (r : List Bool) (p p' : Int) (b : Bool) (h0 : 0 ≤ p) (h1 : p < r.length) (h2 : 0 ≤ p') : rdOf false (r.set p.toNat b) p' = if p' = p then b else rdOf false r p' := by
  simp only [rdOf, List.getD_eq_getElem?_getD]
  by_cases c : p' = p
  · subst c; rw [if_pos rfl, List.getElem?_set_self (by omega)]; rfl
  · rw [if_neg c, List.getElem?_set_ne (by omega)]
def te (T : List (List Bool)) (k p : Int) : Bool := rdOf false (rd_L4 T k) p
theorem te_set {T : List (List Bool)} {k p k' p' : Int} {b : Bool} (h0 : 0 ≤ k) (h1 : k < T.length) (h2 : 0 ≤ p) (h3 : p < (rd_L4 T k).length) (h4 : 0 ≤ k') (h5 : 0 ≤ p') :
    te (T.set k.toNat ((rd_L4 T k).set p.toNat b)) k' p' = if k' = k ∧ p' = p then b else te T k' p' := by
  unfold te
  rw [rdLB_set _ _ _ _ h0 h1 h4]
  by_cases c : k' = k
  · subst c
    rw [if_pos rfl, rdB_set _ _ _ _ h2 h3 h5]
    by_cases d : p' = p
    · rw [if_pos d, if_pos ⟨rfl, d⟩]
    · rw [if_neg d, if_neg (fun q => d q.2)]
  · rw [if_neg c, if_neg (fun q => c q.1)]
theorem rowlen_set {T : List (List Bool)} {k p k' : Int} {b : Bool} (h0 : 0 ≤ k) (h1 : k < T.length) (h4 : 0 ≤ k') :
    (rd_L4 (T.set k.toNat ((rd_L4 T k).set p.toNat b)) k').length = (rd_L4 T k').length := by
  rw [rdLB_set _ _ _ _ h0 h1 h4]
  by_cases c : k' = k
  · subst c; rw [if_pos rfl, List.length_set]
  · rw [if_neg c]
theorem Bit_mach (a i : Nat) (ha : a < 2 ^ 32) (hi : i < 32) : coppicerref_Bit.f (a : Int) (i : Int) = some (a.testBit i) := by
  unfold coppicerref_Bit.f
  simp (disch := omega) only [if_pos, u64_id, bit_and a i ha hi]
structure FillT (N : Int) (P : Int → Int → Prop) (T : List (List Bool)) (a : Int) : Prop where
  len : (T.length : Int) = N
  row : ∀ a' : Int, 0 ≤ a' → a' < a → ((rd_L4 T a').length : Int) = N ∧ ∀ b : Int, 0 ≤ b → b < N → (te T a' b = true ↔ P a' b)
structure FillM (N : Int) (P : Int → Int → Prop) (T : List (List Bool)) (a b : Int) (Q : Prop) : Prop where
  below : FillT N P T a
  cur : ((rd_L4 T a).length : Int) = N
  old : ∀ b' : Int, 0 ≤ b' → b' < b → (te T a b' = true ↔ P a b')
  mid : b < N → (te T a b = true ↔ Q)
  rest : ∀ b' : Int, b < b' → b' < N → te T a b' = false
theorem FillT.start {N : Int} {P : Int → Int → Prop} (hN : 0 ≤ N) : FillT N P (List.replicate N.toNat []) 0 := ⟨by rw [List.length_replicate]; omega, fun a h0 h1 => absurd h1 (by omega)⟩
theorem rdB_rep (n : Nat) (b : Int) : rdOf false (List.replicate n false) b = false := by
  simp only [rdOf, List.getD_eq_getElem?_getD, List.getElem?_replicate]
  split <;> rfl
theorem FillT.opens {N : Int} {P : Int → Int → Prop} {T : List (List Bool)} {a : Int} (h : FillT N P T a) (hN : 0 ≤ N) (h0 : 0 ≤ a) (h1 : a < N) : FillM N P (T.set a.toNat (List.replicate N.toNat false)) a 0 False := by
  have hl := h.len
  have e : ∀ a' : Int, 0 ≤ a' → rd_L4 (T.set a.toNat (List.replicate N.toNat false)) a' = if a' = a then List.replicate N.toNat false else rd_L4 T a' := fun a' q => rdLB_set _ _ _ _ h0 (by omega) q
  refine ⟨⟨by rw [List.length_set]; exact hl, fun a' p q => ?_⟩, ?_, fun b' p q => by omega, fun p => ?_, fun b' p q => ?_⟩
  · have := h.row a' p q
    unfold te at this ⊢
    rw [e a' p, if_neg (by omega)]; exact this
  · rw [e a h0, if_pos rfl, List.length_replicate]; omega
  · unfold te; rw [e a h0, if_pos rfl, rdB_rep]; simp
  · unfold te; rw [e a h0, if_pos rfl, rdB_rep]
theorem FillM.put {N : Int} {P : Int → Int → Prop} {T : List (List Bool)} {a b : Int} {Q Q' : Prop} {v : Bool} (h : FillM N P T a b Q) (a0 : 0 ≤ a) (a1 : a < N) (b0 : 0 ≤ b) (b1 : b < N) (hv : v = true ↔ Q') :
    FillM N P (T.set a.toNat ((rd_L4 T a).set b.toNat v)) a b Q' := by
  have hl := h.below.len
  have hc := h.cur
  have e : ∀ a' b' : Int, 0 ≤ a' → 0 ≤ b' → te (T.set a.toNat ((rd_L4 T a).set b.toNat v)) a' b' = if a' = a ∧ b' = b then v else te T a' b' := fun a' b' p q => te_set a0 (by omega) b0 (by omega) p q
  have el : ∀ a' : Int, 0 ≤ a' → (rd_L4 (T.set a.toNat ((rd_L4 T a).set b.toNat v)) a').length = (rd_L4 T a').length := fun a' p => rowlen_set a0 (by omega) p
  refine ⟨⟨by rw [List.length_set]; exact hl, fun a' p q => ?_⟩, ?_, fun b' p q => ?_, fun p => ?_, fun b' p q => ?_⟩
  · have := h.below.row a' p q
    refine ⟨by rw [el a' p]; exact this.1, fun b' x y => ?_⟩
    rw [e a' b' p x, if_neg (by omega)]; exact this.2 b' x y
  · rw [el a a0]; exact hc
  · rw [e a b' a0 p, if_neg (by omega)]; exact h.old b' p q
  · rw [e a b a0 b0, if_pos ⟨rfl, rfl⟩]; exact hv
  · rw [e a b' a0 (by omega), if_neg (by omega)]; exact h.rest b' p q
theorem FillM.next {N : Int} {P : Int → Int → Prop} {T : List (List Bool)} {a b : Int} {Q : Prop} (h : FillM N P T a b Q) (b0 : 0 ≤ b) (b1 : b < N) (hq : Q ↔ P a b) : FillM N P T a (b + 1) False := by
  refine ⟨h.below, h.cur, fun b' p q => ?_, fun p => ?_, fun b' p q => h.rest b' (by omega) q⟩
  · by_cases c : b' = b
    · subst c; rw [h.mid b1]; exact hq
    · exact h.old b' p (by omega)
  · rw [h.rest (b + 1) (by omega) p]; simp
theorem FillM.close {N : Int} {P : Int → Int → Prop} {T : List (List Bool)} {a : Int} {Q : Prop} (h : FillM N P T a N Q) : FillT N P T (a + 1) := by
  refine ⟨h.below.len, fun a' p q => ?_⟩
  by_cases c : a' = a
  · subst c; exact ⟨h.cur, h.old⟩
  · exact h.below.row a' p (by omega)
section
variable {N K : Int} {next : List (List Int)} {st : Int} {f : Nat} (hN0 : 1 ≤ N) (hN1 : N ≤ 14) (hK : 0 ≤ K ∧ K ≤ 3) (hm : okMach N K next) (hf : f < 2 ^ 32)
include hN0 hN1 hK hm hf
theorem told_l1 {n i j a : Int} {r : Bool} (a0 : 0 ≤ a) (a1 : a < N)
    (he : ∀ T, FillT N (Td K next f 0) T (a + 1) → Ev (fun k => Zh.l0 k n i j T (a + 1) N K next st (f : Int)) r) (T : List (List Bool)) (hT : FillM N (Td K next f 0) T a 0 False) :
    Ev (fun k => Zh.l1 k n i j T a 0 N K next st (f : Int)) r := by
  refine Ev.loopc (σ := List (List Bool)) (L := fun k b T => Zh.l1 k n i j T a b N K next st (f : Int)) (n := N) (fun b T => FillM N (Td K next f 0) T a b False) ?_ ?_ 0 T (Int.le_refl _) (by omega) hT
  · intro T hT
    refine Ev.step (fun k => Zh.l1.eq_2 _ _ _ _ _ _ _ _ _ _ _ k) ?_
    rw [w64 (x := a + 1) (by omega) (by omega)]
    exact Ev.neg (by omega) (he T hT.close)
  · intro b T b0 b1 hT hn
    have hl := hT.below.len
    have hc := hT.cur
    refine Ev.step (fun k => Zh.l1.eq_2 _ _ _ _ _ _ _ _ _ _ _ k) ?_
    rw [w64 (x := b + 1) (by omega) (by omega)]
    have ea := Bit_mach f a.toNat hf (by omega)
    have eb := Bit_mach f b.toNat hf (by omega)
    rw [Int.toNat_of_nonneg a0] at ea
    rw [Int.toNat_of_nonneg b0] at eb
    refine Ev.pos b1 (Ev.pos a0 (Ev.pos (by omega) ?_))
    simp only [ea, eb, Option.bind_some]
    refine Ev.pos b0 (Ev.pos (by omega) (hn _ ?_))
    refine (hT.put a0 a1 b0 b1 (Q' := Td K next f 0 a b) ?_).next b0 b1 Iff.rfl
    show (f.testBit a.toNat != f.testBit b.toNat) = true ↔ f.testBit a.toNat ≠ f.testBit b.toNat
    exact bne_iff_ne
theorem told_start {n i j : Int} {r : Bool} (he : ∀ T, FillT N (Td K next f 0) T N → Ev (fun k => Zh.l2 k n i j T 0 N K next st (f : Int)) r) :
    Ev (fun k => Zh.f k N K next st (f : Int) n i j) r := by
  unfold Zh.f
  refine Ev.pos (by omega) (Ev.pos (by omega) ?_)
  refine Ev.loopc (σ := List (List Bool)) (L := fun k a T => Zh.l0 k n i j T a N K next st (f : Int)) (n := N) (fun a T => FillT N (Td K next f 0) T a) ?_ ?_ 0 _ (Int.le_refl _) (by omega) (FillT.start (by omega))
  · intro T hT
    refine Ev.step (fun k => Zh.l0.eq_2 _ _ _ _ _ _ _ _ _ _ k) ?_
    exact Ev.neg (by omega) (he T hT)
  · intro a T a0 a1 hT hn
    have hl := hT.len
    refine Ev.step (fun k => Zh.l0.eq_2 _ _ _ _ _ _ _ _ _ _ k) ?_
    refine Ev.pos a1 (Ev.pos (by omega) (Ev.pos (by omega) (Ev.pos a0 (Ev.pos (by omega) ?_))))
    exact told_l1 hN0 hN1 hK hm hf a0 a1 hn _ (hT.opens (by omega) a0 a1)
theorem told_l5 {n i j z a b : Int} {r : Bool} {m : Nat} {T : List (List Bool)} (hT : FillT N (Td K next f m) T N) (a0 : 0 ≤ a) (a1 : a < N) (b0 : 0 ≤ b) (b1 : b < N)
    (he : ∀ G, FillM N (Td K next f (m + 1)) G a (b + 1) False → Ev (fun k => Zh.l4 k n i j T z G a (b + 1) N K next st (f : Int)) r) (G : List (List Bool)) (hG : FillM N (Td K next f (m + 1)) G a b False) :
    Ev (fun k => Zh.l5 k n i j T z G a b 0 N K next st (f : Int)) r := by
  refine Ev.loopc (σ := List (List Bool)) (L := fun k s G => Zh.l5 k n i j T z G a b s N K next st (f : Int)) (n := K)
    (fun s G => FillM N (Td K next f (m + 1)) G a b (∃ c, 0 ≤ c ∧ c < s ∧ Td K next f m (mto next a c) (mto next b c))) ?_ ?_ 0 G (Int.le_refl _) hK.1 ?_
  · intro G hG
    refine Ev.step (fun k => Zh.l5.eq_2 _ _ _ _ _ _ _ _ _ _ _ _ _ _ k) ?_
    rw [w64 (x := b + 1) (by omega) (by omega)]
    exact Ev.neg (by omega) (he G (hG.next b0 b1 Iff.rfl))
  · intro s G s0 s1 hG hn
    have hl := hG.below.len
    have hc := hG.cur
    have hTl := hT.len
    have ra := hm.row a0 a1
    have rb := hm.row b0 b1
    have ta := hm.to a0 a1 s0 s1
    have tb := hm.to b0 b1 s0 s1
    have rowT := hT.row _ ta.1 ta.2
    have vT := rowT.2 _ tb.1 tb.2
    have hmid := hG.mid b1
    refine Ev.step (fun k => Zh.l5.eq_2 _ _ _ _ _ _ _ _ _ _ _ _ _ _ k) ?_
    rw [w64 (x := s + 1) (by omega) (by omega)]
    refine Ev.pos s1 (Ev.pos a0 (Ev.pos (by omega) (Ev.pos b0 (Ev.pos (by omega) ?_))))
    by_cases c : rdOf false (rd_L4 G a) b = true
    · refine Ev.pos c (hn _ (hG.put a0 a1 b0 b1 ?_))
      refine ⟨fun _ => ?_, fun _ => rfl⟩
      obtain ⟨x, x0, x1, h⟩ := hmid.1 c
      exact ⟨x, x0, by omega, h⟩
    · refine Ev.neg c (Ev.pos ra.2 (Ev.pos s0 (Ev.pos (by omega) (Ev.pos ta.1 ?_))))
      refine Ev.pos (show mto next a s < (T.length : Int) by omega) (Ev.pos rb.2 (Ev.pos (by omega) (Ev.pos tb.1 ?_)))
      refine Ev.pos (show mto next b s < ((rd_L4 T (mto next a s)).length : Int) by omega) (hn _ (hG.put a0 a1 b0 b1 ?_))
      have c' : ¬ te G a b = true := c
      rw [hmid] at c'
      show te T (mto next a s) (mto next b s) = true ↔ _
      rw [vT]
      constructor
      · intro h; exact ⟨s, s0, by omega, h⟩
      · rintro ⟨x, x0, x1, h⟩
        by_cases e : x = s
        · subst e; exact h
        · exact absurd ⟨x, x0, by omega, h⟩ c'
  · have e : (∃ c, 0 ≤ c ∧ c < 0 ∧ Td K next f m (mto next a c) (mto next b c)) ↔ False := ⟨fun ⟨c, p, q, _⟩ => by omega, False.elim⟩
    exact ⟨hG.below, hG.cur, hG.old, fun p => by rw [e]; exact hG.mid p, hG.rest⟩
theorem told_l4 {n i j z a : Int} {r : Bool} {m : Nat} {T : List (List Bool)} (hT : FillT N (Td K next f m) T N) (a0 : 0 ≤ a) (a1 : a < N)
    (he : ∀ G, FillT N (Td K next f (m + 1)) G (a + 1) → Ev (fun k => Zh.l3 k n i j T z G (a + 1) N K next st (f : Int)) r) (G : List (List Bool)) (hG : FillM N (Td K next f (m + 1)) G a 0 False) :
    Ev (fun k => Zh.l4 k n i j T z G a 0 N K next st (f : Int)) r := by
  refine Ev.loopc (σ := List (List Bool)) (L := fun k b G => Zh.l4 k n i j T z G a b N K next st (f : Int)) (n := N) (fun b G => FillM N (Td K next f (m + 1)) G a b False) ?_ ?_ 0 G (Int.le_refl _) (by omega) hG
  · intro G hG
    refine Ev.step (fun k => Zh.l4.eq_2 _ _ _ _ _ _ _ _ _ _ _ _ _ k) ?_
    rw [w64 (x := a + 1) (by omega) (by omega)]
    exact Ev.neg (by omega) (he G hG.close)
  · intro b G b0 b1 hG hn
    refine Ev.step (fun k => Zh.l4.eq_2 _ _ _ _ _ _ _ _ _ _ _ _ _ k) ?_
    exact Ev.pos b1 (told_l5 hN0 hN1 hK hm hf hT a0 a1 b0 b1 hn G hG)
theorem told_round {n i j z : Int} {r : Bool} {m : Nat} {T : List (List Bool)} (hz0 : 0 ≤ z) (hz : z ≤ 100) (hT : FillT N (Td K next f m) T N)
    (he : ∀ G, FillT N (Td K next f (m + 1)) G N → Ev (fun k => Zh.l2 k n i j G (z + 1) N K next st (f : Int)) r) :
    Ev (fun k => Zh.l3 k n i j T z (List.replicate N.toNat []) 0 N K next st (f : Int)) r := by
  refine Ev.loopc (σ := List (List Bool)) (L := fun k a G => Zh.l3 k n i j T z G a N K next st (f : Int)) (n := N) (fun a G => FillT N (Td K next f (m + 1)) G a) ?_ ?_ 0 _ (Int.le_refl _) (by omega) (FillT.start (by omega))
  · intro G hG
    refine Ev.step (fun k => Zh.l3.eq_2 _ _ _ _ _ _ _ _ _ _ _ _ k) ?_
    rw [w64 (x := z + 1) (by omega) (by omega)]
    exact Ev.neg (by omega) (he G hG)
  · intro a G a0 a1 hG hn
    have hl := hG.len
    refine Ev.step (fun k => Zh.l3.eq_2 _ _ _ _ _ _ _ _ _ _ _ _ k) ?_
    refine Ev.pos a1 (Ev.pos (by omega) (Ev.pos (by omega) (Ev.pos a0 (Ev.pos (by omega) ?_))))
    exact told_l4 hN0 hN1 hK hm hf hT a0 a1 hn _ (hG.opens (by omega) a0 a1)
theorem told_ev {n i j : Int} {R : Bool} (n0 : 0 ≤ n) (n1 : n ≤ 100) (i0 : 0 ≤ i) (i1 : i < N) (j0 : 0 ≤ j) (j1 : j < N) (hR : R = true ↔ Td K next f n.toNat i j) :
    Ev (fun k => Zh.f k N K next st (f : Int) n i j) R := by
  refine told_start hN0 hN1 hK hm hf (fun T hT => ?_)
  refine Ev.loopc (σ := List (List Bool)) (L := fun k z T => Zh.l2 k n i j T z N K next st (f : Int)) (n := n) (fun z T => FillT N (Td K next f z.toNat) T N) ?_ ?_ 0 T (Int.le_refl _) n0 hT
  · intro T hT
    have hl := hT.len
    have ht := hT.row i i0 i1
    refine Ev.step (fun k => Zh.l2.eq_2 _ _ _ _ _ _ _ _ _ _ k) ?_
    refine Ev.neg (by omega) (Ev.pos i0 (Ev.pos (by omega) (Ev.pos j0 (Ev.pos (by omega) (Ev.val ?_)))))
    have := (ht.2 j j0 j1).trans hR.symm
    exact Bool.eq_iff_iff.2 this
  · intro z T z0 z1 hT hn
    refine Ev.step (fun k => Zh.l2.eq_2 _ _ _ _ _ _ _ _ _ _ k) ?_
    refine Ev.pos z1 (Ev.pos (by omega) (Ev.pos (by omega) ?_))
    refine told_round hN0 hN1 hK hm hf z0 (by omega) hT (fun G hG => hn G ?_)
    have e : (z + 1).toNat = z.toNat + 1 := by omega
    rw [e]; exact hG
end
theorem least_ex (P : Int → Prop) : ∀ (n : Nat), P n → ∃ v : Int, 0 ≤ v ∧ v ≤ n ∧ P v ∧ ∀ j : Int, 0 ≤ j → j < v → ¬ P j := by
  intro n
  induction n using Nat.strongRecOn with
  | _ n ih =>
    intro h
    by_cases c : ∃ j : Nat, j < n ∧ P j
    · obtain ⟨j, hj, q⟩ := c
      obtain ⟨v, a, b, d, e⟩ := ih j hj q
      exact ⟨v, a, by omega, d, e⟩
    · refine ⟨n, by omega, by omega, h, fun j a b q => c ⟨j.toNat, by omega, ?_⟩⟩
      rw [Int.toNat_of_nonneg a]; exact q
theorem rep_ex (K : Int) (next : List (List Int)) (f : Nat) (N : Int) (hN : 0 ≤ N) (r : Nat) : ∃ F, Rep K next f N r F := by
  have key : ∀ n : Nat, (n : Int) ≤ N → ∃ F, RepTo K next f N r F n := by
    intro n
    induction n with
    | zero => intro _; exact ⟨_, RepTo.start hN⟩
    | succ n ih =>
      intro h
      obtain ⟨F, hF⟩ := ih (by omega)
      obtain ⟨v, a, b, d, e⟩ := least_ex (fun j => Al K next f r j n) n (Al.refl K next f r n)
      exact ⟨_, hF.put (by omega) (by omega) a b d e⟩
  obtain ⟨F, hF⟩ := key N.toNat (by omega)
  rw [Int.toNat_of_nonneg hN] at hF
  exact ⟨F, hF.done⟩
theorem rep_stop {K : Int} {next : List (List Int)} {f : Nat} {N : Int} (hN : 1 ≤ N) : ∀ (d r : Nat) (F : List Int), Rep K next f N r F → r + 1 ≤ nfix F N.toNat → nfix F N.toNat + d = N.toNat → ∃ r' F', r' ≤ (N - 1).toNat ∧ Rep K next f N r' F' ∧ Rep K next f N (r' + 1) F' := by
  intro d
  induction d using Nat.strongRecOn with
  | _ d ih =>
    intro r F hF hr hd
    obtain ⟨G, hG⟩ := rep_ex K next f N (by omega) (r + 1)
    by_cases c : G = F
    · rw [c] at hG; exact ⟨r, F, by omega, hF, hG⟩
    · have lt := hF.more (by omega) hG c
      have le := nfix_le G N.toNat
      exact ih (N.toNat - nfix G N.toNat) (by omega) (r + 1) G hG (by omega) (by omega)
theorem rep_all {K : Int} {next : List (List Int)} {f : Nat} {N : Int} {F : List Int} (hN : 1 ≤ N) (hm : okMach N K next) (hF : Rep K next f N (N - 1).toNat F) {i j : Int} (i0 : 0 ≤ i) (i1 : i < N) (j0 : 0 ≤ j) (j1 : j < N) : rd F i = rd F j ↔ ∀ n, ¬ Td K next f n i j := by
  obtain ⟨F0, h0⟩ := rep_ex K next f N (by omega) 0
  have l0 := h0.lo 0 (by omega) (by omega)
  have hp := nfix_pos F0 (by omega) N.toNat (by omega)
  have le := nfix_le F0 N.toNat
  obtain ⟨r, G, hr, hG, hG2⟩ := rep_stop hN (N.toNat - nfix F0 N.toNat) 0 F0 h0 (by omega) (by omega)
  have st := hG.stays hm hG2
  have e : F = G := by
    have := st ((N - 1).toNat - r)
    rw [show r + ((N - 1).toNat - r) = (N - 1).toNat by omega] at this
    exact hF.uniq this
  subst e
  constructor
  · intro q n
    exact ((st n).iff i0 i1 j0 j1).1 q n (by omega)
  · intro q
    exact (hF.iff i0 i1 j0 j1).2 (fun n _ => q n)
theorem al_all {K : Int} {next : List (List Int)} {f : Nat} {N : Int} (hN : 1 ≤ N) (hm : okMach N K next) {i j : Int} (i0 : 0 ≤ i) (i1 : i < N) (j0 : 0 ≤ j) (j1 : j < N) (h : Al K next f (N - 1).toNat i j) : ∀ n, ¬ Td K next f n i j := by
  obtain ⟨F, hF⟩ := rep_ex K next f N (by omega) (N - 1).toNat
  exact (rep_all hN hm hF i0 i1 j0 j1).1 ((hF.iff i0 i1 j0 j1).2 h)
def besM (NA : Int) (nA nB : List (List Int)) : List (List Int) := nA ++ nB.map (fun l => l.map (fun x => x + NA))
theorem rd_map_add (l : List Int) (a c : Int) (c0 : 0 ≤ c) (c1 : c < l.length) : rd (l.map (fun x => x + a)) c = rd l c + a := by
  have h : c.toNat < l.length := by omega
  simp [rd, List.getD_eq_getElem?_getD, List.getElem?_map, List.getElem?_eq_getElem h]
section
variable {NA NB K : Int} {nA nB : List (List Int)} {fA fB fM : Nat} (hA1 : 1 ≤ NA) (hB1 : 1 ≤ NB) (hA : okMach NA K nA) (hB : okMach NB K nB)
  (hl : ∀ i : Int, 0 ≤ i → i < NA → fM.testBit i.toNat = fA.testBit i.toNat) (hr : ∀ j : Int, 0 ≤ j → j < NB → fM.testBit (NA + j).toNat = fB.testBit j.toNat)
include hA1 hB1 hA hB hl hr
theorem mto_l {i c : Int} (i0 : 0 ≤ i) (i1 : i < NA) : mto (besM NA nA nB) i c = mto nA i c := by
  have := hA.1
  unfold mto besM
  simp only [Zd, List.getD_eq_getElem?_getD]
  rw [List.getElem?_append_left (by omega)]
theorem mto_r {j c : Int} (j0 : 0 ≤ j) (j1 : j < NB) (c0 : 0 ≤ c) (c1 : c < K) : mto (besM NA nA nB) (NA + j) c = NA + mto nB j c := by
  have lA := hA.1
  have lB := hB.1
  have hrow := hB.row j0 j1
  unfold mto besM
  have e : Zd (nA ++ nB.map (fun l => l.map (fun x => x + NA))) (NA + j) = (Zd nB j).map (fun x => x + NA) := by
    simp only [Zd, List.getD_eq_getElem?_getD]
    rw [List.getElem?_append_right (by omega), show (NA + j).toNat - nA.length = j.toNat by omega, List.getElem?_map, List.getElem?_eq_getElem (show j.toNat < nB.length by omega)]
    rfl
  rw [e, rd_map_add _ _ _ c0 (by omega)]; omega
theorem bes_ok : okMach (NA + NB) K (besM NA nA nB) := by
  have lA := hA.1
  have lB := hB.1
  refine ⟨by unfold besM; rw [List.length_append, List.length_map]; omega, fun row h => ?_⟩
  unfold besM at h
  rcases List.mem_append.1 h with h | h
  · have := hA.2 row h
    exact ⟨this.1, fun x hx => by have := this.2 x hx; omega⟩
  · obtain ⟨l, h1, rfl⟩ := List.mem_map.1 h
    have := hB.2 l h1
    refine ⟨by rw [List.length_map]; exact this.1, fun x hx => ?_⟩
    obtain ⟨y, h2, rfl⟩ := List.mem_map.1 hx
    have := this.2 y h2; omega
def EqM (K NA : Int) (nA nB : List (List Int)) (fM : Nat) (i j : Int) : Prop := ∀ n, ¬ Td K (besM NA nA nB) fM n i j
omit hA1 hB1 hA hB hl hr in
theorem EqM.symm {i j : Int} (h : EqM K NA nA nB fM i j) : EqM K NA nA nB fM j i := fun n q => h n (Td.symm _ _ _ n _ _ q)
omit hA1 hB1 hA hB hl hr in
theorem EqM.trans {i j k : Int} (h : EqM K NA nA nB fM i j) (h2 : EqM K NA nA nB fM j k) : EqM K NA nA nB fM i k := fun n q => by
  rcases Td.mid _ _ _ n i j k q with q | q
  · exact h n q
  · exact h2 n q
omit hA1 hB1 hA hB hl hr in
theorem EqM.step {i j c : Int} (h : EqM K NA nA nB fM i j) (c0 : 0 ≤ c) (c1 : c < K) : EqM K NA nA nB fM (mto (besM NA nA nB) i c) (mto (besM NA nA nB) j c) := fun n q => h (n + 1) ⟨c, c0, c1, q⟩
end
theorem take_rdL {l : List (List Int)} {i : Int} (h0 : 0 ≤ i) (h1 : i < l.length) : l.take (i + 1).toNat = l.take i.toNat ++ [Zd l i] := by
  have h : i.toNat < l.length := by omega
  have e : (i + 1).toNat = i.toNat + 1 := by omega
  have g : Zd l i = l[i.toNat] := by simp [Zd, List.getD_eq_getElem?_getD, List.getElem?_eq_getElem h]
  rw [g, e, List.take_succ_eq_append_getElem h]
theorem shl_nat (a n : Nat) (h : n < 32) (h2 : a * 2 ^ n < 2 ^ 32) : shl .u32 (a : Int) (n : Int) = ((a * 2 ^ n : Nat) : Int) := by
  unfold shl
  have e : min ((n : Int)).toNat IntKind.u32.bits = n := by simp [IntKind.bits]; omega
  have e2 : ((a : Int) * 2 ^ n) = ((a * 2 ^ n : Nat) : Int) := by simp
  rw [e, e2, u32_id (by omega) (by omega)]
section
variable {NA NB K : Int} {nA nB : List (List Int)} {sA fA sB fB : Int} (hA1 : 1 ≤ NA) (hB1 : 1 ≤ NB) (hA7 : NA ≤ 7) (hB7 : NB ≤ 7) (hK : 0 ≤ K ∧ K ≤ 3) (hA : okMach NA K nA) (hB : okMach NB K nB)
include hA1 hB1 hA7 hB7 hK hA hB
theorem beside_l2 {j : Int} (j0 : 0 ≤ j) (j1 : j < NB) {oN oK oS oF : Int} {acc : List (List Int)} (ha : acc.length ≤ 100) {r : Int × Int × List (List Int) × Int × Int}
    (he : Ev (fun k => Zx.l1 k nB (nB.length : Int) (j + 1) NA K nA sA fA oN oK (acc ++ [(Zd nB j).map (fun x => x + NA)]) oS oF) r) :
    Ev (fun k => Zx.l2 k [] nB (nB.length : Int) j (Zd nB j) ((Zd nB j).length : Int) 0 NA K nA sA fA oN oK acc oS oF) r := by
  have hrow := hB.row j0 j1
  refine Ev.loopc (σ := List Int) (L := fun k c x => Zx.l2 k x nB (nB.length : Int) j (Zd nB j) ((Zd nB j).length : Int) c NA K nA sA fA oN oK acc oS oF) (n := ((Zd nB j).length : Int))
    (fun c x => x = ((Zd nB j).take c.toNat).map (fun x => x + NA)) ?_ ?_ 0 [] (Int.le_refl _) (by omega) (by simp)
  · rintro x rfl
    refine Ev.step (fun k => Zx.l2.eq_2 _ _ _ _ _ _ _ _ _ _ _ _ _ _ _ _ _ k) ?_
    rw [w64 (x := j + 1) (by omega) (by omega), Int.toNat_natCast, List.take_length]
    exact Ev.neg (by omega) (Ev.pos (by omega) he)
  · rintro c x c0 c1 rfl hn
    have hb := (hB.2 _ (rdL_mem j0 hrow.2)).2 _ (rd_mem c0 c1)
    refine Ev.step (fun k => Zx.l2.eq_2 _ _ _ _ _ _ _ _ _ _ _ _ _ _ _ _ _ k) ?_
    rw [w64 (x := c + 1) (by omega) (by omega), w64 (x := rd (Zd nB j) c + NA) (by omega) (by omega)]
    refine Ev.pos c1 (Ev.pos c0 (Ev.pos c1 (Ev.pos (by rw [List.length_map, List.length_take]; omega) (hn _ ?_))))
    rw [take_rd c0 c1, List.map_append]; rfl
theorem beside_ev (f0 : 0 ≤ fA) (f1 : 0 ≤ fB) : Ev (fun k => Zx.f k NA K nA sA fA NB K nB sB fB) (NA + NB, K, besM NA nA nB, sA, Go.bits .or .u32 fA (shl .u32 fB NA)) := by
  have lA := hA.1
  have lB := hB.1
  unfold Zx.f
  rw [u64_id (by omega) (by omega), w64 (x := NA + NB) (by omega) (by omega)]
  refine Ev.pos (by omega) ?_
  refine Ev.loopc (σ := List (List Int)) (L := fun k i acc => Zx.l0 k nA (nA.length : Int) i NA K nA sA fA NB K nB sB fB (NA + NB) K acc sA (Go.bits .or .u32 fA (shl .u32 fB NA))) (n := (nA.length : Int))
    (fun i acc => acc = nA.take i.toNat) ?_ ?_ 0 [] (Int.le_refl _) (by omega) (by simp)
  · rintro acc rfl
    refine Ev.step (fun k => Zx.l0.eq_2 _ _ _ _ _ _ _ _ _ _ _ _ _ _ _ _ _ _ k) ?_
    refine Ev.neg (by omega) ?_
    rw [Int.toNat_natCast, List.take_length]
    refine Ev.loopc (σ := List (List Int)) (L := fun k j acc => Zx.l1 k nB (nB.length : Int) j NA K nA sA fA (NA + NB) K acc sA (Go.bits .or .u32 fA (shl .u32 fB NA))) (n := (nB.length : Int))
      (fun j acc => acc = nA ++ (nB.take j.toNat).map (fun l => l.map (fun x => x + NA))) ?_ ?_ 0 nA (Int.le_refl _) (by omega) (by simp)
    · rintro acc rfl
      refine Ev.step (fun k => Zx.l1.eq_2 _ _ _ _ _ _ _ _ _ _ _ _ _ k) ?_
      refine Ev.neg (by omega) (Ev.val ?_)
      rw [Int.toNat_natCast, List.take_length]; rfl
    · rintro j acc j0 j1 rfl hn
      refine Ev.step (fun k => Zx.l1.eq_2 _ _ _ _ _ _ _ _ _ _ _ _ _ k) ?_
      refine Ev.pos j1 (Ev.pos j0 (Ev.pos j1 ?_))
      refine beside_l2 hA1 hB1 hA7 hB7 hK hA hB j0 (by omega) (by rw [List.length_append, List.length_map, List.length_take]; omega) (hn _ ?_)
      rw [take_rdL j0 j1, List.map_append, List.append_assoc]; rfl
  · rintro i acc i0 i1 rfl hn
    have hrow := hA.row i0 (by omega)
    refine Ev.step (fun k => Zx.l0.eq_2 _ _ _ _ _ _ _ _ _ _ _ _ _ _ _ _ _ _ k) ?_
    rw [w64 (x := i + 1) (by omega) (by omega)]
    simp only [Option.bind_some, List.nil_append, List.length_nil]
    refine Ev.pos i1 (Ev.pos i0 (Ev.pos i1 (Ev.pos (by omega) (Ev.pos (by rw [List.length_take]; omega) (hn _ ?_)))))
    rw [take_rdL i0 i1]
end
theorem nodupI_le : ∀ (n : Nat) (l : List Int), l.Nodup → (∀ x ∈ l, 0 ≤ x ∧ x < n) → l.length ≤ n
  | 0, l, _, h => by
    cases l with
    | nil => simp
    | cons x l => exact absurd (h x (by simp)) (by omega)
  | n + 1, l, hd, h => by
    have := nodupI_le n (l.erase (n : Int)) (hd.erase _) (fun x hx => by
      have hx2 := (hd.mem_erase_iff).1 hx
      have := h x hx2.2
      have := hx2.1
      omega)
    rw [List.length_erase] at this
    split at this <;> omega
def cdf (K a : Nat) (v : List Int) : Nat := v.foldl (fun a s => K * a + (s.toNat + 1)) a
def okW (K : Nat) (v : List Int) : Prop := ∀ c ∈ v, 0 ≤ c ∧ c < (K : Int)
theorem cdf_cons (K a : Nat) (s : Int) (v : List Int) : cdf K a (s :: v) = cdf K (K * a + (s.toNat + 1)) v := rfl
theorem cdf_snoc (K a : Nat) (v : List Int) (s : Int) : cdf K a (v ++ [s]) = K * cdf K a v + (s.toNat + 1) := by simp [cdf, List.foldl_append]
theorem cdf_app (K a : Nat) (v z : List Int) : cdf K a (v ++ z) = cdf K (cdf K a v) z := by simp [cdf, List.foldl_append]
theorem cdf_lt {K : Nat} : ∀ (v x : List Int) (a b : Nat), v.length = x.length → okW K v → okW K x → a < b → cdf K a v < cdf K b x
  | [], [], a, b, _, _, _, h => h
  | [], _ :: _, _, _, hl, _, _, _ => by cases hl
  | _ :: _, [], _, _, hl, _, _, _ => by cases hl
  | s :: v, t :: x, a, b, hl, hv, hx, h => by
    rw [cdf_cons, cdf_cons]
    refine cdf_lt v x _ _ (by simpa using hl) (fun c hc => hv c (by simp [hc])) (fun c hc => hx c (by simp [hc])) ?_
    have hs := hv s (by simp)
    have q : K * a + K ≤ K * b := by
      have := Nat.mul_le_mul_left K h
      rw [Nat.mul_succ] at this
      exact this
    omega
theorem cdf_pos {K : Nat} {y : List Int} (h : y ≠ []) (a : Nat) : 0 < cdf K a y := by
  rw [← List.dropLast_concat_getLast h, cdf_snoc]; omega
theorem cdf_len {K : Nat} {v x : List Int} (hv : okW K v) (hx : okW K x) (h : v.length < x.length) : cdf K 0 v < cdf K 0 x := by
  have e : cdf K 0 x = cdf K (cdf K 0 (x.take (x.length - v.length))) (x.drop (x.length - v.length)) := by rw [← cdf_app, List.take_append_drop]
  rw [e]
  refine cdf_lt v _ 0 _ (by rw [List.length_drop]; omega) hv (fun c hc => hx c (List.mem_of_mem_drop hc)) (cdf_pos (fun q => ?_) 0)
  have := congrArg List.length q
  rw [List.length_take, List.length_nil] at this
  omega
theorem cdf_inj1 {K : Nat} : ∀ (v x : List Int) (a : Nat), v.length = x.length → okW K v → okW K x → cdf K a v = cdf K a x → v = x
  | [], [], _, _, _, _, _ => rfl
  | [], _ :: _, _, hl, _, _, _ => by cases hl
  | _ :: _, [], _, hl, _, _, _ => by cases hl
  | s :: v, t :: x, a, hl, hv, hx, h => by
    rw [cdf_cons, cdf_cons] at h
    have hs := hv s (by simp)
    have ht := hx t (by simp)
    have hl2 : v.length = x.length := by simpa using hl
    have hv2 : okW K v := fun c hc => hv c (by simp [hc])
    have hx2 : okW K x := fun c hc => hx c (by simp [hc])
    rcases Nat.lt_trichotomy s.toNat t.toNat with q | q | q
    · exact absurd h (Nat.ne_of_lt (cdf_lt v x _ _ hl2 hv2 hx2 (by omega)))
    · obtain rfl : s = t := by omega
      rw [cdf_inj1 v x _ hl2 hv2 hx2 h]
    · exact absurd h (Nat.ne_of_gt (cdf_lt x v _ _ hl2.symm hx2 hv2 (by omega)))
theorem cdf_inj {K : Nat} {v x : List Int} (hv : okW K v) (hx : okW K x) (h : cdf K 0 v = cdf K 0 x) : v = x := by
  rcases Nat.lt_trichotomy v.length x.length with q | q | q
  · exact absurd h (Nat.ne_of_lt (cdf_len hv hx q))
  · exact cdf_inj1 v x 0 q hv hx h
  · exact absurd h (Nat.ne_of_gt (cdf_len hx hv q))
theorem okW_snoc {K : Nat} {v : List Int} {s : Int} (hv : okW K v) (s0 : 0 ≤ s) (s1 : s < K) : okW K (v ++ [s]) := fun c hc => by
  rcases List.mem_append.1 hc with hc | hc
  · exact hv c hc
  · rw [List.mem_singleton] at hc; rw [hc]; exact ⟨s0, s1⟩
theorem mrun_snoc (next : List (List Int)) : ∀ (v : List Int) (i c : Int), mrun next i (v ++ [c]) = mto next (mrun next i v) c
  | [], i, c => rfl
  | s :: v, i, c => mrun_snoc next v (mto next i s) c
def Tw (next : List (List Int)) (f : Nat) (v : List Int) (i j : Int) : Prop := f.testBit (mrun next i v).toNat ≠ f.testBit (mrun next j v).toNat
theorem td_iff (K : Nat) (next : List (List Int)) (f : Nat) : ∀ (n : Nat) (i j : Int), Td (K : Int) next f n i j ↔ ∃ v, v.length = n ∧ okW K v ∧ Tw next f v i j
  | 0, i, j => ⟨fun h => ⟨[], rfl, fun c hc => by simp at hc, h⟩, fun ⟨v, hl, _, h⟩ => by
      cases v with
      | nil => exact h
      | cons _ _ => cases hl⟩
  | n + 1, i, j => ⟨fun ⟨c, c0, c1, h⟩ => by
      obtain ⟨v, hl, hv, q⟩ := (td_iff K next f n _ _).1 h
      exact ⟨c :: v, by simp [hl], fun x hx => by
        rcases List.mem_cons.1 hx with rfl | hx
        · exact ⟨c0, c1⟩
        · exact hv x hx, q⟩, fun ⟨v, hl, hv, h⟩ => by
      cases v with
      | nil => cases hl
      | cons c v =>
        have hc := hv c (by simp)
        exact ⟨c, hc.1, hc.2, (td_iff K next f n _ _).2 ⟨v, by simpa using hl, fun x hx => hv x (by simp [hx]), h⟩⟩⟩
section
variable {N : Int} {K : Nat} {next : List (List Int)} {st : Int} {f : Nat} (hN0 : 1 ≤ N) (hN1 : N ≤ 14) (hK : 0 ≤ (K : Int) ∧ (K : Int) ≤ 3) (hm : okMach N K next) (hf : f < 2 ^ 32)
include hN0 hN1 hK hm hf
theorem apart_l1 : ∀ (n : Nat) (i j : Int) (w : List Int), n ≤ 50 → w.length + n ≤ 100 → 0 ≤ i → i < N → 0 ≤ j → j < N → Td K next f n i j →
    EvP (fun k => Zu.l1 k i j (n : Int) w N K next st (f : Int)) (fun r => r.2 = true ∧ ∃ v, r.1 = w ++ v ∧ v.length = n ∧ okW K v ∧ Tw next f v i j ∧ ∀ x, x.length = n → okW K x → Tw next f x i j → ∀ a, cdf K a v ≤ cdf K a x) := by
  intro n
  induction n with
  | zero =>
    intro i j w hn hw i0 i1 j0 j1 h
    refine EvP.step (fun k => Zu.l1.eq_2 _ _ _ _ _ _ _ _ _ k) ?_
    refine EvP.neg (by omega) (EvP.now ⟨rfl, [], (List.append_nil _).symm, rfl, fun c hc => by simp at hc, h, fun x hx _ _ a => ?_⟩)
    rw [List.eq_nil_of_length_eq_zero hx]
    exact Nat.le_refl _
  | succ n ih =>
    intro i j w hn hw i0 i1 j0 j1 h
    obtain ⟨c, c0, c1, hc⟩ := h
    refine EvP.step (fun k => Zu.l1.eq_2 _ _ _ _ _ _ _ _ _ k) ?_
    refine EvP.pos (by omega) ?_
    have ri := hm.row i0 i1
    have rj := hm.row j0 j1
    have key : ∀ (d : Nat) (s : Int), 0 ≤ s → s + d = c → (∀ t, 0 ≤ t → t < s → ¬ Td K next f n (mto next i t) (mto next j t)) → EvP (fun k => Zu.l2 k i j ((n + 1 : Nat) : Int) w s N K next st (f : Int)) (fun r => r.2 = true ∧ ∃ v, r.1 = w ++ v ∧ v.length = n + 1 ∧ okW K v ∧ Tw next f v i j ∧ ∀ x, x.length = n + 1 → okW K x → Tw next f x i j → ∀ a, cdf K a v ≤ cdf K a x) := by
      intro d
      induction d with
      | zero =>
        intro s s0 e hno
        obtain rfl : s = c := by omega
        have ti := hm.to i0 i1 s0 c1
        have tj := hm.to j0 j1 s0 c1
        refine EvP.step (fun k => Zu.l2.eq_2 _ _ _ _ _ _ _ _ _ _ k) ?_
        rw [w64 (x := ((n + 1 : Nat) : Int) - 1) (by omega) (by omega), show ((n + 1 : Nat) : Int) - 1 = (n : Int) by omega]
        refine EvP.pos i0 (EvP.pos ri.2 (EvP.pos s0 (EvP.pos (by omega) (EvP.pos j0 (EvP.pos rj.2 (EvP.pos (by omega) ?_))))))
        refine EvP.bind (told_ev hN0 hN1 hK hm hf (R := true) (by omega) (by omega) ti.1 ti.2 tj.1 tj.2 ⟨fun _ => by rw [Int.toNat_natCast]; exact hc, fun _ => rfl⟩) ?_
        refine EvP.pos rfl (EvP.pos (by omega) ((ih _ _ (w ++ [s]) (by omega) (by rw [List.length_append]; simp; omega) ti.1 ti.2 tj.1 tj.2 hc).mono ?_))
        rintro r ⟨r2, v, r1, vl, vk, vt, vm⟩
        refine ⟨r2, s :: v, by rw [r1, List.append_assoc]; rfl, by simp [vl], fun x hx => ?_, vt, fun x xl xk xt a => ?_⟩
        · rcases List.mem_cons.1 hx with rfl | hx
          · exact ⟨s0, c1⟩
          · exact vk x hx
        · cases x with
          | nil => cases xl
          | cons t x =>
            have ht := xk t (by simp)
            have xl2 : x.length = n := by simpa using xl
            have xk2 : okW K x := fun c hc => xk c (by simp [hc])
            rw [cdf_cons, cdf_cons]
            rcases Int.lt_trichotomy t s with q | q | q
            · exact absurd ((td_iff K next f n _ _).2 ⟨x, xl2, xk2, xt⟩) (hno t ht.1 q)
            · subst q
              exact vm x xl2 xk2 xt _
            · exact Nat.le_of_lt (cdf_lt v x _ _ (by omega) vk xk2 (by omega))
      | succ d ih2 =>
        intro s s0 e hno
        have s1 : s < K := by omega
        have ti := hm.to i0 i1 s0 s1
        have tj := hm.to j0 j1 s0 s1
        obtain ⟨B, hB⟩ := isB (Td K next f n (mto next i s) (mto next j s))
        refine EvP.step (fun k => Zu.l2.eq_2 _ _ _ _ _ _ _ _ _ _ k) ?_
        rw [w64 (x := ((n + 1 : Nat) : Int) - 1) (by omega) (by omega), show ((n + 1 : Nat) : Int) - 1 = (n : Int) by omega, w64 (x := s + 1) (by omega) (by omega)]
        refine EvP.pos i0 (EvP.pos ri.2 (EvP.pos s0 (EvP.pos (by omega) (EvP.pos j0 (EvP.pos rj.2 (EvP.pos (by omega) ?_))))))
        refine EvP.bind (told_ev hN0 hN1 hK hm hf (R := B) (by omega) (by omega) ti.1 ti.2 tj.1 tj.2 (by rw [Int.toNat_natCast]; exact hB)) ?_
        by_cases b : B = true
        · refine EvP.pos b (EvP.pos (by omega) ((ih _ _ (w ++ [s]) (by omega) (by rw [List.length_append]; simp; omega) ti.1 ti.2 tj.1 tj.2 (hB.1 b)).mono ?_))
          rintro r ⟨r2, v, r1, vl, vk, vt, vm⟩
          refine ⟨r2, s :: v, by rw [r1, List.append_assoc]; rfl, by simp [vl], fun x hx => ?_, vt, fun x xl xk xt a => ?_⟩
          · rcases List.mem_cons.1 hx with rfl | hx
            · exact ⟨s0, s1⟩
            · exact vk x hx
          · cases x with
            | nil => cases xl
            | cons t x =>
              have ht := xk t (by simp)
              have xl2 : x.length = n := by simpa using xl
              have xk2 : okW K x := fun c hc => xk c (by simp [hc])
              rw [cdf_cons, cdf_cons]
              rcases Int.lt_trichotomy t s with q | q | q
              · exact absurd ((td_iff K next f n _ _).2 ⟨x, xl2, xk2, xt⟩) (hno t ht.1 q)
              · subst q
                exact vm x xl2 xk2 xt _
              · exact Nat.le_of_lt (cdf_lt v x _ _ (by omega) vk xk2 (by omega))
        · refine EvP.neg b (ih2 (s + 1) (by omega) (by omega) (fun t t0 t1 => ?_))
          by_cases q : t = s
          · rw [q]; exact fun z => b (hB.2 z)
          · exact hno t t0 (by omega)
    exact key c.toNat 0 (Int.le_refl _) (by omega) (fun t t0 t1 => by omega)
def ApRes (K : Nat) (next : List (List Int)) (f : Nat) (i j : Int) (r : List Int × Bool) : Prop :=
  (r.2 = true ∧ okW K r.1 ∧ Tw next f r.1 i j ∧ ∀ x, okW K x → Tw next f x i j → cdf K 0 r.1 ≤ cdf K 0 x) ∨ (r.2 = false ∧ ∀ x, okW K x → ¬ Tw next f x i j)
theorem apart_l0 {i j : Int} (i0 : 0 ≤ i) (i1 : i < N) (j0 : 0 ≤ j) (j1 : j < N) : ∀ (d : Nat) (n : Int), 0 ≤ n → n + d = N → (∀ m : Nat, (m : Int) < n → ¬ Td K next f m i j) →
    EvP (fun k => Zu.l0 k i j n N K next st (f : Int)) (ApRes K next f i j) := by
  have body : ∀ (n : Int), 0 ≤ n → n ≤ N → (∀ m : Nat, (m : Int) < n → ¬ Td K next f m i j) →
      (n < N → (∀ m : Nat, (m : Int) < n + 1 → ¬ Td K next f m i j) → EvP (fun k => Zu.l0 k i j (n + 1) N K next st (f : Int)) (ApRes K next f i j)) →
      EvP (fun k => Zu.l0 k i j n N K next st (f : Int)) (ApRes K next f i j) := by
    intro n n0 n1 h hn
    obtain ⟨B, hB⟩ := isB (Td K next f n.toNat i j)
    refine EvP.step (fun k => Zu.l0.eq_2 _ _ _ _ _ _ _ _ k) ?_
    rw [w64 (x := n + 1) (by omega) (by omega)]
    refine EvP.bind (told_ev hN0 hN1 hK hm hf (R := B) n0 (by omega) i0 i1 j0 j1 hB) ?_
    by_cases b : B = true
    · refine EvP.pos b ?_
      have := apart_l1 hN0 hN1 hK hm hf (st := st) n.toNat i j [] (by omega) (by simp; omega) i0 i1 j0 j1 (hB.1 b)
      rw [Int.toNat_of_nonneg n0] at this
      refine this.mono ?_
      rintro r ⟨r2, v, r1, vl, vk, vt, vm⟩
      rw [List.nil_append] at r1
      refine .inl ⟨r2, by rw [r1]; exact vk, by rw [r1]; exact vt, fun x xk xt => ?_⟩
      rw [r1]
      rcases Nat.lt_trichotomy x.length v.length with q | q | q
      · exact absurd ((td_iff K next f x.length i j).2 ⟨x, rfl, xk, xt⟩) (h x.length (by omega))
      · exact vm x (by omega) xk xt 0
      · exact Nat.le_of_lt (cdf_len vk xk q)
    · refine EvP.neg b ?_
      have h2 : ∀ m : Nat, (m : Int) < n + 1 → ¬ Td K next f m i j := fun m hm2 => by
        by_cases e : (m : Int) = n
        · have : m = n.toNat := by omega
          rw [this]; exact fun q => b (hB.2 q)
        · exact h m (by omega)
      by_cases c : n + 1 > N
      · refine EvP.pos c (EvP.now (.inr ⟨rfl, fun x xk xt => ?_⟩))
        exact al_all hN0 hm i0 i1 j0 j1 (fun m hm2 => h2 m (by omega)) x.length ((td_iff K next f x.length i j).2 ⟨x, rfl, xk, xt⟩)
      · exact EvP.neg c (hn (by omega) h2)
  intro d
  induction d with
  | zero => intro n n0 e h; exact body n n0 (by omega) h (fun q => by omega)
  | succ d ih => intro n n0 e h; exact body n n0 (by omega) h (fun q h2 => ih (n + 1) (by omega) (by omega) h2)
end
section
variable (K : Nat) (nA nB : List (List Int)) (fA fB : Nat) (st : Int × Int)
def prun (p : Int × Int) (v : List Int) : Int × Int := (mrun nA p.1 v, mrun nB p.2 v)
def pst (p : Int × Int) (s : Int) : Int × Int := (mto nA p.1 s, mto nB p.2 s)
def Tp (p : Int × Int) : Prop := fA.testBit p.1.toNat ≠ fB.testBit p.2.toNat
def wdP (m : PM) (p : Int × Int) : List Int := (lkP m p).getD []
def cw (m : PM) (p : Int × Int) : Nat := cdf K 0 (wdP m p)
structure BC (m : PM) (Q : List (Int × Int)) : Prop where
  key : ∀ p u, lkP m p = some u → okW K u ∧ prun nA nB st u = p ∧ u.length ≤ m.length
  nod : (m.map Prod.fst).Nodup
  qk : ∀ p ∈ Q, (lkP m p).isSome = true
  srt : Q.Pairwise (fun p q => cw K m p < cw K m q)
  ql : Q.length ≤ m.length
  st0 : lkP m st = some []
def DoneP (m : PM) (Q : List (Int × Int)) (x : Int × Int) : Prop :=
  ¬ Tp fA fB x ∧ (∀ s, 0 ≤ s → s < (K : Int) → ∃ u, lkP m (pst nA nB x s) = some u ∧ cdf K 0 u ≤ K * cw K m x + (s.toNat + 1)) ∧ ∀ q ∈ Q, cw K m x < cw K m q
structure BI (m : PM) (Q : List (Int × Int)) : Prop extends BC K nA nB st m Q where
  done : ∀ x, (lkP m x).isSome = true → x ∉ Q → DoneP K nA nB fA fB m Q x
  bd : ∀ x, (lkP m x).isSome = true → ∀ h R, Q = h :: R → cw K m x ≤ K * cw K m h
structure BS (m : PM) (p : Int × Int) (R : List (Int × Int)) (s : Int) : Prop extends BC K nA nB st m (p :: R) where
  done : ∀ x, (lkP m x).isSome = true → x ∉ p :: R → DoneP K nA nB fA fB m (p :: R) x
  cur : ¬ Tp fA fB p ∧ ∀ t, 0 ≤ t → t < s → ∃ u, lkP m (pst nA nB p t) = some u ∧ cdf K 0 u ≤ K * cw K m p + (t.toNat + 1)
  bd : ∀ x, (lkP m x).isSome = true → cw K m x ≤ K * cw K m p + s.toNat
end
section
variable {K : Nat} {nA nB : List (List Int)} {fA fB : Nat} {st : Int × Int} {m : PM} {p : Int × Int} {R Q : List (Int × Int)} {s : Int}
theorem lkP_of_mem : ∀ {m : PM} {p : Int × Int}, p ∈ m.map Prod.fst → (lkP m p).isSome = true
  | [], p, h => by simp at h
  | (a, c) :: m, p, h => by
    by_cases e : a = p
    · simp [lkP, e]
    · simp only [lkP, if_neg e]
      refine lkP_of_mem ?_
      simp only [List.map_cons, List.mem_cons] at h
      exact h.resolve_left (fun q => e q.symm)
theorem lkP_put (q : Int × Int) (u : List Int) {x : Int × Int} (h : q ≠ x) : lkP ((q, u) :: m) x = lkP m x := by simp only [lkP, if_neg h]
theorem lkP_same (q : Int × Int) (u : List Int) : lkP ((q, u) :: m) q = some u := by simp [lkP]
theorem BI.start (h : BI K nA nB fA fB st m (p :: R)) (ht : ¬ Tp fA fB p) : BS K nA nB fA fB st m p R 0 :=
  ⟨h.toBC, h.done, ⟨ht, fun t t0 t1 => by omega⟩, fun x hx => by have := h.bd x hx p R rfl; simpa using this⟩
theorem BS.old (h : BS K nA nB fA fB st m p R s) (s0 : 0 ≤ s) (hq : (lkP m (pst nA nB p s)).isSome = true) : BS K nA nB fA fB st m p R (s + 1) := by
  refine ⟨h.toBC, h.done, ⟨h.cur.1, fun t t0 t1 => ?_⟩, fun x hx => by have := h.bd x hx; omega⟩
  by_cases e : t = s
  · subst e
    obtain ⟨u, hu⟩ := Option.isSome_iff_exists.1 hq
    refine ⟨u, hu, ?_⟩
    have := h.bd _ hq
    unfold cw wdP at this
    rw [hu, Option.getD_some] at this
    unfold cw wdP
    omega
  · exact h.cur.2 t t0 (by omega)
theorem BS.new (h : BS K nA nB fA fB st m p R s) (s0 : 0 ≤ s) (s1 : s < K) (hq : lkP m (pst nA nB p s) = none) : BS K nA nB fA fB st ((pst nA nB p s, wdP m p ++ [s]) :: m) p (R ++ [pst nA nB p s]) (s + 1) := by
  obtain ⟨q, eq⟩ : ∃ q, q = pst nA nB p s := ⟨_, rfl⟩
  rw [← eq] at hq ⊢
  have ne : ∀ x, (lkP m x).isSome = true → q ≠ x := fun x hx e => by rw [← e, hq] at hx; cases hx
  have hp := h.qk p (by simp)
  have lk : ∀ x, (lkP m x).isSome = true → lkP ((q, wdP m p ++ [s]) :: m) x = lkP m x := fun x hx => lkP_put q _ (ne x hx)
  have cwe : ∀ x, (lkP m x).isSome = true → cw K ((q, wdP m p ++ [s]) :: m) x = cw K m x := fun x hx => by
    show cdf K 0 ((lkP ((q, wdP m p ++ [s]) :: m) x).getD []) = cdf K 0 ((lkP m x).getD [])
    rw [lk x hx]
  have cwq : cw K ((q, wdP m p ++ [s]) :: m) q = K * cw K m p + (s.toNat + 1) := by
    show cdf K 0 ((lkP ((q, wdP m p ++ [s]) :: m) q).getD []) = _
    rw [lkP_same, Option.getD_some, cdf_snoc]; rfl
  obtain ⟨u, hu⟩ := Option.isSome_iff_exists.1 hp
  have hw : wdP m p = u := by unfold wdP; rw [hu]; rfl
  obtain ⟨ku, ru, lu⟩ := h.key p u hu
  have lkn : ∀ x, (lkP ((q, wdP m p ++ [s]) :: m) x).isSome = true → x = q ∨ (lkP m x).isSome = true := fun x hx => by
    by_cases e : q = x
    · exact .inl e.symm
    · rw [lkP_put q _ e] at hx; exact .inr hx
  refine ⟨⟨fun x v hv => ?_, ?_, fun x hx => ?_, ?_, ?_, ?_⟩, fun x hx hn => ?_, ⟨h.cur.1, fun t t0 t1 => ?_⟩, fun x hx => ?_⟩
  · by_cases e : q = x
    · subst e
      rw [lkP_same] at hv
      cases hv
      rw [hw]
      refine ⟨okW_snoc ku s0 s1, ?_, by rw [List.length_append, List.length_cons]; simp; omega⟩
      rw [eq, ← ru]
      unfold prun pst
      rw [mrun_snoc, mrun_snoc]
    · rw [lkP_put q _ e] at hv
      obtain ⟨a, b, c⟩ := h.key x v hv
      exact ⟨a, b, by rw [List.length_cons]; omega⟩
  · rw [List.map_cons, List.nodup_cons]
    exact ⟨fun hm => (by have := lkP_of_mem hm; rw [hq] at this; cases this), h.nod⟩
  · rw [← List.cons_append] at hx
    rcases List.mem_append.1 hx with hx | hx
    · rw [lk x (h.qk x hx)]; exact h.qk x hx
    · rw [List.mem_singleton] at hx; rw [hx, lkP_same]; rfl
  · rw [← List.cons_append, List.pairwise_append]
    refine ⟨h.srt.imp_of_mem (fun {a b} ha hb z => by rw [cwe a (h.qk a ha), cwe b (h.qk b hb)]; exact z), List.pairwise_singleton _ _, fun a ha b hb => ?_⟩
    rw [List.mem_singleton] at hb
    rw [hb, cwq, cwe a (h.qk a ha)]
    have := h.bd a (h.qk a ha)
    omega
  · have := h.ql
    simp only [List.length_cons, List.length_append, List.length_nil] at this ⊢
    omega
  · rw [lk st (by rw [h.st0]; rfl)]; exact h.st0
  · rcases lkn x hx with e | hx2
    · exact absurd (by simp [e]) hn
    · have hn2 : x ∉ p :: R := fun z => hn (by rw [← List.cons_append]; exact List.mem_append.2 (.inl z))
      obtain ⟨d1, d2, d3⟩ := h.done x hx2 hn2
      refine ⟨d1, fun t t0 t1 => ?_, fun y hy => ?_⟩
      · obtain ⟨v, hv, hc⟩ := d2 t t0 t1
        exact ⟨v, by rw [lk _ (by rw [hv]; rfl)]; exact hv, by rw [cwe x hx2]; exact hc⟩
      · rw [cwe x hx2]
        rw [← List.cons_append] at hy
        rcases List.mem_append.1 hy with hy | hy
        · rw [cwe y (h.qk y hy)]; exact d3 y hy
        · rw [List.mem_singleton] at hy
          rw [hy, cwq]
          have := h.bd x hx2
          omega
  · rw [cwe p hp]
    by_cases e : t = s
    · subst e
      rw [← eq]
      refine ⟨_, lkP_same _ _, ?_⟩
      rw [cdf_snoc]
      exact Nat.le_refl _
    · obtain ⟨v, hv, hc⟩ := h.cur.2 t t0 (by omega)
      exact ⟨v, by rw [lk _ (by rw [hv]; rfl)]; exact hv, hc⟩
  · rw [cwe p hp]
    rcases lkn x hx with e | hx2
    · rw [e, cwq]; omega
    · rw [cwe x hx2]
      have := h.bd x hx2
      omega
theorem BS.fin (h : BS K nA nB fA fB st m p R K) : BI K nA nB fA fB st m R := by
  have hs := List.pairwise_cons.1 h.srt
  refine ⟨⟨h.key, h.nod, fun x hx => h.qk x (by simp [hx]), hs.2, by have := h.ql; simp at this; omega, h.st0⟩, fun x hx hn => ?_, fun x hx y R' e => ?_⟩
  · by_cases e : x = p
    · rw [e]
      exact ⟨h.cur.1, h.cur.2, hs.1⟩
    · obtain ⟨d1, d2, d3⟩ := h.done x hx (fun z => by rcases List.mem_cons.1 z with z | z; exact e z; exact hn z)
      exact ⟨d1, d2, fun q hq => d3 q (by simp [hq])⟩
  · have h1 := h.bd x hx
    have h2 := hs.1 y (by rw [e]; simp)
    have h3 : K * cw K m p + K ≤ K * cw K m y := by
      have := Nat.mul_le_mul_left K h2
      rw [Nat.mul_succ] at this
      exact this
    rw [Int.toNat_natCast] at h1
    omega
theorem BI.claim (hK : 1 ≤ K) (h : BI K nA nB fA fB st m Q) (B : Nat) (hB : ∀ y, (lkP m y).isSome = true → cw K m y < B → y ∉ Q) : ∀ (n : Nat) (x : List Int), x.length = n → okW K x → cdf K 0 x < B →
    (lkP m (prun nA nB st x)).isSome = true ∧ prun nA nB st x ∉ Q ∧ cw K m (prun nA nB st x) ≤ cdf K 0 x
  | 0, x, hl, _, hb => by
    rw [List.eq_nil_of_length_eq_zero hl] at hb ⊢
    have e : prun nA nB st [] = st := rfl
    rw [e]
    have c : cw K m st = 0 := by unfold cw wdP; rw [h.st0]; rfl
    have hs : (lkP m st).isSome = true := by rw [h.st0]; rfl
    exact ⟨hs, hB st hs (by rw [c]; exact hb), by rw [c]; exact Nat.zero_le _⟩
  | n + 1, x, hl, hx, hb => by
    have hne : x ≠ [] := fun q => by rw [q] at hl; cases hl
    obtain ⟨y, s, rfl⟩ : ∃ y s, x = y ++ [s] := ⟨_, _, (List.dropLast_concat_getLast hne).symm⟩
    have hs := hx s (by simp)
    have hy : okW K y := fun c hc => hx c (by simp [hc])
    rw [cdf_snoc] at hb ⊢
    have le : cdf K 0 y ≤ K * cdf K 0 y := Nat.le_mul_of_pos_left _ hK
    obtain ⟨a, b, c⟩ := BI.claim hK h B hB n y (by simpa using hl) hy (by omega)
    obtain ⟨d1, d2, d3⟩ := h.done _ a b
    obtain ⟨u, hu, hc⟩ := d2 s hs.1 hs.2
    have e : prun nA nB st (y ++ [s]) = pst nA nB (prun nA nB st y) s := by
      unfold prun pst
      rw [mrun_snoc, mrun_snoc]
    rw [e]
    have cu : cw K m (pst nA nB (prun nA nB st y) s) = cdf K 0 u := by unfold cw wdP; rw [hu]; rfl
    have mul := Nat.mul_le_mul_left K c
    have hi : (lkP m (pst nA nB (prun nA nB st y) s)).isSome = true := by rw [hu]; rfl
    exact ⟨hi, hB _ hi (by rw [cu]; omega), by rw [cu]; omega⟩
theorem BI.found (hK : 1 ≤ K) (h : BI K nA nB fA fB st m (p :: R)) : okW K (wdP m p) ∧ prun nA nB st (wdP m p) = p ∧ ∀ x, okW K x → Tp fA fB (prun nA nB st x) → cdf K 0 (wdP m p) ≤ cdf K 0 x := by
  have hp := h.qk p (by simp)
  obtain ⟨u, hu⟩ := Option.isSome_iff_exists.1 hp
  have hw : wdP m p = u := by unfold wdP; rw [hu]; rfl
  obtain ⟨ku, ru, lu⟩ := h.key p u hu
  rw [hw]
  refine ⟨ku, ru, fun x hx ht => ?_⟩
  apply Classical.byContradiction
  intro hlt
  have hs := List.pairwise_cons.1 h.srt
  obtain ⟨a, b, c⟩ := h.claim hK (cdf K 0 u) (fun y hy hc z => by
    have e : cw K m p = cdf K 0 u := by unfold cw; rw [hw]
    rcases List.mem_cons.1 z with z | z
    · rw [z, e] at hc; omega
    · have := hs.1 y z; omega) x.length x rfl hx (by omega)
  exact (h.done _ a b).1 ht
theorem BI.none (hK : 1 ≤ K) (h : BI K nA nB fA fB st m []) : ∀ x, okW K x → ¬ Tp fA fB (prun nA nB st x) := fun x hx => by
  obtain ⟨a, b, c⟩ := h.claim hK (cdf K 0 x + 1) (fun y _ _ z => by simp at z) x.length x rfl hx (by omega)
  exact (h.done _ a b).1
theorem BI.zero (m0 : m = [(st, [])]) : BI K nA nB fA fB st m [st] := by
  subst m0
  have lk : ∀ x u, lkP [(st, ([] : List Int))] x = some u → x = st ∧ u = [] := fun x u h => by
    by_cases e : st = x
    · subst e
      rw [lkP_same] at h
      cases h; exact ⟨rfl, rfl⟩
    · simp only [lkP, if_neg e] at h; cases h
  have lk2 : ∀ x, (lkP [(st, ([] : List Int))] x).isSome = true → x = st := fun x h => by
    obtain ⟨u, hu⟩ := Option.isSome_iff_exists.1 h
    exact (lk x u hu).1
  have c0 : cw K [(st, ([] : List Int))] st = 0 := by unfold cw wdP; rw [lkP_same]; rfl
  refine ⟨⟨fun x u h => ?_, by simp, fun x hx => ?_, List.pairwise_singleton _ _, Nat.le_refl _, lkP_same _ _⟩, fun x hx hn => absurd (by simp [lk2 x hx]) hn, fun x hx y R e => ?_⟩
  · obtain ⟨rfl, rfl⟩ := lk x u h
    exact ⟨fun c hc => by simp at hc, rfl, by simp⟩
  · rw [List.mem_singleton] at hx; rw [hx, lkP_same]; rfl
  · rw [lk2 x hx, c0]; exact Nat.zero_le _
theorem BC.size {N M : Int} (h : BC K nA nB st m Q) (hA : okMach N K nA) (hB : okMach M K nB) (n7 : N ≤ 7) (m7 : M ≤ 7) (s0 : 0 ≤ st.1) (s1 : st.1 < N) (t0 : 0 ≤ st.2) (t1 : st.2 < M) :
    m.length ≤ 64 ∧ ∀ x, (lkP m x).isSome = true → 0 ≤ x.1 ∧ x.1 < N ∧ 0 ≤ x.2 ∧ x.2 < M := by
  have rng : ∀ x, (lkP m x).isSome = true → 0 ≤ x.1 ∧ x.1 < N ∧ 0 ≤ x.2 ∧ x.2 < M := fun x hx => by
    obtain ⟨u, hu⟩ := Option.isSome_iff_exists.1 hx
    obtain ⟨ku, ru, _⟩ := h.key x u hu
    have a := hA.run u st.1 s0 s1 ku
    have b := hB.run u st.2 t0 t1 ku
    rw [← ru]
    exact ⟨a.1, a.2, b.1, b.2⟩
  refine ⟨?_, rng⟩
  have q := nodupI_le 64 ((m.map Prod.fst).map (fun x : Int × Int => x.1 * 8 + x.2)) (by
    show List.Pairwise _ _
    rw [List.pairwise_map]
    refine List.Pairwise.imp_of_mem (fun {a b} ha hb z e => ?_) h.nod
    have ra := rng a (lkP_of_mem ha)
    have rb := rng b (lkP_of_mem hb)
    exact z (Prod.ext (by omega) (by omega))) (fun x hx => by
    obtain ⟨a, ha, rfl⟩ := List.mem_map.1 hx
    have ra := rng a (lkP_of_mem ha)
    omega)
  simpa using q
end
theorem wfI {x : Int} (h0 : 0 ≤ x) (h1 : x ≤ 100) : (Lit.int .i64 x).wf = true := by
  simp [Lit.wf, IntKind.min, IntKind.max, IntKind.signed, IntKind.bits]; omega
theorem bit_eq (a i : Nat) (ha : a < 2 ^ 32) (hi : i < 32) : Go.bits .and .u32 (shr .u32 (a : Int) (i : Int)) 1 = if a.testBit i = true then 1 else 0 := by
  rw [shrn a i hi]
  have h1 : a / 2 ^ i < 2 ^ 32 := Nat.lt_of_le_of_lt (Nat.div_le_self _ _) ha
  have h2 := u32_and (a / 2 ^ i) 1 h1 (by decide)
  have h3 : ((1 : Nat) : Int) = 1 := rfl
  rw [h3] at h2
  rw [h2, Nat.and_one_is_mod, Nat.testBit_eq_decide_div_mod_eq]
  rcases Nat.mod_two_eq_zero_or_one (a / 2 ^ i) with h | h <;> rw [h] <;> rfl
def toS (p : Int × Int) : S36 := ⟨p.1, p.2⟩
def PrRes (K : Nat) (nA nB : List (List Int)) (fA fB : Nat) (st : Int × Int) (r : List Int × Int) : Prop :=
  (r.2 = 0 ∧ r.1.length ≤ 64 ∧ okW K r.1 ∧ Tp fA fB (prun nA nB st r.1) ∧ ∀ x, okW K x → Tp fA fB (prun nA nB st x) → cdf K 0 r.1 ≤ cdf K 0 x) ∨ (r = ([], 5) ∧ ∀ x, okW K x → ¬ Tp fA fB (prun nA nB st x))
section
variable {N M : Int} {K : Nat} {nA nB : List (List Int)} {sA sB : Int} {fA fB : Nat} (n7 : N ≤ 7) (m7 : M ≤ 7) (k1 : 1 ≤ K) (k3 : K ≤ 3) (hA : okMach N K nA) (hB : okMach M K nB) (hfA : fA < 2 ^ 32) (hfB : fB < 2 ^ 32) (s0 : 0 ≤ sA) (s1 : sA < N) (t0 : 0 ≤ sB) (t1 : sB < M)
include n7 m7 k1 k3 hA hB hfA hfB s0 s1 t0 t1
theorem apart_in {μ : Nat} (ih : ∀ (m : PM) (Q : List (Int × Int)), 2 * (65 - m.length) + Q.length < μ → BI K nA nB fA fB (sA, sB) m Q →
      EvP (fun k => Zr.l0 k (Q.map toS) N K nA sA (fA : Int) M K nB sB (fB : Int) m) (PrRes K nA nB fA fB (sA, sB))) (p : Int × Int) :
    ∀ (d : Nat) (s : Int) (m : PM) (R : List (Int × Int)), 0 ≤ s → s + d = K → 2 * (65 - m.length) + R.length < μ → BS K nA nB fA fB (sA, sB) m p R s →
      EvP (fun k => Zr.l1 k ((p :: R).map toS) K s N K nA sA (fA : Int) M K nB sB (fB : Int) m p.1 p.2) (PrRes K nA nB fA fB (sA, sB)) := by
  intro d
  induction d with
  | zero =>
    intro s m R s0' e hμ h
    obtain rfl : s = K := by omega
    refine EvP.step (fun k => Zr.l1.eq_2 _ _ _ _ _ _ _ _ _ _ _ _ _ _ _ _ k) ?_
    refine EvP.neg (by omega) (EvP.pos (by simp; omega) ?_)
    exact ih m R hμ h.fin
  | succ d ih2 =>
    intro s m R s0' e hμ h
    have sK : s < (K : Int) := by omega
    obtain ⟨sz, rng⟩ := h.toBC.size hA hB n7 m7 s0 s1 t0 t1
    have rp := rng p (h.qk p (by simp))
    have rA := hA.row rp.1 rp.2.1
    have rB := hB.row rp.2.2.1 rp.2.2.2
    have ta := hA.to rp.1 rp.2.1 s0' sK
    have tb := hB.to rp.2.2.1 rp.2.2.2 s0' sK
    have ql := h.ql
    rw [List.length_cons] at ql
    refine EvP.step (fun k => Zr.l1.eq_2 _ _ _ _ _ _ _ _ _ _ _ _ _ _ _ _ k) ?_
    rw [w64 (x := s + 1) (by omega) (by omega)]
    refine EvP.pos sK (EvP.pos rp.1 (EvP.pos rA.2 (EvP.pos s0' (EvP.pos (by omega) (EvP.pos rp.2.2.1 (EvP.pos rB.2 (EvP.pos (by omega) ?_)))))))
    refine EvP.pos (wfI ta.1 (by have := ta.2; unfold mto at this; omega)) (EvP.pos (wfI tb.1 (by have := tb.2; unfold mto at this; omega)) ?_)
    by_cases c : (lkP m (pst nA nB p s)).isSome = true
    · exact EvP.pos c (ih2 (s + 1) m R (by omega) (by omega) hμ (h.old s0' c))
    · refine EvP.neg c ?_
      have hn : lkP m (pst nA nB p s) = none := by
        cases hx : lkP m (pst nA nB p s) with
        | none => rfl
        | some u => rw [hx] at c; exact absurd rfl c
      obtain ⟨u, hu⟩ := Option.isSome_iff_exists.1 (h.qk p (by simp))
      obtain ⟨_, _, lu⟩ := h.key p u hu
      have hw : (lkP m (p.1, p.2)).getD [] = wdP m p := rfl
      have hwl : (wdP m p).length ≤ 64 := by unfold wdP; rw [hu]; simp only [Option.getD_some]; omega
      rw [hw]
      unfold slices_Clone_Sint_int.f
      rw [if_pos (by omega)]
      simp only [Option.bind_some]
      refine EvP.pos (by simp; omega) (EvP.pos (by omega) (EvP.pos (by simp; omega) ?_))
      have := ih2 (s + 1) ((pst nA nB p s, wdP m p ++ [s]) :: m) (R ++ [pst nA nB p s]) (by omega) (by omega) (by rw [List.length_cons, List.length_append, List.length_singleton]; omega) (h.new s0' sK hn)
      rw [← List.cons_append, List.map_append] at this
      exact this
theorem apart_out : ∀ (μ : Nat) (m : PM) (Q : List (Int × Int)), 2 * (65 - m.length) + Q.length < μ → BI K nA nB fA fB (sA, sB) m Q →
      EvP (fun k => Zr.l0 k (Q.map toS) N K nA sA (fA : Int) M K nB sB (fB : Int) m) (PrRes K nA nB fA fB (sA, sB)) := by
  intro μ
  induction μ with
  | zero => intro m Q h; omega
  | succ μ ih =>
    intro m Q hμ h
    refine EvP.step (fun k => Zr.l0.eq_2 _ _ _ _ _ _ _ _ _ _ _ _ k) ?_
    cases Q with
    | nil => exact EvP.neg (by simp) (EvP.now (.inr ⟨rfl, h.none k1⟩))
    | cons p R =>
      obtain ⟨sz, rng⟩ := h.toBC.size hA hB n7 m7 s0 s1 t0 t1
      have rp := rng p (h.qk p (by simp))
      have er : Ze ((p :: R).map toS) 0 = ⟨p.1, p.2⟩ := rfl
      rw [er]
      refine EvP.pos (by simp) (EvP.pos (by simp) (EvP.pos (wfI (x := p.1) rp.1 (by omega)) (EvP.pos (wfI (x := p.2) rp.2.2.1 (by omega)) (EvP.pos rp.1 (EvP.pos rp.2.2.1 ?_)))))
      have ea : Go.bits .and .u32 (shr .u32 (fA : Int) p.1) 1 = if fA.testBit p.1.toNat = true then 1 else 0 := by
        have := bit_eq fA p.1.toNat hfA (by omega)
        rw [Int.toNat_of_nonneg rp.1] at this
        exact this
      have eb : Go.bits .and .u32 (shr .u32 (fB : Int) p.2) 1 = if fB.testBit p.2.toNat = true then 1 else 0 := by
        have := bit_eq fB p.2.toNat hfB (by omega)
        rw [Int.toNat_of_nonneg rp.2.2.1] at this
        exact this
      have ht : (Go.bits .and .u32 (shr .u32 (fA : Int) p.1) 1 = Go.bits .and .u32 (shr .u32 (fB : Int) p.2) 1) ↔ ¬ Tp fA fB p := by
        rw [ea, eb]
        unfold Tp
        cases fA.testBit p.1.toNat <;> cases fB.testBit p.2.toNat <;> simp
      by_cases c : Tp fA fB p
      · refine EvP.neg (fun q => ht.1 q c) (EvP.now ?_)
        obtain ⟨a, b, d⟩ := h.found k1
        have hlen : (wdP m p).length ≤ 64 := by
          obtain ⟨u, hu⟩ := Option.isSome_iff_exists.1 (h.qk p (by simp))
          obtain ⟨_, _, lu⟩ := h.key p u hu
          unfold wdP
          rw [hu]
          simp only [Option.getD_some]
          omega
        exact .inl ⟨rfl, hlen, a, by show Tp fA fB (prun nA nB (sA, sB) (wdP m p)); rw [b]; exact c, d⟩
      · refine EvP.pos (ht.2 c) ?_
        exact apart_in n7 m7 k1 k3 hA hB hfA hfB s0 s1 t0 t1 (fun m' Q' hm' hb => ih m' Q' (by simpa using hm') hb) p K 0 m R (Int.le_refl _) (by omega) (by rw [List.length_cons] at hμ; omega) (h.start c)
end
theorem LeastAparts : Zi1.Pure := by
  unfold Zi1.Pure
  intro N K next st f N2 K2 next2 st2 f2
  intros
  have hf : 0 ≤ f ∧ f ≤ 4294967295 := wf_u32 (by assumption)
  have hf2 : 0 ≤ f2 ∧ f2 ≤ 4294967295 := wf_u32 (by assumption)
  apply Ev.rounds
  unfold Zi1.f Zr.f
  have c1 := machCheck_ev N K next st f hf.1
  have c2 := rmach_ev N K next st f
  have d1 := machCheck_ev N2 K2 next2 st2 f2 hf2.1
  have d2 := rmach_ev N2 K2 next2 st2 f2
  obtain ⟨code, hcode⟩ : ∃ code : Int, code = if machCode N K next st f = 0 then if machCode N2 K2 next2 st2 f2 = 0 then if K = K2 then 0 else 3 else machCode N2 K2 next2 st2 f2 else machCode N K next st f := ⟨_, rfl⟩
  have w1 : Ev (fun k => least_wrong.f k N K next st f N2 K2 next2 st2 f2) code := by
    unfold least_wrong.f
    rw [hcode]
    refine Ev.bind c1 ?_
    by_cases c : machCode N K next st f = 0
    · refine Ev.pos c (Ev.bind d1 ?_)
      by_cases d : machCode N2 K2 next2 st2 f2 = 0
      · refine Ev.pos d ?_
        by_cases e : K = K2
        · exact Ev.pos e (Ev.val (by simp only [if_pos c, if_pos d, if_pos e]))
        · exact Ev.neg e (Ev.val (by simp only [if_pos c, if_pos d, if_neg e]))
      · exact Ev.neg d (Ev.val (by simp only [if_pos c, if_neg d]))
    · exact Ev.neg c (Ev.val (by simp only [if_neg c]))
  have w2 : Ev (fun k => Zh1.f k N K next st f N2 K2 next2 st2 f2) code := by
    unfold Zh1.f
    rw [hcode]
    refine Ev.bind c2 ?_
    by_cases c : machCode N K next st f = 0
    · refine Ev.pos c (Ev.bind d2 ?_)
      by_cases d : machCode N2 K2 next2 st2 f2 = 0
      · refine Ev.pos d ?_
        by_cases e : K = K2
        · exact Ev.pos e (Ev.val (by simp only [if_pos c, if_pos d, if_pos e]; exact d))
        · exact Ev.neg e (Ev.val (by simp only [if_pos c, if_pos d, if_neg e]))
      · exact Ev.neg d (Ev.val (by simp only [if_pos c, if_neg d]))
    · exact Ev.neg c (Ev.val (by simp only [if_neg c]))
  by_cases c0 : code = 0
  · have a1 : machCode N K next st f = 0 := by
      apply Classical.byContradiction; intro q; rw [if_neg q] at hcode; omega
    rw [if_pos a1] at hcode
    have b1 : machCode N2 K2 next2 st2 f2 = 0 := by
      apply Classical.byContradiction; intro q; rw [if_neg q] at hcode; omega
    rw [if_pos b1] at hcode
    have ek : K = K2 := by
      apply Classical.byContradiction; intro q; rw [if_neg q] at hcode; omega
    subst ek
    rw [c0] at w1 w2
    obtain ⟨n0, n1, k0, k1, hA, s0, s1, f1⟩ := machCode_0 a1
    obtain ⟨m0, m1, _, _, hB, t0, t1, g1⟩ := machCode_0 b1
    obtain ⟨f, rfl⟩ := Int.eq_ofNat_of_zero_le hf.1
    obtain ⟨g, rfl⟩ := Int.eq_ofNat_of_zero_le hf2.1
    have hfA : f < 2 ^ 32 := by omega
    have hfB : g < 2 ^ 32 := by omega
    obtain ⟨K, rfl⟩ := Int.eq_ofNat_of_zero_le (show 0 ≤ K by omega)
    have hK : 0 ≤ (K : Int) ∧ (K : Int) ≤ 3 := by omega
    obtain ⟨a, rfl⟩ := Int.eq_ofNat_of_zero_le (show 0 ≤ N by omega)
    obtain ⟨b, rfl⟩ := Int.eq_ofNat_of_zero_le (show 0 ≤ N2 by omega)
    have e2 : ∀ n : Nat, ((2 : Int) ^ n) = ((2 ^ n : Nat) : Int) := fun n => by simp
    rw [Int.toNat_natCast, e2] at f1 g1
    have pa : 2 ^ a ≤ 2 ^ 7 := Nat.pow_le_pow_right (by omega) (by omega)
    have pb : 2 ^ b ≤ 2 ^ 7 := Nat.pow_le_pow_right (by omega) (by omega)
    have hshift : g * 2 ^ a < 2 ^ 14 := by
      have : g * 2 ^ a ≤ 127 * 128 := Nat.mul_le_mul (by omega) (by omega)
      omega
    obtain ⟨fM, hfM⟩ : ∃ fM : Nat, fM = f ||| g <<< a := ⟨_, rfl⟩
    have hM : Go.bits .or .u32 (f : Int) (shl .u32 (g : Int) (a : Int)) = (fM : Int) := by
      rw [shl_nat g a (by omega) (by omega), u32_or f (g * 2 ^ a) hfA (by omega), hfM, Nat.shiftLeft_eq]
    have hM32 : fM < 2 ^ 32 := by
      rw [hfM, Nat.shiftLeft_eq]; exact Nat.or_lt_two_pow hfA (by omega)
    have hl : ∀ i : Int, 0 ≤ i → i < (a : Int) → fM.testBit i.toNat = f.testBit i.toNat := fun i i0 i1 => by
      rw [hfM, Nat.testBit_or, Nat.testBit_shiftLeft, show decide (i.toNat ≥ a) = false from decide_eq_false (by omega)]; simp
    have hr : ∀ j : Int, 0 ≤ j → j < (b : Int) → fM.testBit ((a : Int) + j).toNat = g.testBit j.toNat := fun j j0 j1 => by
      have z : f.testBit ((a : Int) + j).toNat = false := Nat.testBit_lt_two_pow (Nat.lt_of_lt_of_le (show f < 2 ^ a by omega) (Nat.pow_le_pow_right (by omega) (by omega)))
      rw [hfM, Nat.testBit_or, Nat.testBit_shiftLeft, z, show decide (((a : Int) + j).toNat ≥ a) = true from decide_eq_true (by omega), show ((a : Int) + j).toNat - a = j.toNat by omega]; simp
    have bes := beside_ev (sA := st) (fA := (f : Int)) (sB := st2) (fB := (g : Int)) n0 m0 n1 m1 hK hA hB (by omega) (by omega)
    rw [hM] at bes
    have okM := bes_ok n0 m0 hA hB hl hr
    have runA : ∀ (x : List Int) (i : Int), okW K x → 0 ≤ i → i < (a : Int) → mrun (besM a next next2) i x = mrun next i x := by
      intro x
      induction x with
      | nil => intro i _ _ _; rfl
      | cons c x ih =>
        intro i hx i0 i1
        have hc := hx c (by simp)
        have q := hA.to i0 i1 hc.1 hc.2
        show mrun _ (mto (besM a next next2) i c) x = mrun next (mto next i c) x
        rw [mto_l n0 m0 hA hB hl hr i0 i1]
        exact ih _ (fun z hz => hx z (by simp [hz])) q.1 q.2
    have runB : ∀ (x : List Int) (j : Int), okW K x → 0 ≤ j → j < (b : Int) → mrun (besM a next next2) ((a : Int) + j) x = (a : Int) + mrun next2 j x := by
      intro x
      induction x with
      | nil => intro j _ _ _; rfl
      | cons c x ih =>
        intro j hx j0 j1
        have hc := hx c (by simp)
        have q := hB.to j0 j1 hc.1 hc.2
        show mrun _ (mto (besM a next next2) ((a : Int) + j) c) x = (a : Int) + mrun next2 (mto next2 j c) x
        rw [mto_r n0 m0 hA hB hl hr j0 j1 hc.1 hc.2]
        exact ih _ (fun z hz => hx z (by simp [hz])) q.1 q.2
    have tells : ∀ x, okW K x → (Tw (besM a next next2) fM x st ((a : Int) + st2) ↔ Tp f g (prun next next2 (st, st2) x)) := fun x hx => by
      have q := hA.run x st s0 s1 hx
      have r := hB.run x st2 t0 t1 hx
      unfold Tw Tp prun
      rw [runA x st hx s0 s1, runB x st2 hx t0 t1, hl _ q.1 q.2, hr _ r.1 r.2]
    have prog : EvP (fun k => Zr.l0 k (([(⟨st, st2⟩ : S36)] : List S36)) (a : Int) K next st (f : Int) (b : Int) K next2 st2 (g : Int) ([((st, st2), [])] : PM)) (PrRes K next next2 f g (st, st2)) :=
      apart_out n1 m1 (by omega) (by omega) hA hB hfA hfB s0 s1 t0 t1 1000 [((st, st2), [])] [(st, st2)] (by simp) (BI.zero rfl)
    have ap : EvP (fun k => Zu.f k (a : Int) K next st (f : Int) (b : Int) K next2 st2 (g : Int)) (ApRes K (besM a next next2) fM st ((a : Int) + st2)) := by
      unfold Zu.f
      refine EvP.bind bes ?_
      rw [w64 (x := (a : Int) + st2) (by omega) (by omega)]
      exact apart_l0 (by omega) (by omega) hK okM hM32 s0 (by omega) (by omega) (by omega) ((a : Int) + (b : Int)).toNat 0 (Int.le_refl _) (by omega) (fun m hm2 => by omega)
    have p1 : EvP (fun k => (least_wrong.f k (a : Int) K next st (f : Int) (b : Int) K next2 st2 (g : Int)).bind fun t127 => (if t127 = 0 then (if (Lit.int .i64 st).wf = true then (if (Lit.int .i64 st2).wf = true then (Zr.l0 k (([(⟨st, st2⟩ : S36)] : List (S36))) (a : Int) K next st (f : Int) (b : Int) K next2 st2 (g : Int) ([((st, st2), [])] : PM)) else (none)) else (none)) else (some (([] : List Int), t127)))) (PrRes K next next2 f g (st, st2)) :=
      EvP.bind w1 (EvP.pos rfl (EvP.pos (wfI s0 (by omega)) (EvP.pos (wfI t0 (by omega)) prog)))
    refine EvP.ev p1 ?_
    rintro ⟨u, e⟩ hu
    refine Ev.bind w2 (Ev.pos rfl (EvP.ev ap ?_))
    rintro ⟨v, ok⟩ hv
    rcases hv with ⟨v2, vk, vt, vm⟩ | ⟨v2, vn⟩
    · dsimp only at v2 vk vt vm
      subst v2
      refine Ev.pos rfl ?_
      rcases hu with ⟨e0, ul, uk, ut, um⟩ | ⟨e0, un⟩
      · dsimp only at e0 ul uk ut um
        subst e0
        have euv : u = v := cdf_inj uk vk (Nat.le_antisymm (um v vk ((tells v vk).1 vt)) (vm u uk ((tells u uk).2 ut)))
        subst euv
        exact Ev.pos rfl (Ev.bind (Ints_ev u u (by omega)) (Ev.val (by simp)))
      · exact absurd ((tells v vk).1 vt) (un v vk)
    · dsimp only at v2 vn
      subst v2
      refine Ev.neg (by simp) ?_
      rcases hu with ⟨e0, ul, uk, ut, um⟩ | ⟨e0, un⟩
      · exact absurd ((tells u uk).2 ut) (vn u uk)
      · cases e0
        exact Ev.pos rfl (Ev.val rfl)
  · refine Ev.bind (Ev.bind w1 (Ev.neg c0 (Ev.now _))) (Ev.bind w2 (Ev.neg c0 (Ev.pos rfl (Ev.val rfl))))
end Go.Proofs.Ytdoenjnjpenboaa.Pure
