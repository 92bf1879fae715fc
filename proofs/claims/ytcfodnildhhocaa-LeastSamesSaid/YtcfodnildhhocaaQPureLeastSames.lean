/- The law LeastSames as a statement over numbers and lists alone: it holds under the bounds that the statement names. -/
import Derived.Test.YtcfodnildhhocaaQStatLeastSames
set_option linter.unusedVariables false
set_option linter.unusedSimpArgs false
set_option linter.unusedSectionVars false
namespace Go.Proofs.Ytcfodnildhhocaa.Pure
open Go.RowKit Go.Proofs.Ytcfodnildhhocaa.PLeastSames Go.Proofs.YtcfodnildhhocaaW.PrintWords Go.Proofs.YtcfodnildhhocaaW.PrintLast Go.Proofs.YtcfodnildhhocaaW.PrintMore
theorem w64 {x : Int} (h0 : -9223372036854775808 ≤ x) (h1 : x ≤ 9223372036854775807) : wrap64 x = x := by unfold wrap64; omega
theorem Ev.pos {α : Type} {c : Prop} [Decidable c] {g f : Nat → Option α} {r : α} (h : c) (e : Ev g r) : Ev (fun k => if c then g k else f k) r := Ev.congr (fun k => by rw [if_pos h]) e
theorem Ev.neg {α : Type} {c : Prop} [Decidable c] {g f : Nat → Option α} {r : α} (h : ¬ c) (e : Ev f r) : Ev (fun k => if c then g k else f k) r := Ev.congr (fun k => by rw [if_neg h]) e
theorem Ev.val {α : Type} {r q : α} (h : r = q) : Ev (fun _ => some r) q := by subst h; exact Ev.now r
theorem rd_getElem {l : List Int} {i : Int} (h1 : i.toNat < l.length) : rd l i = l[i.toNat] := by simp [rd, List.getD_eq_getElem?_getD, List.getElem?_eq_getElem h1]
theorem drop_rd {l : List Int} {i : Int} (h0 : 0 ≤ i) (h1 : i < l.length) : l.drop i.toNat = rd l i :: l.drop (i + 1).toNat := by
  have h : i.toNat < l.length := by omega
  rw [rd_getElem h, List.drop_eq_getElem_cons h]; congr 2; omega
theorem take_rd {l : List Int} {i : Int} (h0 : 0 ≤ i) (h1 : i < l.length) : l.take (i + 1).toNat = l.take i.toNat ++ [rd l i] := by
  have h : i.toNat < l.length := by omega
  have e : (i + 1).toNat = i.toNat + 1 := by omega
  rw [rd_getElem h, e, List.take_succ_eq_append_getElem h]
theorem drop_all {α : Type} (l : List α) (n : Nat) (h : l.length ≤ n) : l.drop n = [] := List.drop_eq_nil_of_le h
theorem ext_rd {a b : List Int} (hl : a.length = b.length) (h : ∀ i : Int, 0 ≤ i → i < a.length → rd a i = rd b i) : a = b := by
  apply List.ext_getElem hl
  intro i h1 h2
  have := h i (by omega) (by omega)
  rwa [rd_getElem (by simpa using h1), rd_getElem (by simpa using h2)] at this
theorem wf_u32 {x : Int} (h : (Lit.int .u32 x).wf = true) : 0 ≤ x ∧ x ≤ 4294967295 := by simpa [Lit.wf, IntKind.min, IntKind.max, IntKind.signed, IntKind.bits] using h
theorem rd_mem {l : List Int} {i : Int} (h0 : 0 ≤ i) (h1 : i < l.length) : rd l i ∈ l := by
  rw [rd_getElem (by omega)]; exact List.getElem_mem _
theorem drop_rdL {l : List (List Int)} {i : Int} (h0 : 0 ≤ i) (h1 : i < l.length) : l.drop i.toNat = Zd l i :: l.drop (i + 1).toNat := by
  have h : i.toNat < l.length := by omega
  have e : Zd l i = l[i.toNat] := by simp [Zd, List.getD_eq_getElem?_getD, List.getElem?_eq_getElem h]
  rw [e, List.drop_eq_getElem_cons h]; congr 2; omega
theorem rdL_mem {l : List (List Int)} {i : Int} (h0 : 0 ≤ i) (h1 : i < l.length) : Zd l i ∈ l := by
  have h : i.toNat < l.length := by omega
  have e : Zd l i = l[i.toNat] := by simp [Zd, List.getD_eq_getElem?_getD, List.getElem?_eq_getElem h]
  rw [e]; exact List.getElem_mem _
theorem u32_id {x : Int} (h0 : 0 ≤ x) (h1 : x ≤ 4294967295) : IntKind.u32.wrap x = x := by rw [IntKind.wrap_u32]; omega
theorem u64_id {x : Int} (h0 : 0 ≤ x) (h1 : x ≤ 18446744073709551615) : IntKind.u64.wrap x = x := by simp [IntKind.wrap, IntKind.bits, IntKind.signed]; omega
theorem u32_or (a b : Nat) (ha : a < 2 ^ 32) (hb : b < 2 ^ 32) : Go.bits .or .u32 a b = ((a ||| b : Nat) : Int) :=
  (bits_nat .u32 32 (by decide) (fun n h0 h1 => u32_id h0 (by omega)) a b ha hb).2
theorem u32_and (a b : Nat) (ha : a < 2 ^ 32) (hb : b < 2 ^ 32) : Go.bits .and .u32 a b = ((a &&& b : Nat) : Int) :=
  (bits_nat .u32 32 (by decide) (fun n h0 h1 => u32_id h0 (by omega)) a b ha hb).1
theorem shl1 (n : Nat) (h : n < 32) : shl .u32 1 (n : Int) = ((2 ^ n : Nat) : Int) := by
  unfold shl
  have e : min ((n : Int)).toNat IntKind.u32.bits = n := by simp [IntKind.bits]; omega
  have h2 : 2 ^ n ≤ 2 ^ 31 := Nat.pow_le_pow_right (by omega) (by omega)
  rw [e, Int.one_mul, u32_id (by exact_mod_cast Nat.zero_le _) (by have : ((2 ^ n : Nat) : Int) ≤ 2 ^ 31 := by exact_mod_cast h2
                                                                   have e2 : ((2 : Int) ^ n) = ((2 ^ n : Nat) : Int) := by simp
                                                                   omega)]
  simp
theorem shrn (a n : Nat) (h : n < 32) : shr .u32 (a : Int) (n : Int) = ((a / 2 ^ n : Nat) : Int) := by
  unfold shr
  have e : min ((n : Int)).toNat IntKind.u32.bits = n := by simp [IntKind.bits]; omega
  rw [e]; simp
theorem bit_shr (a i : Nat) (ha : a < 2 ^ 32) (hi : i < 32) : (Go.bits .and .u32 (shr .u32 (a : Int) (i : Int)) 1 = 1) ↔ a.testBit i = true := by
  rw [shrn a i hi]
  have h1 : a / 2 ^ i < 2 ^ 32 := Nat.lt_of_le_of_lt (Nat.div_le_self _ _) ha
  have h2 := u32_and (a / 2 ^ i) 1 h1 (by decide)
  have h3 : ((1 : Nat) : Int) = 1 := rfl
  rw [h3] at h2
  rw [h2, Nat.and_one_is_mod, Nat.testBit_eq_decide_div_mod_eq]
  simp only [decide_eq_true_eq]; omega
theorem bit_and (a i : Nat) (ha : a < 2 ^ 32) (hi : i < 32) : (Go.bits .and .u32 (a : Int) (shl .u32 1 (i : Int)) != 0) = a.testBit i := by
  have h0 : 2 ^ i < 2 ^ 32 := Nat.pow_lt_pow_right (by omega) hi
  rw [shl1 i hi, u32_and a (2 ^ i) ha h0]
  cases h : a.testBit i with
  | true =>
    have : a &&& 2 ^ i ≠ 0 := fun e => by
      have q := congrArg (fun x => Nat.testBit x i) e
      simp [Nat.testBit_and, Nat.testBit_two_pow_self, h] at q
    simp; omega
  | false =>
    have : a &&& 2 ^ i = 0 := by
      apply Nat.eq_of_testBit_eq
      intro j
      by_cases e : i = j
      · subst e; simp [Nat.testBit_and, h]
      · simp [Nat.testBit_and, Nat.testBit_two_pow, e]
    rw [this]; rfl
theorem bit_or (a i : Nat) (ha : a < 2 ^ 32) (hi : i < 32) : Go.bits .or .u32 (a : Int) (shl .u32 1 (i : Int)) = ((a ||| 2 ^ i : Nat) : Int) := by
  have h0 : 2 ^ i < 2 ^ 32 := Nat.pow_lt_pow_right (by omega) hi
  rw [shl1 i hi, u32_or a (2 ^ i) ha h0]
theorem rd_set_eq (l : List Int) (i : Int) (v : Int) (h0 : 0 ≤ i) (h1 : i < l.length) : rd (l.set i.toNat v) i = v := by
  simp [rd, List.getD_eq_getElem?_getD, List.getElem?_set, show i.toNat < l.length by omega]
theorem rd_set_ne (l : List Int) (i j : Int) (v : Int) (h0 : 0 ≤ i) (hj : 0 ≤ j) (h : j ≠ i) : rd (l.set i.toNat v) j = rd l j := by
  simp only [rd, List.getD_eq_getElem?_getD]
  rw [List.getElem?_set_ne (by omega)]
theorem rd_append_left (l m : List Int) (j : Int) (h0 : 0 ≤ j) (h1 : j < l.length) : rd (l ++ m) j = rd l j := by
  simp only [rd, List.getD_eq_getElem?_getD]
  rw [List.getElem?_append_left (by omega)]
theorem rd_append_last (l : List Int) (v : Int) (j : Int) (h : j = l.length) : rd (l ++ [v]) j = v := by
  subst h
  simp [rd, List.getD_eq_getElem?_getD]
theorem anyO_of {α : Type} {f : α → Option Bool} {p : α → Bool} {l : List α} (h : ∀ x ∈ l, f x = some (p x)) : anyO f l = some (l.any p) := by
  induction l with
  | nil => rfl
  | cons x l ih =>
    unfold anyO
    rw [h x (by simp), Option.bind_some, ih (fun y hy => h y (by simp [hy])), List.any_cons]
    cases p x <;> simp
theorem Ev.loop {σ ρ : Type} {L : Nat → Int → σ → Option ρ} {n : Int} {r : ρ} (I : Int → σ → Prop)
    (hend : ∀ s, I n s → Ev (fun k => L k n s) r)
    (hstep : ∀ i s, 0 ≤ i → i < n → I i s → Ev (fun k => L k i s) r ∨ ∃ s', I (i + 1) s' ∧ (Ev (fun k => L k (i + 1) s') r → Ev (fun k => L k i s) r)) :
    ∀ (i : Int) (s : σ), 0 ≤ i → i ≤ n → I i s → Ev (fun k => L k i s) r := by
  have key : ∀ (d : Nat) (i : Int) (s : σ), 0 ≤ i → i + d = n → I i s → Ev (fun k => L k i s) r := by
    intro d
    induction d with
    | zero => intro i s h0 h1 hI; obtain rfl : i = n := by omega
              exact hend s hI
    | succ d ih =>
      intro i s h0 h1 hI
      rcases hstep i s h0 (by omega) hI with h | ⟨s', h', h⟩
      · exact h
      · exact h (ih (i + 1) s' (by omega) (by omega) h')
  intro i s h0 h1 hI
  exact key (n - i).toNat i s h0 (by omega) hI
theorem Concat_l1 (l : List (List Int)) (hl : l.length ≤ 4611686018427387904) (R : List Int) (hR : R.length < 17592186044416) (d : Nat) : ∀ (i : Int) (acc : List Int), 0 ≤ i → i + d = l.length → acc ++ (l.drop i.toNat).flatten = R →
    Ev (fun k => Zg1.l1 k acc l (l.length : Int) i) R := by
  induction d with
  | zero =>
    intro i acc h0 hd h
    refine Ev.step (fun k => Zg1.l1.eq_2 _ _ _ _ k) ?_
    simp (disch := omega) only [if_neg]
    rw [List.drop_eq_nil_of_le (by omega)] at h
    exact Ev.val (by simpa using h)
  | succ d ih =>
    intro i acc h0 hd h
    refine Ev.step (fun k => Zg1.l1.eq_2 _ _ _ _ k) ?_
    rw [drop_rdL h0 (by omega), List.flatten_cons, ← List.append_assoc] at h
    have hlen : acc.length + (Zd l i).length ≤ R.length := by
      rw [← h]; simp only [List.length_append]; omega
    simp (disch := omega) only [if_pos, w64]
    exact ih (i + 1) _ (by omega) (by omega) h
theorem Concat_l0 (l : List (List Int)) (hl : l.length ≤ 4611686018427387904) (hR : l.flatten.length < 17592186044416) (d : Nat) : ∀ (i s : Int), 0 ≤ i → i + d = l.length → 0 ≤ s → s + (l.drop i.toNat).flatten.length = l.flatten.length →
    Ev (fun k => Zg1.l0 k l s l (l.length : Int) i) l.flatten := by
  induction d with
  | zero =>
    intro i s h0 hd hs h
    refine Ev.step (fun k => Zg1.l0.eq_2 _ _ _ _ _ k) ?_
    rw [List.drop_eq_nil_of_le (by omega)] at h
    simp only [List.flatten_nil, List.length_nil] at h
    simp (disch := omega) only [if_neg, slices_Grow_Sint_int.f, if_pos, Option.bind_some]
    exact Concat_l1 l hl _ hR l.length 0 [] (by omega) (by omega) (by simp)
  | succ d ih =>
    intro i s h0 hd hs h
    refine Ev.step (fun k => Zg1.l0.eq_2 _ _ _ _ _ k) ?_
    rw [drop_rdL h0 (by omega), List.flatten_cons, List.length_append] at h
    simp (disch := omega) only [if_pos, if_neg, w64]
    exact ih (i + 1) _ (by omega) (by omega) (by omega) (by omega)
theorem Concat_ev (l : List (List Int)) (hl : l.length ≤ 4611686018427387904) (hR : l.flatten.length < 17592186044416) : Ev (fun k => Zg1.f k l) l.flatten := by
  unfold Zg1.f
  exact Concat_l0 l hl hR l.length 0 0 (by omega) (by omega) (by omega) (by simp)
abbrev bad (N x : Int) : Prop := x < 0 ∨ x ≥ N
def machCode (N K : Int) (next : List (List Int)) (st f : Int) : Int :=
  if N < 1 ∨ N > 7 ∨ K < 1 ∨ K > 3 then 1 else if (next.length : Int) ≠ N ∨ (next.any fun l => decide ((l.length : Int) ≠ K)) = true then 3
  else if (next.flatten.any fun x => decide (bad N x)) = true ∨ bad N st then 2 else if f ≥ 2 ^ N.toNat then 4 else 0
theorem flat_len (K : Int) (hK : 0 ≤ K) : ∀ l : List (List Int), (∀ x ∈ l, (x.length : Int) = K) → (l.flatten.length : Int) = l.length * K
  | [], _ => by simp
  | x :: l, h => by
    have := flat_len K hK l (fun y hy => h y (by simp [hy]))
    have hx := h x (by simp)
    rw [List.flatten_cons, List.length_append, List.length_cons]
    push_cast
    rw [this, hx, Int.add_mul]; omega
theorem check_l0 (N K : Int) (next : List (List Int)) (st f : Int) (hN0 : 1 ≤ N) (hN1 : N ≤ 7) (hf0 : 0 ≤ f) (all : List Int) (hl : all.length ≤ 4611686018427387904) (d : Nat) : ∀ i : Int, 0 ≤ i → i + d = all.length →
    Ev (fun k => Zt.l0 k all (all.length : Int) i N K next st f) (if ((all.drop i.toNat).any fun x => decide (bad N x)) = true then 2 else if f ≥ 2 ^ N.toNat then 4 else 0) := by
  induction d with
  | zero =>
    intro i h0 hd
    refine Ev.step (fun k => Zt.l0.eq_2 _ _ _ _ _ _ _ _ k) ?_
    obtain ⟨a, rfl⟩ := Int.eq_ofNat_of_zero_le hf0
    obtain ⟨n, rfl⟩ := Int.eq_ofNat_of_zero_le (show 0 ≤ N by omega)
    have e : ((2 : Int) ^ n) = ((2 ^ n : Nat) : Int) := by simp
    simp (disch := omega) only [if_neg (show ¬ i < (all.length : Int) by omega), if_pos (show 0 ≤ (n : Int) by omega), shrn a n (by omega)]
    rw [List.drop_eq_nil_of_le (by omega), Int.toNat_natCast, e]
    have key : a / 2 ^ n = 0 ↔ a < 2 ^ n := by
      rw [Nat.div_eq_zero_iff]
      have := Nat.two_pow_pos n
      omega
    by_cases q : a < 2 ^ n
    · have q' : ((a / 2 ^ n : Nat) : Int) = 0 := by have := key.2 q; omega
      simp only [if_pos q']; exact Ev.val (by rw [if_neg (by simp), if_neg (by omega)])
    · have q' : ¬ ((a / 2 ^ n : Nat) : Int) = 0 := by have := mt key.1 q; omega
      simp only [if_neg q']; exact Ev.val (by rw [if_neg (by simp), if_pos (by omega)])
  | succ d ih =>
    intro i h0 hd
    refine Ev.step (fun k => Zt.l0.eq_2 _ _ _ _ _ _ _ _ k) ?_
    rw [drop_rd h0 (by omega)]
    simp (disch := omega) only [if_pos (show i < (all.length : Int) by omega), if_pos h0, w64]
    by_cases a : rd all i < 0
    · simp only [if_pos a]; exact Ev.val (by rw [if_pos (by simp [a])])
    · by_cases b : rd all i ≥ N
      · simp only [if_neg a, if_pos b]; exact Ev.val (by rw [if_pos (by simp [b])])
      · simp only [if_neg a, if_neg b]
        have := ih (i + 1) (by omega) (by omega)
        simpa [a, b] using this
theorem mchk1 (N K : Int) (next l : List (List Int)) (st f : Int) : machine_Check_1_any.f l N K next st f = some (l.any fun l => decide ((l.length : Int) ≠ K)) := by
  unfold machine_Check_1_any.f
  exact anyO_of (fun x _ => by unfold machine_Check_1.f; congr 1; by_cases h : (x.length : Int) = K <;> simp [h])
theorem machCheck_ev (N K : Int) (next : List (List Int)) (st f : Int) (hf0 : 0 ≤ f) : Ev (fun k => Zt.f k N K next st f) (machCode N K next st f) := by
  unfold Zt.f
  have wrong : (N < 1 ∨ N > 7 ∨ K < 1 ∨ K > 3) → Ev (fun k => Zt.j0 k true N K next st f) (machCode N K next st f) := by
    intro h
    unfold machCode; rw [if_pos h]
    refine Ev.step (fun k => Zt.j0.eq_2 _ _ _ _ _ _ k) ?_
    simp only [if_true]; exact Ev.now _
  by_cases c1 : N < 1
  · simp only [if_pos c1]; exact wrong (by omega)
  by_cases c2 : N > 7
  · simp only [if_neg c1, if_pos c2]; exact wrong (by omega)
  by_cases c3 : K < 1
  · simp only [if_neg c1, if_neg c2, if_pos c3]; exact wrong (by omega)
  simp only [if_neg c1, if_neg c2, if_neg c3]
  by_cases c4 : K > 3
  · simp only [c4, decide_true]; exact wrong (by omega)
  · simp only [c4, decide_false]
    unfold machCode; rw [if_neg (by omega)]
    refine Ev.step (fun k => Zt.j0.eq_2 _ _ _ _ _ _ k) ?_
    simp only [Bool.false_eq_true, if_false]
    by_cases c5 : (next.length : Int) = N
    · simp only [if_pos c5, mchk1, Option.bind_some]
      refine Ev.step (fun k => Zt.j1.eq_2 _ _ _ _ _ _ k) ?_
      by_cases c6 : (next.any fun l => decide ((l.length : Int) ≠ K)) = true
      · simp only [if_pos c6]; exact Ev.val (by rw [if_pos (.inr c6)])
      · simp only [if_neg c6]
        have hrows : ∀ x ∈ next, (x.length : Int) = K := by
          intro x hx
          simp only [List.any_eq_true, not_exists, not_and, decide_eq_true_eq, Classical.not_not] at c6
          exact c6 x hx
        have hfl := flat_len K (by omega) next hrows
        have h21 : next.flatten.length ≤ 21 := by
          have : (next.length : Int) * K ≤ 7 * 3 := Int.mul_le_mul (by omega) (by omega) (by omega) (by omega)
          omega
        refine Ev.bind (Concat_ev next (by omega) (by omega)) ?_
        have hlim : next.flatten.length + ([st] : List Int).length < 17592186044416 := by simp only [List.length_singleton]; omega
        simp only [Option.bind_some, if_pos hlim]
        have := check_l0 N K next st f (by omega) (by omega) hf0 (next.flatten ++ [st]) (by simp only [List.length_append, List.length_singleton]; omega) (next.flatten ++ [st]).length 0 (by omega) (by omega)
        rw [Int.toNat_zero, List.drop_zero] at this
        refine Ev.congr (fun _ => rfl) ?_
        have e : ((next.flatten ++ [st]).any fun x => decide (bad N x)) = true ↔ ((next.flatten.any fun x => decide (bad N x)) = true ∨ bad N st) := by simp [List.any_append]
        rw [if_neg (fun h => h.elim (fun a => a c5) c6)]
        simp only [e] at this
        exact this
    · simp only [if_neg c5]
      refine Ev.step (fun k => Zt.j1.eq_2 _ _ _ _ _ _ k) ?_
      simp only [if_true]
      exact Ev.val (by rw [if_pos (.inl c5)])
theorem rmach_j4 (N K : Int) (next : List (List Int)) (st f : Int) (hN0 : 1 ≤ N) (hN1 : N ≤ 7) (b : Bool) : Ev (fun k => Zs.j4 k b N K next st f) (if b = true then 2 else if f ≥ 2 ^ N.toNat then 4 else 0) := by
  refine Ev.step (fun k => Zs.j4.eq_2 _ _ _ _ _ _ k) ?_
  cases b with
  | true => simp only [if_true]; exact Ev.now _
  | false =>
    obtain ⟨n, rfl⟩ := Int.eq_ofNat_of_zero_le (show 0 ≤ N by omega)
    have e : ((2 : Int) ^ n) = ((2 ^ n : Nat) : Int) := by simp
    simp (disch := omega) only [Bool.false_eq_true, if_false, u64_id, if_pos (show 0 ≤ (n : Int) by omega), shl1 n (by omega), Int.toNat_natCast, e]
    by_cases q : f ≥ ((2 ^ n : Nat) : Int)
    · simp only [if_pos q]; exact Ev.now _
    · simp only [if_neg q]; exact Ev.now _
theorem rmach_l2 (N K : Int) (next : List (List Int)) (st f : Int) (R : Int) (all : List (List Int)) (n j : Int) (row : List Int) (hl : row.length ≤ 60) (hbad : (row.any fun x => decide (bad N x)) = true → R = 2) (hok : ¬ (row.any fun x => decide (bad N x)) = true → Ev (fun k => Zs.l1 k all n (wrap64 (j + 1)) N K next st f) R) (d : Nat) : ∀ i : Int, 0 ≤ i → i + d = row.length → ((row.any fun x => decide (bad N x)) = true ↔ ((row.drop i.toNat).any fun x => decide (bad N x)) = true) →
    Ev (fun k => Zs.l2 k all n j row (row.length : Int) i N K next st f) R := by
  induction d with
  | zero =>
    intro i h0 hd he
    refine Ev.step (fun k => Zs.l2.eq_2 _ _ _ _ _ _ _ _ _ _ _ k) ?_
    simp (disch := omega) only [if_neg (show ¬ i < (row.length : Int) by omega)]
    rw [drop_all row _ (by omega)] at he
    exact hok (fun h => by simpa using he.1 h)
  | succ d ih =>
    intro i h0 hd he
    refine Ev.step (fun k => Zs.l2.eq_2 _ _ _ _ _ _ _ _ _ _ _ k) ?_
    rw [drop_rd h0 (by omega)] at he
    simp (disch := omega) only [if_pos (show i < (row.length : Int) by omega), if_pos h0, w64]
    by_cases a : rd row i < 0
    · simp only [if_pos a]; exact Ev.val (hbad (he.2 (by simp [a]))).symm
    · by_cases b : rd row i ≥ N
      · simp only [if_neg a, if_pos b]; exact Ev.val (hbad (he.2 (by simp [b]))).symm
      · simp only [if_neg a, if_neg b]
        exact ih (i + 1) (by omega) (by omega) (by rw [he]; simp [a, b])
theorem rmach_l1 (N K : Int) (next : List (List Int)) (st f : Int) (hN0 : 1 ≤ N) (hN1 : N ≤ 7) (all : List (List Int)) (ha : all.length ≤ 60) (hrow : ∀ x ∈ all, x.length ≤ 60) (d : Nat) : ∀ i : Int, 0 ≤ i → i + d = all.length →
    Ev (fun k => Zs.l1 k all (all.length : Int) i N K next st f) (if ((all.drop i.toNat).flatten.any fun x => decide (bad N x)) = true ∨ bad N st then 2 else if f ≥ 2 ^ N.toNat then 4 else 0) := by
  induction d with
  | zero =>
    intro i h0 hd
    refine Ev.step (fun k => Zs.l1.eq_2 _ _ _ _ _ _ _ _ k) ?_
    simp (disch := omega) only [if_neg (show ¬ i < (all.length : Int) by omega)]
    rw [List.drop_eq_nil_of_le (by omega)]
    by_cases a : st < 0
    · simp only [if_pos a]
      have := rmach_j4 N K next st f hN0 hN1 true
      rw [if_pos rfl] at this
      rw [if_pos (.inr (.inl a))]; exact this
    · simp only [if_neg a]
      have := rmach_j4 N K next st f hN0 hN1 (decide (st ≥ N))
      by_cases b : st ≥ N
      · rw [if_pos (decide_eq_true b)] at this
        rw [if_pos (.inr (.inr b))]; exact this
      · rw [if_neg (by simpa using b)] at this
        rw [if_neg (by simp [bad]; omega)]; exact this
  | succ d ih =>
    intro i h0 hd
    refine Ev.step (fun k => Zs.l1.eq_2 _ _ _ _ _ _ _ _ k) ?_
    rw [drop_rdL h0 (by omega), List.flatten_cons]
    simp (disch := omega) only [if_pos (show i < (all.length : Int) by omega), if_pos h0]
    refine rmach_l2 N K next st f _ all _ i _ (hrow _ (rdL_mem h0 (by omega))) ?_ ?_ (Zd all i).length 0 (by omega) (by omega) (by simp)
    · intro h
      rw [if_pos (.inl (by rw [List.any_append, h]; rfl))]
    · intro h
      have h' : ((Zd all i).any fun x => decide (bad N x)) = false := by simpa using h
      rw [List.any_append, h', Bool.false_or, w64 (by omega) (by omega)]
      exact ih (i + 1) (by omega) (by omega)
theorem rmach_l0 (N K : Int) (st f : Int) (hN0 : 1 ≤ N) (hN1 : N ≤ 7) (hK : 1 ≤ K ∧ K ≤ 3) (next : List (List Int)) (hn : next.length ≤ 60) (d : Nat) : ∀ i : Int, 0 ≤ i → i + d = next.length → (∀ x ∈ next, ((x.length : Int) = K ∨ x ∈ next.drop i.toNat)) →
    Ev (fun k => Zs.l0 k next (next.length : Int) i N K next st f) (if ((next.drop i.toNat).any fun l => decide ((l.length : Int) ≠ K)) = true then 3 else if (next.flatten.any fun x => decide (bad N x)) = true ∨ bad N st then 2 else if f ≥ 2 ^ N.toNat then 4 else 0) := by
  induction d with
  | zero =>
    intro i h0 hd hr
    refine Ev.step (fun k => Zs.l0.eq_2 _ _ _ _ _ _ _ _ k) ?_
    simp (disch := omega) only [if_neg (show ¬ i < (next.length : Int) by omega)]
    rw [List.drop_eq_nil_of_le (by omega)] at hr ⊢
    rw [if_neg (by simp)]
    have := rmach_l1 N K next st f hN0 hN1 next hn (fun x hx => by
      rcases hr x hx with q | q
      · omega
      · simp at q) next.length 0 (by omega) (by omega)
    simpa using this
  | succ d ih =>
    intro i h0 hd hr
    refine Ev.step (fun k => Zs.l0.eq_2 _ _ _ _ _ _ _ _ k) ?_
    rw [drop_rdL h0 (by omega)] at hr ⊢
    simp (disch := omega) only [if_pos (show i < (next.length : Int) by omega), if_pos h0, w64]
    by_cases c : ((Zd next i).length : Int) = K
    · simp only [if_pos c]
      have := ih (i + 1) (by omega) (by omega) (fun x hx => by
        rcases hr x hx with q | q
        · exact .inl q
        · rcases List.mem_cons.1 q with q | q
          · rw [q]; exact .inl c
          · exact .inr q)
      rw [List.any_cons, show decide (((Zd next i).length : Int) ≠ K) = false from by simp [c], Bool.false_or]
      exact this
    · simp only [if_neg c]
      exact Ev.val (by rw [if_pos (by simp [c])])
theorem rmach_ev (N K : Int) (next : List (List Int)) (st f : Int) : Ev (fun k => Zs.f k N K next st f) (machCode N K next st f) := by
  unfold Zs.f
  have wrong : (N < 1 ∨ N > 7 ∨ K < 1 ∨ K > 3) → Ev (fun k => Zs.j0 k true N K next st f) (machCode N K next st f) := by
    intro h
    unfold machCode; rw [if_pos h]
    refine Ev.step (fun k => Zs.j0.eq_2 _ _ _ _ _ _ k) ?_
    simp only [if_true]; exact Ev.now _
  by_cases c1 : N < 1
  · simp only [if_pos c1]; exact wrong (by omega)
  by_cases c2 : N > 7
  · simp only [if_neg c1, if_pos c2]; exact wrong (by omega)
  by_cases c3 : K < 1
  · simp only [if_neg c1, if_neg c2, if_pos c3]; exact wrong (by omega)
  simp only [if_neg c1, if_neg c2, if_neg c3]
  by_cases c4 : K > 3
  · simp only [c4, decide_true]; exact wrong (by omega)
  · simp only [c4, decide_false]
    unfold machCode; rw [if_neg (by omega)]
    refine Ev.step (fun k => Zs.j0.eq_2 _ _ _ _ _ _ k) ?_
    simp only [Bool.false_eq_true, if_false]
    by_cases c5 : (next.length : Int) = N
    · simp only [if_pos c5]
      have := rmach_l0 N K st f (by omega) (by omega) ⟨by omega, by omega⟩ next (by omega) next.length 0 (by omega) (by omega) (fun x hx => .inr (by simpa using hx))
      rw [Int.toNat_zero, List.drop_zero] at this
      by_cases c6 : (next.any fun l => decide ((l.length : Int) ≠ K)) = true
      · rw [if_pos c6] at this
        rw [if_pos (.inr c6)]; exact this
      · rw [if_neg c6] at this
        rw [if_neg (fun h => h.elim (fun a => a c5) c6)]; exact this
    · simp only [if_neg c5]
      exact Ev.val (by rw [if_pos (.inl c5)])
def okMach (N K : Int) (next : List (List Int)) : Prop := (next.length : Int) = N ∧ ∀ row ∈ next, (row.length : Int) = K ∧ ∀ x ∈ row, 0 ≤ x ∧ x < N
theorem machCode_0 {N K : Int} {next : List (List Int)} {st f : Int} (h : machCode N K next st f = 0) : 1 ≤ N ∧ N ≤ 7 ∧ 1 ≤ K ∧ K ≤ 3 ∧ okMach N K next ∧ 0 ≤ st ∧ st < N ∧ f < 2 ^ N.toNat := by
  unfold machCode at h
  by_cases c : N < 1 ∨ N > 7 ∨ K < 1 ∨ K > 3
  · rw [if_pos c] at h; omega
  rw [if_neg c] at h
  by_cases c2 : (next.length : Int) ≠ N ∨ (next.any fun l => decide ((l.length : Int) ≠ K)) = true
  · rw [if_pos c2] at h; omega
  rw [if_neg c2] at h
  by_cases c3 : (next.flatten.any fun x => decide (bad N x)) = true ∨ bad N st
  · rw [if_pos c3] at h; omega
  rw [if_neg c3] at h
  by_cases c4 : f ≥ 2 ^ N.toNat
  · rw [if_pos c4] at h; omega
  simp only [not_or, Classical.not_not, List.any_eq_true, not_exists, not_and, decide_eq_true_eq] at c2 c3
  refine ⟨by omega, by omega, by omega, by omega, ⟨c2.1, fun row hr => ⟨c2.2 row hr, fun x hx => ?_⟩⟩, ?_, ?_, by omega⟩
  · have := c3.1 x (List.mem_flatten.2 ⟨row, hr, hx⟩)
    omega
  · have := c3.2; omega
  · have := c3.2; omega
def mto (next : List (List Int)) (s c : Int) : Int := rd (Zd next s) c
def mrun (next : List (List Int)) : Int → List Int → Int
  | s, [] => s
  | s, c :: w => mrun next (mto next s c) w
theorem okMach.row {N K : Int} {next : List (List Int)} (h : okMach N K next) {s : Int} (h0 : 0 ≤ s) (h1 : s < N) : ((Zd next s).length : Int) = K ∧ s < next.length := by
  have hl : s < next.length := by have := h.1; omega
  exact ⟨(h.2 _ (rdL_mem h0 hl)).1, hl⟩
theorem okMach.to {N K : Int} {next : List (List Int)} (h : okMach N K next) {s c : Int} (h0 : 0 ≤ s) (h1 : s < N) (c0 : 0 ≤ c) (c1 : c < K) : 0 ≤ mto next s c ∧ mto next s c < N := by
  have hl : s < next.length := by have := h.1; omega
  have hr := h.2 _ (rdL_mem h0 hl)
  exact hr.2 _ (rd_mem c0 (by omega))
theorem okMach.run {N K : Int} {next : List (List Int)} (h : okMach N K next) : ∀ (w : List Int) (s : Int), 0 ≤ s → s < N → (∀ c ∈ w, 0 ≤ c ∧ c < K) → 0 ≤ mrun next s w ∧ mrun next s w < N
  | [], s, h0, h1, _ => ⟨h0, h1⟩
  | c :: w, s, h0, h1, hw => by
    have hc := hw c (by simp)
    have := h.to h0 h1 hc.1 hc.2
    exact h.run w _ this.1 this.2 (fun x hx => hw x (by simp [hx]))
section
variable (K : Int) (next : List (List Int)) (f : Nat)
def Td : Nat → Int → Int → Prop
  | 0, i, j => f.testBit i.toNat ≠ f.testBit j.toNat
  | n + 1, i, j => ∃ c, 0 ≤ c ∧ c < K ∧ Td n (mto next i c) (mto next j c)
theorem Td.symm : ∀ (n : Nat) (i j : Int), Td K next f n i j → Td K next f n j i
  | 0, _, _, h => Ne.symm h
  | n + 1, _, _, ⟨c, h0, h1, h⟩ => ⟨c, h0, h1, Td.symm n _ _ h⟩
theorem Td.mid : ∀ (n : Nat) (i j k : Int), Td K next f n i k → Td K next f n i j ∨ Td K next f n j k
  | 0, i, j, k, h => by
    by_cases e : f.testBit i.toNat = f.testBit j.toNat
    · right; intro q; exact h (e.trans q)
    · exact .inl e
  | n + 1, i, j, k, ⟨c, h0, h1, h⟩ => by
    rcases Td.mid n _ (mto next j c) _ h with q | q
    · exact .inl ⟨c, h0, h1, q⟩
    · exact .inr ⟨c, h0, h1, q⟩
theorem Td.irr : ∀ (n : Nat) (i : Int), ¬ Td K next f n i i
  | 0, _, h => h rfl
  | n + 1, _, ⟨_, _, _, h⟩ => Td.irr n _ h
def Al (r : Nat) (i j : Int) : Prop := ∀ n, n ≤ r → ¬ Td K next f n i j
theorem Al.refl (r : Nat) (i : Int) : Al K next f r i i := fun n _ => Td.irr K next f n i
theorem Al.symm {r : Nat} {i j : Int} (h : Al K next f r i j) : Al K next f r j i := fun n hn q => h n hn (Td.symm K next f n _ _ q)
theorem Al.trans {r : Nat} {i j k : Int} (h : Al K next f r i j) (h2 : Al K next f r j k) : Al K next f r i k := fun n hn q => by
  rcases Td.mid K next f n i j k q with q | q
  · exact h n hn q
  · exact h2 n hn q
theorem Al.zero {i j : Int} : Al K next f 0 i j ↔ f.testBit i.toNat = f.testBit j.toNat := by
  constructor
  · intro h; exact Classical.not_not.1 (h 0 (Nat.le_refl _))
  · intro h n hn q
    obtain rfl : n = 0 := by omega
    exact q h
theorem Al.succ {r : Nat} {i j : Int} : Al K next f (r + 1) i j ↔ Al K next f r i j ∧ ∀ c, 0 ≤ c → c < K → Al K next f r (mto next i c) (mto next j c) := by
  constructor
  · intro h
    exact ⟨fun n hn => h n (by omega), fun c c0 c1 n hn q => h (n + 1) (by omega) ⟨c, c0, c1, q⟩⟩
  · rintro ⟨h, h2⟩ n hn q
    cases n with
    | zero => exact h 0 (Nat.zero_le _) q
    | succ n => obtain ⟨c, c0, c1, q⟩ := q; exact h2 c c0 c1 n (by omega) q
structure Rep (N : Int) (r : Nat) (F : List Int) : Prop where
  len : (F.length : Int) = N
  lo : ∀ i : Int, 0 ≤ i → i < N → 0 ≤ rd F i ∧ rd F i ≤ i
  al : ∀ i : Int, 0 ≤ i → i < N → Al K next f r (rd F i) i
  min : ∀ i j : Int, 0 ≤ i → i < N → 0 ≤ j → j < rd F i → ¬ Al K next f r j i
variable {K next f}
theorem Rep.iff {N : Int} {r : Nat} {F : List Int} (h : Rep K next f N r F) {i j : Int} (i0 : 0 ≤ i) (i1 : i < N) (j0 : 0 ≤ j) (j1 : j < N) : rd F i = rd F j ↔ Al K next f r i j := by
  have a := h.al i i0 i1
  have b := h.al j j0 j1
  constructor
  · intro e
    rw [e] at a
    exact (a.symm).trans K next f b
  · intro e
    have l1 := h.lo i i0 i1
    have l2 := h.lo j j0 j1
    apply Int.le_antisymm
    · apply Int.not_lt.1; intro q
      exact h.min i (rd F j) i0 i1 l2.1 q (b.trans K next f (e.symm))
    · apply Int.not_lt.1; intro q
      exact h.min j (rd F i) j0 j1 l1.1 q (a.trans K next f e)
theorem Rep.uniq {N : Int} {r : Nat} {F G : List Int} (h : Rep K next f N r F) (g : Rep K next f N r G) : F = G := by
  refine ext_rd (by have := h.len; have := g.len; omega) (fun i i0 i1 => ?_)
  have i1 : i < N := by have := h.len; omega
  have l1 := h.lo i i0 i1
  have l2 := g.lo i i0 i1
  apply Int.le_antisymm
  · apply Int.not_lt.1; intro q; exact h.min i _ i0 i1 l2.1 q (g.al i i0 i1)
  · apply Int.not_lt.1; intro q; exact g.min i _ i0 i1 l1.1 q (h.al i i0 i1)
theorem Al.stable {N : Int} {r : Nat} (hm : okMach N K next) (h : ∀ i j : Int, 0 ≤ i → i < N → 0 ≤ j → j < N → Al K next f r i j → Al K next f (r + 1) i j) :
    ∀ (s : Nat) (i j : Int), 0 ≤ i → i < N → 0 ≤ j → j < N → Al K next f r i j → Al K next f (r + s) i j
  | 0, _, _, _, _, _, _, q => q
  | s + 1, i, j, i0, i1, j0, j1, q => by
    refine (Al.succ K next f).2 ⟨Al.stable hm h s i j i0 i1 j0 j1 q, fun c c0 c1 => ?_⟩
    have a := hm.to i0 i1 c0 c1
    have b := hm.to j0 j1 c0 c1
    exact Al.stable hm h s _ _ a.1 a.2 b.1 b.2 (((Al.succ K next f).1 (h i j i0 i1 j0 j1 q)).2 c c0 c1)
theorem Al.le {r s : Nat} {i j : Int} (h : Al K next f s i j) (hrs : r ≤ s) : Al K next f r i j := fun n hn => h n (by omega)
theorem Rep.stays {N : Int} {r : Nat} {F : List Int} (hm : okMach N K next) (h : Rep K next f N r F) (h2 : Rep K next f N (r + 1) F) (s : Nat) : Rep K next f N (r + s) F := by
  have st := Al.stable (f := f) hm (r := r) (fun i j i0 i1 j0 j1 q => (h2.iff i0 i1 j0 j1).1 ((h.iff i0 i1 j0 j1).2 q))
  refine ⟨h.len, h.lo, fun i i0 i1 => ?_, fun i j i0 i1 j0 j1 q => h.min i j i0 i1 j0 j1 (q.le (by omega))⟩
  have l := h.lo i i0 i1
  exact st s _ _ l.1 (by omega) i0 i1 (h.al i i0 i1)
def nfix (F : List Int) : Nat → Nat
  | 0 => 0
  | n + 1 => nfix F n + if rd F n = n then 1 else 0
theorem nfix_le (F : List Int) : ∀ n, nfix F n ≤ n
  | 0 => Nat.le_refl _
  | n + 1 => by
    have := nfix_le F n
    unfold nfix; split <;> omega
theorem nfix_mono {F G : List Int} : ∀ n : Nat, (∀ i : Nat, i < n → rd F i = i → rd G i = i) → nfix F n ≤ nfix G n
  | 0, _ => Nat.le_refl _
  | n + 1, h => by
    have := nfix_mono n (fun i hi => h i (by omega))
    have q := h n (by omega)
    unfold nfix
    by_cases c : rd F n = n
    · rw [if_pos c, if_pos (q c)]; omega
    · rw [if_neg c]; split <;> omega
theorem nfix_lt {F G : List Int} {a : Nat} (ha : rd F a ≠ a) (hb : rd G a = a) : ∀ n : Nat, a < n → (∀ i : Nat, i < n → rd F i = i → rd G i = i) → nfix F n < nfix G n
  | 0, h, _ => by omega
  | n + 1, hn, h => by
    unfold nfix
    by_cases e : a = n
    · subst e
      have := nfix_mono a (fun i hi => h i (by omega))
      rw [if_neg ha, if_pos hb]; omega
    · have := nfix_lt ha hb n (by omega) (fun i hi => h i (by omega))
      have q := h n (by omega)
      by_cases c : rd F n = n
      · rw [if_pos c, if_pos (q c)]; omega
      · rw [if_neg c]; split <;> omega
theorem Rep.more {N : Int} {r : Nat} {F G : List Int} (hN : 0 ≤ N) (h : Rep K next f N r F) (g : Rep K next f N (r + 1) G) (hne : G ≠ F) : nfix F N.toNat < nfix G N.toNat := by
  have hle : ∀ i : Int, 0 ≤ i → i < N → rd F i ≤ rd G i := by
    intro i i0 i1
    apply Int.not_lt.1; intro q
    exact h.min i _ i0 i1 (g.lo i i0 i1).1 q ((g.al i i0 i1).le (by omega))
  have hfix : ∀ i : Nat, i < N.toNat → rd F i = i → rd G i = i := by
    intro i hi e
    have a := hle i (by omega) (by omega)
    have b := (g.lo i (by omega) (by omega)).2
    omega
  obtain ⟨i, i0, i1, hi⟩ : ∃ i : Int, 0 ≤ i ∧ i < N ∧ rd F i ≠ rd G i := by
    apply Classical.byContradiction
    intro q
    apply hne
    refine ext_rd (by have := h.len; have := g.len; omega) (fun i i0 i1 => ?_)
    have i1 : i < N := by have := g.len; omega
    apply Classical.byContradiction
    intro e
    exact q ⟨i, i0, i1, fun z => e z.symm⟩
  have lG := g.lo i i0 i1
  have a1 : rd G i < N := by omega
  have hlt : rd F i < rd G i := by have := hle i i0 i1; omega
  have eF : rd F (rd G i) = rd F i := (h.iff lG.1 a1 i0 i1).2 ((g.al i i0 i1).le (by omega))
  have eG : rd G (rd G i) = rd G i := (g.iff lG.1 a1 i0 i1).2 (g.al i i0 i1)
  refine nfix_lt (a := (rd G i).toNat) ?_ ?_ N.toNat (by omega) hfix
  · rw [Int.toNat_of_nonneg lG.1, eF]; omega
  · rw [Int.toNat_of_nonneg lG.1]; exact eG
end
theorem Ev.loopc {σ ρ : Type} {L : Nat → Int → σ → Option ρ} {n : Int} {r : ρ} (I : Int → σ → Prop)
    (hend : ∀ s, I n s → Ev (fun k => L k n s) r)
    (hstep : ∀ i s, 0 ≤ i → i < n → I i s → (∀ s', I (i + 1) s' → Ev (fun k => L k (i + 1) s') r) → Ev (fun k => L k i s) r) :
    ∀ (i : Int) (s : σ), 0 ≤ i → i ≤ n → I i s → Ev (fun k => L k i s) r := by
  have key : ∀ (d : Nat) (i : Int) (s : σ), 0 ≤ i → i + d = n → I i s → Ev (fun k => L k i s) r := by
    intro d
    induction d with
    | zero => intro i s h0 h1 hI; obtain rfl : i = n := by omega
              exact hend s hI
    | succ d ih =>
      intro i s h0 h1 hI
      exact hstep i s h0 (by omega) hI (fun s' h' => ih (i + 1) s' (by omega) (by omega) h')
  intro i s h0 h1 hI
  exact key (n - i).toNat i s h0 (by omega) hI
def EvP {α : Type} (g : Nat → Option α) (J : α → Prop) : Prop := ∃ r, J r ∧ Ev g r
theorem EvP.of {α : Type} {g : Nat → Option α} {J : α → Prop} {r : α} (h : J r) (e : Ev g r) : EvP g J := ⟨r, h, e⟩
theorem EvP.now {α : Type} {J : α → Prop} {r : α} (h : J r) : EvP (fun _ => some r) J := ⟨r, h, Ev.now r⟩
theorem EvP.pos {α : Type} {c : Prop} [Decidable c] {g f : Nat → Option α} {J : α → Prop} (h : c) (e : EvP g J) : EvP (fun k => if c then g k else f k) J := let ⟨r, h1, h2⟩ := e; ⟨r, h1, Ev.pos h h2⟩
theorem EvP.neg {α : Type} {c : Prop} [Decidable c] {g f : Nat → Option α} {J : α → Prop} (h : ¬ c) (e : EvP f J) : EvP (fun k => if c then g k else f k) J := let ⟨r, h1, h2⟩ := e; ⟨r, h1, Ev.neg h h2⟩
theorem EvP.step {α : Type} {g f : Nat → Option α} {J : α → Prop} (h : ∀ k, g (k + 1) = f k) (e : EvP f J) : EvP g J := let ⟨r, h1, h2⟩ := e; ⟨r, h1, Ev.step h h2⟩
theorem EvP.congr {α : Type} {g f : Nat → Option α} {J : α → Prop} (h : ∀ k, g k = f k) (e : EvP f J) : EvP g J := let ⟨r, h1, h2⟩ := e; ⟨r, h1, Ev.congr h h2⟩
theorem EvP.bind {α β : Type} {g : Nat → Option α} {f : Nat → α → Option β} {a : α} {J : β → Prop} (h : Ev g a) (e : EvP (fun n => f n a) J) : EvP (fun n => (g n).bind (f n)) J := let ⟨r, h1, h2⟩ := e; ⟨r, h1, Ev.bind h h2⟩
theorem EvP.bindP {α β : Type} {g : Nat → Option α} {f : Nat → α → Option β} {I : α → Prop} {J : β → Prop} (h : EvP g I) (e : ∀ a, I a → EvP (fun n => f n a) J) : EvP (fun n => (g n).bind (f n)) J := let ⟨a, h1, h2⟩ := h; EvP.bind h2 (e a h1)
theorem EvP.ev {α β : Type} {g : Nat → Option α} {f : Nat → α → Option β} {I : α → Prop} {r : β} (h : EvP g I) (e : ∀ a, I a → Ev (fun n => f n a) r) : Ev (fun n => (g n).bind (f n)) r := let ⟨a, h1, h2⟩ := h; Ev.bind h2 (e a h1)
theorem EvP.mono {α : Type} {g : Nat → Option α} {I J : α → Prop} (h : EvP g I) (hi : ∀ a, I a → J a) : EvP g J := let ⟨a, h1, h2⟩ := h; ⟨a, hi a h1, h2⟩
theorem EvP.loop {σ ρ : Type} {L : Nat → Int → σ → Option ρ} {n : Int} {J : ρ → Prop} (I : Int → σ → Prop)
    (hend : ∀ s, I n s → EvP (fun k => L k n s) J)
    (hstep : ∀ i s, 0 ≤ i → i < n → I i s → (∀ s', I (i + 1) s' → EvP (fun k => L k (i + 1) s') J) → EvP (fun k => L k i s) J) :
    ∀ (i : Int) (s : σ), 0 ≤ i → i ≤ n → I i s → EvP (fun k => L k i s) J := by
  have key : ∀ (d : Nat) (i : Int) (s : σ), 0 ≤ i → i + d = n → I i s → EvP (fun k => L k i s) J := by
    intro d
    induction d with
    | zero => intro i s h0 h1 hI; obtain rfl : i = n := by omega
              exact hend s hI
    | succ d ih =>
      intro i s h0 h1 hI
      exact hstep i s h0 (by omega) hI (fun s' h' => ih (i + 1) s' (by omega) (by omega) h')
  intro i s h0 h1 hI
  exact key (n - i).toNat i s h0 (by omega) hI
theorem isB (p : Prop) : ∃ R : Bool, R = true ↔ p := by
  by_cases h : p
  · exact ⟨true, by simp [h]⟩
  · exact ⟨false, by simp [h]⟩
theorem rdLB_set (T : List (List Bool)) (k k' : Int) (r : List Bool) (h0 : 0 ≤ k) (h1 : k < T.length) (h2 : 0 ≤ k') : rd_L3 (T.set k.toNat r) k' = if k' = k then r else rd_L3 T k' := by
  simp only [rd_L3, List.getD_eq_getElem?_getD]
  by_cases c : k' = k
  · subst c; rw [if_pos rfl, List.getElem?_set_self (by omega)]; rfl
  · rw [if_neg c, List.getElem?_set_ne (by omega)]
theorem rdB_set (r : List Bool) (p p' : Int) (b : Bool) (h0 : 0 ≤ p) (h1 : p < r.length) (h2 : 0 ≤ p') : rdOf false (r.set p.toNat b) p' = if p' = p then b else rdOf false r p' := by
  simp only [rdOf, List.getD_eq_getElem?_getD]
  by_cases c : p' = p
  · subst c; rw [if_pos rfl, List.getElem?_set_self (by omega)]; rfl
  · rw [if_neg c, List.getElem?_set_ne (by omega)]
def te (T : List (List Bool)) (k p : Int) : Bool := rdOf false (rd_L3 T k) p
theorem te_set {T : List (List Bool)} {k p k' p' : Int} {b : Bool} (h0 : 0 ≤ k) (h1 : k < T.length) (h2 : 0 ≤ p) (h3 : p < (rd_L3 T k).length) (h4 : 0 ≤ k') (h5 : 0 ≤ p') :
    te (T.set k.toNat ((rd_L3 T k).set p.toNat b)) k' p' = if k' = k ∧ p' = p then b else te T k' p' := by
  unfold te
  rw [rdLB_set _ _ _ _ h0 h1 h4]
  by_cases c : k' = k
  · subst c
    rw [if_pos rfl, rdB_set _ _ _ _ h2 h3 h5]
    by_cases d : p' = p
    · rw [if_pos d, if_pos ⟨rfl, d⟩]
    · rw [if_neg d, if_neg (fun q => d q.2)]
  · rw [if_neg c, if_neg (fun q => c q.1)]
theorem rowlen_set {T : List (List Bool)} {k p k' : Int} {b : Bool} (h0 : 0 ≤ k) (h1 : k < T.length) (h4 : 0 ≤ k') :
    (rd_L3 (T.set k.toNat ((rd_L3 T k).set p.toNat b)) k').length = (rd_L3 T k').length := by
  rw [rdLB_set _ _ _ _ h0 h1 h4]
  by_cases c : k' = k
  · subst c; rw [if_pos rfl, List.length_set]
  · rw [if_neg c]
theorem Bit_mach (a i : Nat) (ha : a < 2 ^ 32) (hi : i < 32) : coppicerref_Bit.f (a : Int) (i : Int) = some (a.testBit i) := by
  unfold coppicerref_Bit.f
  simp (disch := omega) only [if_pos, u64_id, bit_and a i ha hi]
structure FillT (N : Int) (P : Int → Int → Prop) (T : List (List Bool)) (a : Int) : Prop where
  len : (T.length : Int) = N
  row : ∀ a' : Int, 0 ≤ a' → a' < a → ((rd_L3 T a').length : Int) = N ∧ ∀ b : Int, 0 ≤ b → b < N → (te T a' b = true ↔ P a' b)
structure FillM (N : Int) (P : Int → Int → Prop) (T : List (List Bool)) (a b : Int) (Q : Prop) : Prop where
  below : FillT N P T a
  cur : ((rd_L3 T a).length : Int) = N
  old : ∀ b' : Int, 0 ≤ b' → b' < b → (te T a b' = true ↔ P a b')
  mid : b < N → (te T a b = true ↔ Q)
  rest : ∀ b' : Int, b < b' → b' < N → te T a b' = false
theorem FillT.start {N : Int} {P : Int → Int → Prop} (hN : 0 ≤ N) : FillT N P (List.replicate N.toNat []) 0 := ⟨by rw [List.length_replicate]; omega, fun a h0 h1 => absurd h1 (by omega)⟩
theorem rdB_rep (n : Nat) (b : Int) : rdOf false (List.replicate n false) b = false := by
  simp only [rdOf, List.getD_eq_getElem?_getD, List.getElem?_replicate]
  split <;> rfl
theorem FillT.opens {N : Int} {P : Int → Int → Prop} {T : List (List Bool)} {a : Int} (h : FillT N P T a) (hN : 0 ≤ N) (h0 : 0 ≤ a) (h1 : a < N) : FillM N P (T.set a.toNat (List.replicate N.toNat false)) a 0 False := by
  have hl := h.len
  have e : ∀ a' : Int, 0 ≤ a' → rd_L3 (T.set a.toNat (List.replicate N.toNat false)) a' = if a' = a then List.replicate N.toNat false else rd_L3 T a' := fun a' q => rdLB_set _ _ _ _ h0 (by omega) q
  refine ⟨⟨by rw [List.length_set]; exact hl, fun a' p q => ?_⟩, ?_, fun b' p q => by omega, fun p => ?_, fun b' p q => ?_⟩
  · have := h.row a' p q
    unfold te at this ⊢
    rw [e a' p, if_neg (by omega)]; exact this
  · rw [e a h0, if_pos rfl, List.length_replicate]; omega
  · unfold te; rw [e a h0, if_pos rfl, rdB_rep]; simp
  · unfold te; rw [e a h0, if_pos rfl, rdB_rep]
theorem FillM.put {N : Int} {P : Int → Int → Prop} {T : List (List Bool)} {a b : Int} {Q Q' : Prop} {v : Bool} (h : FillM N P T a b Q) (a0 : 0 ≤ a) (a1 : a < N) (b0 : 0 ≤ b) (b1 : b < N) (hv : v = true ↔ Q') :
    FillM N P (T.set a.toNat ((rd_L3 T a).set b.toNat v)) a b Q' := by
  have hl := h.below.len
  have hc := h.cur
  have e : ∀ a' b' : Int, 0 ≤ a' → 0 ≤ b' → te (T.set a.toNat ((rd_L3 T a).set b.toNat v)) a' b' = if a' = a ∧ b' = b then v else te T a' b' := fun a' b' p q => te_set a0 (by omega) b0 (by omega) p q
  have el : ∀ a' : Int, 0 ≤ a' → (rd_L3 (T.set a.toNat ((rd_L3 T a).set b.toNat v)) a').length = (rd_L3 T a').length := fun a' p => rowlen_set a0 (by omega) p
  refine ⟨⟨by rw [List.length_set]; exact hl, fun a' p q => ?_⟩, ?_, fun b' p q => ?_, fun p => ?_, fun b' p q => ?_⟩
  · have := h.below.row a' p q
    refine ⟨by rw [el a' p]; exact this.1, fun b' x y => ?_⟩
    rw [e a' b' p x, if_neg (by omega)]; exact this.2 b' x y
  · rw [el a a0]; exact hc
  · rw [e a b' a0 p, if_neg (by omega)]; exact h.old b' p q
  · rw [e a b a0 b0, if_pos ⟨rfl, rfl⟩]; exact hv
  · rw [e a b' a0 (by omega), if_neg (by omega)]; exact h.rest b' p q
theorem FillM.next {N : Int} {P : Int → Int → Prop} {T : List (List Bool)} {a b : Int} {Q : Prop} (h : FillM N P T a b Q) (b0 : 0 ≤ b) (b1 : b < N) (hq : Q ↔ P a b) : FillM N P T a (b + 1) False := by
  refine ⟨h.below, h.cur, fun b' p q => ?_, fun p => ?_, fun b' p q => h.rest b' (by omega) q⟩
  · by_cases c : b' = b
    · subst c; rw [h.mid b1]; exact hq
    · exact h.old b' p (by omega)
  · rw [h.rest (b + 1) (by omega) p]; simp
theorem FillM.close {N : Int} {P : Int → Int → Prop} {T : List (List Bool)} {a : Int} {Q : Prop} (h : FillM N P T a N Q) : FillT N P T (a + 1) := by
  refine ⟨h.below.len, fun a' p q => ?_⟩
  by_cases c : a' = a
  · subst c; exact ⟨h.cur, h.old⟩
  · exact h.below.row a' p (by omega)
section
variable {N K : Int} {next : List (List Int)} {st : Int} {f : Nat} (hN0 : 1 ≤ N) (hN1 : N ≤ 14) (hK : 0 ≤ K ∧ K ≤ 3) (hm : okMach N K next) (hf : f < 2 ^ 32)
include hN0 hN1 hK hm hf
theorem told_l1 {n i j a : Int} {r : Bool} (a0 : 0 ≤ a) (a1 : a < N)
    (he : ∀ T, FillT N (Td K next f 0) T (a + 1) → Ev (fun k => Zk.l0 k n i j T (a + 1) N K next st (f : Int)) r) (T : List (List Bool)) (hT : FillM N (Td K next f 0) T a 0 False) :
    Ev (fun k => Zk.l1 k n i j T a 0 N K next st (f : Int)) r := by
  refine Ev.loopc (σ := List (List Bool)) (L := fun k b T => Zk.l1 k n i j T a b N K next st (f : Int)) (n := N) (fun b T => FillM N (Td K next f 0) T a b False) ?_ ?_ 0 T (Int.le_refl _) (by omega) hT
  · intro T hT
    refine Ev.step (fun k => Zk.l1.eq_2 _ _ _ _ _ _ _ _ _ _ _ k) ?_
    rw [w64 (x := a + 1) (by omega) (by omega)]
    exact Ev.neg (by omega) (he T hT.close)
  · intro b T b0 b1 hT hn
    have hl := hT.below.len
    have hc := hT.cur
    refine Ev.step (fun k => Zk.l1.eq_2 _ _ _ _ _ _ _ _ _ _ _ k) ?_
    rw [w64 (x := b + 1) (by omega) (by omega)]
    have ea := Bit_mach f a.toNat hf (by omega)
    have eb := Bit_mach f b.toNat hf (by omega)
    rw [Int.toNat_of_nonneg a0] at ea
    rw [Int.toNat_of_nonneg b0] at eb
    refine Ev.pos b1 (Ev.pos a0 (Ev.pos (by omega) ?_))
    simp only [ea, eb, Option.bind_some]
    refine Ev.pos b0 (Ev.pos (by omega) (hn _ ?_))
    refine (hT.put a0 a1 b0 b1 (Q' := Td K next f 0 a b) ?_).next b0 b1 Iff.rfl
    show (f.testBit a.toNat != f.testBit b.toNat) = true ↔ f.testBit a.toNat ≠ f.testBit b.toNat
    exact bne_iff_ne
theorem told_start {n i j : Int} {r : Bool} (he : ∀ T, FillT N (Td K next f 0) T N → Ev (fun k => Zk.l2 k n i j T 0 N K next st (f : Int)) r) :
    Ev (fun k => Zk.f k N K next st (f : Int) n i j) r := by
  unfold Zk.f
  refine Ev.pos (by omega) (Ev.pos (by omega) ?_)
  refine Ev.loopc (σ := List (List Bool)) (L := fun k a T => Zk.l0 k n i j T a N K next st (f : Int)) (n := N) (fun a T => FillT N (Td K next f 0) T a) ?_ ?_ 0 _ (Int.le_refl _) (by omega) (FillT.start (by omega))
  · intro T hT
    refine Ev.step (fun k => Zk.l0.eq_2 _ _ _ _ _ _ _ _ _ _ k) ?_
    exact Ev.neg (by omega) (he T hT)
  · intro a T a0 a1 hT hn
    have hl := hT.len
    refine Ev.step (fun k => Zk.l0.eq_2 _ _ _ _ _ _ _ _ _ _ k) ?_
    refine Ev.pos a1 (Ev.pos (by omega) (Ev.pos (by omega) (Ev.pos a0 (Ev.pos (by omega) ?_))))
    exact told_l1 hN0 hN1 hK hm hf a0 a1 hn _ (hT.opens (by omega) a0 a1)
theorem told_l5 {n i j z a b : Int} {r : Bool} {m : Nat} {T : List (List Bool)} (hT : FillT N (Td K next f m) T N) (a0 : 0 ≤ a) (a1 : a < N) (b0 : 0 ≤ b) (b1 : b < N)
    (he : ∀ G, FillM N (Td K next f (m + 1)) G a (b + 1) False → Ev (fun k => Zk.l4 k n i j T z G a (b + 1) N K next st (f : Int)) r) (G : List (List Bool)) (hG : FillM N (Td K next f (m + 1)) G a b False) :
    Ev (fun k => Zk.l5 k n i j T z G a b 0 N K next st (f : Int)) r := by
  refine Ev.loopc (σ := List (List Bool)) (L := fun k s G => Zk.l5 k n i j T z G a b s N K next st (f : Int)) (n := K)
    (fun s G => FillM N (Td K next f (m + 1)) G a b (∃ c, 0 ≤ c ∧ c < s ∧ Td K next f m (mto next a c) (mto next b c))) ?_ ?_ 0 G (Int.le_refl _) hK.1 ?_
  · intro G hG
    refine Ev.step (fun k => Zk.l5.eq_2 _ _ _ _ _ _ _ _ _ _ _ _ _ _ k) ?_
    rw [w64 (x := b + 1) (by omega) (by omega)]
    exact Ev.neg (by omega) (he G (hG.next b0 b1 Iff.rfl))
  · intro s G s0 s1 hG hn
    have hl := hG.below.len
    have hc := hG.cur
    have hTl := hT.len
    have ra := hm.row a0 a1
    have rb := hm.row b0 b1
    have ta := hm.to a0 a1 s0 s1
    have tb := hm.to b0 b1 s0 s1
    have rowT := hT.row _ ta.1 ta.2
    have vT := rowT.2 _ tb.1 tb.2
    have hmid := hG.mid b1
    refine Ev.step (fun k => Zk.l5.eq_2 _ _ _ _ _ _ _ _ _ _ _ _ _ _ k) ?_
    rw [w64 (x := s + 1) (by omega) (by omega)]
    refine Ev.pos s1 (Ev.pos a0 (Ev.pos (by omega) (Ev.pos b0 (Ev.pos (by omega) ?_))))
    by_cases c : rdOf false (rd_L3 G a) b = true
    · refine Ev.pos c (hn _ (hG.put a0 a1 b0 b1 ?_))
      refine ⟨fun _ => ?_, fun _ => rfl⟩
      obtain ⟨x, x0, x1, h⟩ := hmid.1 c
      exact ⟨x, x0, by omega, h⟩
    · refine Ev.neg c (Ev.pos ra.2 (Ev.pos s0 (Ev.pos (by omega) (Ev.pos ta.1 ?_))))
      refine Ev.pos (show mto next a s < (T.length : Int) by omega) (Ev.pos rb.2 (Ev.pos (by omega) (Ev.pos tb.1 ?_)))
      refine Ev.pos (show mto next b s < ((rd_L3 T (mto next a s)).length : Int) by omega) (hn _ (hG.put a0 a1 b0 b1 ?_))
      have c' : ¬ te G a b = true := c
      rw [hmid] at c'
      show te T (mto next a s) (mto next b s) = true ↔ _
      rw [vT]
      constructor
      · intro h; exact ⟨s, s0, by omega, h⟩
      · rintro ⟨x, x0, x1, h⟩
        by_cases e : x = s
        · subst e; exact h
        · exact absurd ⟨x, x0, by omega, h⟩ c'
  · have e : (∃ c, 0 ≤ c ∧ c < 0 ∧ Td K next f m (mto next a c) (mto next b c)) ↔ False := ⟨fun ⟨c, p, q, _⟩ => by omega, False.elim⟩
    exact ⟨hG.below, hG.cur, hG.old, fun p => by rw [e]; exact hG.mid p, hG.rest⟩
theorem told_l4 {n i j z a : Int} {r : Bool} {m : Nat} {T : List (List Bool)} (hT : FillT N (Td K next f m) T N) (a0 : 0 ≤ a) (a1 : a < N)
    (he : ∀ G, FillT N (Td K next f (m + 1)) G (a + 1) → Ev (fun k => Zk.l3 k n i j T z G (a + 1) N K next st (f : Int)) r) (G : List (List Bool)) (hG : FillM N (Td K next f (m + 1)) G a 0 False) :
    Ev (fun k => Zk.l4 k n i j T z G a 0 N K next st (f : Int)) r := by
  refine Ev.loopc (σ := List (List Bool)) (L := fun k b G => Zk.l4 k n i j T z G a b N K next st (f : Int)) (n := N) (fun b G => FillM N (Td K next f (m + 1)) G a b False) ?_ ?_ 0 G (Int.le_refl _) (by omega) hG
  · intro G hG
    refine Ev.step (fun k => Zk.l4.eq_2 _ _ _ _ _ _ _ _ _ _ _ _ _ k) ?_
    rw [w64 (x := a + 1) (by omega) (by omega)]
    exact Ev.neg (by omega) (he G hG.close)
  · intro b G b0 b1 hG hn
    refine Ev.step (fun k => Zk.l4.eq_2 _ _ _ _ _ _ _ _ _ _ _ _ _ k) ?_
    exact Ev.pos b1 (told_l5 hN0 hN1 hK hm hf hT a0 a1 b0 b1 hn G hG)
theorem told_round {n i j z : Int} {r : Bool} {m : Nat} {T : List (List Bool)} (hz0 : 0 ≤ z) (hz : z ≤ 100) (hT : FillT N (Td K next f m) T N)
    (he : ∀ G, FillT N (Td K next f (m + 1)) G N → Ev (fun k => Zk.l2 k n i j G (z + 1) N K next st (f : Int)) r) :
    Ev (fun k => Zk.l3 k n i j T z (List.replicate N.toNat []) 0 N K next st (f : Int)) r := by
  refine Ev.loopc (σ := List (List Bool)) (L := fun k a G => Zk.l3 k n i j T z G a N K next st (f : Int)) (n := N) (fun a G => FillT N (Td K next f (m + 1)) G a) ?_ ?_ 0 _ (Int.le_refl _) (by omega) (FillT.start (by omega))
  · intro G hG
    refine Ev.step (fun k => Zk.l3.eq_2 _ _ _ _ _ _ _ _ _ _ _ _ k) ?_
    rw [w64 (x := z + 1) (by omega) (by omega)]
    exact Ev.neg (by omega) (he G hG)
  · intro a G a0 a1 hG hn
    have hl := hG.len
    refine Ev.step (fun k => Zk.l3.eq_2 _ _ _ _ _ _ _ _ _ _ _ _ k) ?_
    refine Ev.pos a1 (Ev.pos (by omega) (Ev.pos (by omega) (Ev.pos a0 (Ev.pos (by omega) ?_))))
    exact told_l4 hN0 hN1 hK hm hf hT a0 a1 hn _ (hG.opens (by omega) a0 a1)
theorem told_ev {n i j : Int} {R : Bool} (n0 : 0 ≤ n) (n1 : n ≤ 100) (i0 : 0 ≤ i) (i1 : i < N) (j0 : 0 ≤ j) (j1 : j < N) (hR : R = true ↔ Td K next f n.toNat i j) :
    Ev (fun k => Zk.f k N K next st (f : Int) n i j) R := by
  refine told_start hN0 hN1 hK hm hf (fun T hT => ?_)
  refine Ev.loopc (σ := List (List Bool)) (L := fun k z T => Zk.l2 k n i j T z N K next st (f : Int)) (n := n) (fun z T => FillT N (Td K next f z.toNat) T N) ?_ ?_ 0 T (Int.le_refl _) n0 hT
  · intro T hT
    have hl := hT.len
    have ht := hT.row i i0 i1
    refine Ev.step (fun k => Zk.l2.eq_2 _ _ _ _ _ _ _ _ _ _ k) ?_
    refine Ev.neg (by omega) (Ev.pos i0 (Ev.pos (by omega) (Ev.pos j0 (Ev.pos (by omega) (Ev.val ?_)))))
    have := (ht.2 j j0 j1).trans hR.symm
    exact Bool.eq_iff_iff.2 this
  · intro z T z0 z1 hT hn
    refine Ev.step (fun k => Zk.l2.eq_2 _ _ _ _ _ _ _ _ _ _ k) ?_
    refine Ev.pos z1 (Ev.pos (by omega) (Ev.pos (by omega) ?_))
    refine told_round hN0 hN1 hK hm hf z0 (by omega) hT (fun G hG => hn G ?_)
    have e : (z + 1).toNat = z.toNat + 1 := by omega
    rw [e]; exact hG
end
theorem Equal_ev (a b : List Int) (hb : (a.length : Int) ≤ 4611686018427387904) : Ev (fun k => Ze1.f k a b) (decide (a = b)) := by
  unfold Ze1.f
  by_cases hl : a.length = b.length
  · refine Ev.pos (by omega) ?_
    refine Ev.loopc (σ := Unit) (L := fun k i _ => Ze1.l0 k a b (a.length : Int) i) (n := (a.length : Int)) (fun i _ => ∀ j : Int, 0 ≤ j → j < i → rd a j = rd b j) ?_ ?_ 0 () (Int.le_refl _) (by omega) (fun j p q => by omega)
    · intro _ h
      refine Ev.step (fun k => Ze1.l0.eq_2 _ _ _ _ k) ?_
      exact Ev.neg (by omega) (Ev.val (decide_eq_true (ext_rd hl h)).symm)
    · intro i _ i0 i1 h hn
      refine Ev.step (fun k => Ze1.l0.eq_2 _ _ _ _ k) ?_
      rw [w64 (x := i + 1) (by omega) (by omega)]
      refine Ev.pos i1 (Ev.pos i0 (Ev.pos i1 (Ev.pos (by omega) ?_)))
      by_cases c : rd a i = rd b i
      · refine Ev.pos c (hn () (fun j p q => ?_))
        by_cases e : j = i
        · rw [e]; exact c
        · exact h j p (by omega)
      · exact Ev.neg c (Ev.val (decide_eq_false (fun q => c (by rw [q]))).symm)
  · exact Ev.neg (by omega) (Ev.val (decide_eq_false (fun q => hl (by rw [q]))).symm)
theorem IndexB_ev (l : List Bool) (i : Int) (h0 : 0 ≤ i) (h1 : i < l.length) (hb : (l.length : Int) ≤ 4611686018427387904) :
    EvP (fun k => Zi1.f k l (rdOf false l i)) (fun r => 0 ≤ r ∧ r ≤ i ∧ rdOf false l r = rdOf false l i ∧ ∀ j : Int, 0 ≤ j → j < r → rdOf false l j ≠ rdOf false l i) := by
  unfold Zi1.f
  refine EvP.loop (σ := Unit) (L := fun k j _ => Zi1.l0 k l (rdOf false l i) (l.length : Int) j) (n := (l.length : Int)) (fun j _ => j ≤ i ∧ ∀ x : Int, 0 ≤ x → x < j → rdOf false l x ≠ rdOf false l i) ?_ ?_ 0 () (Int.le_refl _) (by omega) ⟨h0, fun j p q => by omega⟩
  · intro _ h; exact absurd h.1 (by omega)
  · intro j _ j0 j1 h hn
    refine EvP.step (fun k => Zi1.l0.eq_2 _ _ _ _ k) ?_
    rw [w64 (x := j + 1) (by omega) (by omega)]
    refine EvP.pos j1 (EvP.pos j0 (EvP.pos j1 ?_))
    by_cases c : rdOf false l i = rdOf false l j
    · exact EvP.pos (beq_iff_eq.2 c) (EvP.now ⟨j0, h.1, c.symm, h.2⟩)
    · refine EvP.neg (fun q => c (beq_iff_eq.1 q)) (hn () ⟨?_, fun x p q => ?_⟩)
      · by_cases e : j = i
        · subst e; exact absurd rfl c
        · have := h.1; omega
      · by_cases e : x = j
        · rw [e]; exact fun q => c q.symm
        · exact h.2 x p (by omega)
structure RepTo (K : Int) (next : List (List Int)) (f : Nat) (N : Int) (r : Nat) (F : List Int) (n : Int) : Prop where
  len : (F.length : Int) = N
  lo : ∀ i : Int, 0 ≤ i → i < n → 0 ≤ rd F i ∧ rd F i ≤ i
  al : ∀ i : Int, 0 ≤ i → i < n → Al K next f r (rd F i) i
  min : ∀ i j : Int, 0 ≤ i → i < n → 0 ≤ j → j < rd F i → ¬ Al K next f r j i
theorem RepTo.start {K : Int} {next : List (List Int)} {f : Nat} {N : Int} {r : Nat} (hN : 0 ≤ N) : RepTo K next f N r (List.replicate N.toNat 0) 0 :=
  ⟨by rw [List.length_replicate]; omega, fun i p q => by omega, fun i p q => by omega, fun i j p q => by omega⟩
theorem RepTo.put {K : Int} {next : List (List Int)} {f : Nat} {N : Int} {r : Nat} {F : List Int} {i v : Int} (h : RepTo K next f N r F i) (i0 : 0 ≤ i) (i1 : i < N) (v0 : 0 ≤ v) (v1 : v ≤ i) (ha : Al K next f r v i) (hm : ∀ j : Int, 0 ≤ j → j < v → ¬ Al K next f r j i) : RepTo K next f N r (F.set i.toNat v) (i + 1) := by
  have hl := h.len
  have e : ∀ x : Int, 0 ≤ x → rd (F.set i.toNat v) x = if x = i then v else rd F x := by
    intro x x0
    by_cases c : x = i
    · subst c; rw [if_pos rfl]; exact rd_set_eq _ _ _ x0 (by omega)
    · rw [if_neg c]; exact rd_set_ne _ _ _ _ i0 x0 c
  refine ⟨by rw [List.length_set]; exact hl, fun x p q => ?_, fun x p q => ?_, fun x j p q a b => ?_⟩
  · rw [e x p]; by_cases c : x = i
    · rw [if_pos c]; omega
    · rw [if_neg c]; exact h.lo x p (by omega)
  · rw [e x p]; by_cases c : x = i
    · rw [if_pos c, c]; exact ha
    · rw [if_neg c]; exact h.al x p (by omega)
  · rw [e x p] at b; by_cases c : x = i
    · rw [if_pos c] at b; rw [c]; exact hm j a b
    · rw [if_neg c] at b; exact h.min x j p (by omega) a b
theorem RepTo.done {K : Int} {next : List (List Int)} {f : Nat} {N : Int} {r : Nat} {F : List Int} (h : RepTo K next f N r F N) : Rep K next f N r F := ⟨h.len, h.lo, h.al, h.min⟩
theorem nfix_pos (F : List Int) (h : rd F 0 = 0) : ∀ n : Nat, 1 ≤ n → 1 ≤ nfix F n
  | 0, h => by omega
  | n + 1, _ => by
    unfold nfix
    by_cases c : n = 0
    · subst c; rw [if_pos (by simpa using h)]; omega
    · have := nfix_pos F h n (by omega); omega
section
variable {N K : Int} {next : List (List Int)} {st g : Int} {f : Nat} (hN0 : 1 ≤ N) (hN1 : N ≤ 7) (hK : 0 ≤ K ∧ K ≤ 3) (hm : okMach N K next)
include hN0 hN1 hK hm
theorem parts_l4 {F G : List Int} {r : Nat} {i j : Int} {J : List Int → Prop} (hF : Rep K next f N r F) (i0 : 0 ≤ i) (i1 : i < N) (j0 : 0 ≤ j) (j1 : j ≤ i) (hG : (G.length : Int) = N) (m : Int)
    (hy : Al K next f (r + 1) i j → EvP (fun k => Zr.l2 k F (G.set i.toNat j) N (i + 1) N K next st g) J)
    (hn : ¬ Al K next f (r + 1) i j → EvP (fun k => Zr.l3 k F G i N i m (j + 1) N K next st g) J) :
    EvP (fun k => Zr.l4 k F G i j (rd F i == rd F j) N i m j K 0 N K next st g) J := by
  have hFl := hF.len
  refine EvP.loop (σ := Bool) (L := fun k s b => Zr.l4 k F G i j b N i m j K s N K next st g) (n := K)
    (fun s b => b = true ↔ Al K next f r i j ∧ ∀ c, 0 ≤ c → c < s → Al K next f r (mto next i c) (mto next j c)) ?_ ?_ 0 (rd F i == rd F j) (Int.le_refl _) hK.1 ?_
  · intro b hb
    refine EvP.step (fun k => Zr.l4.eq_2 _ _ _ _ _ _ _ _ _ _ _ _ _ _ _ _ k) ?_
    rw [w64 (x := i + 1) (by omega) (by omega), w64 (x := j + 1) (by omega) (by omega)]
    rw [← Al.succ] at hb
    refine EvP.neg (by omega) ?_
    by_cases c : b = true
    · exact EvP.pos c (EvP.pos i0 (EvP.pos (by omega) (hy (hb.1 c))))
    · exact EvP.neg c (hn (fun q => c (hb.2 q)))
  · intro s b s0 s1 hb hn2
    have ra := hm.row i0 i1
    have rb := hm.row (s := j) j0 (by omega)
    have ta := hm.to i0 i1 s0 s1
    have tb := hm.to (s := j) j0 (by omega) s0 s1
    refine EvP.step (fun k => Zr.l4.eq_2 _ _ _ _ _ _ _ _ _ _ _ _ _ _ _ _ k) ?_
    rw [w64 (x := s + 1) (by omega) (by omega)]
    refine EvP.pos s1 ?_
    by_cases c : b = true
    · refine EvP.pos c (EvP.pos i0 (EvP.pos ra.2 (EvP.pos s0 (EvP.pos (by omega) (EvP.pos ta.1 (EvP.pos (show mto next i s < (F.length : Int) by omega) ?_))))))
      refine EvP.pos j0 (EvP.pos rb.2 (EvP.pos (by omega) (EvP.pos tb.1 (EvP.pos (show mto next j s < (F.length : Int) by omega) (hn2 _ ?_)))))
      have q := hF.iff ta.1 ta.2 tb.1 tb.2
      have hb' := hb.1 c
      show (rd F (mto next i s) == rd F (mto next j s)) = true ↔ _
      rw [beq_iff_eq, q]
      constructor
      · intro h
        refine ⟨hb'.1, fun x x0 x1 => ?_⟩
        by_cases e : x = s
        · rw [e]; exact h
        · exact hb'.2 x x0 (by omega)
      · intro h; exact h.2 s s0 (by omega)
    · refine EvP.neg c (hn2 false ⟨fun q => by simp at q, fun q => ?_⟩)
      exact absurd (hb.2 ⟨q.1, fun x x0 x1 => q.2 x x0 (by omega)⟩) c
  · rw [beq_iff_eq, hF.iff i0 i1 j0 (by omega)]
    exact ⟨fun q => ⟨q, fun c c0 c1 => by omega⟩, fun q => q.1⟩
theorem parts_l3 {F : List Int} {r : Nat} {i : Int} {J : List Int → Prop} (hF : Rep K next f N r F) (i0 : 0 ≤ i) (i1 : i < N) (G : List Int) (hG : RepTo K next f N (r + 1) G i)
    (hn : ∀ G, RepTo K next f N (r + 1) G (i + 1) → EvP (fun k => Zr.l2 k F G N (i + 1) N K next st g) J) :
    EvP (fun k => Zr.l3 k F G i N i (i + 1) 0 N K next st g) J := by
  have hFl := hF.len
  refine EvP.loop (σ := Unit) (L := fun k j _ => Zr.l3 k F G i N i (i + 1) j N K next st g) (n := i + 1) (fun j _ => ∀ x : Int, 0 ≤ x → x < j → ¬ Al K next f (r + 1) x i) ?_ ?_ 0 () (Int.le_refl _) (by omega) (fun x p q => by omega)
  · intro _ h
    exact absurd (Al.refl K next f (r + 1) i) (h i i0 (by omega))
  · intro j _ j0 j1 h hn2
    refine EvP.step (fun k => Zr.l3.eq_2 _ _ _ _ _ _ _ _ _ _ _ _ k) ?_
    refine EvP.pos j1 (EvP.pos i0 (EvP.pos (by omega) (EvP.pos j0 (EvP.pos (by omega) ?_))))
    refine parts_l4 hN0 hN1 hK hm hF i0 i1 j0 (by omega) hG.len (i + 1) (fun q => hn _ ?_) (fun q => hn2 () (fun x p z => ?_))
    · exact hG.put i0 i1 j0 (by omega) (Al.symm K next f q) h
    · by_cases e : x = j
      · rw [e]; exact fun u => q (Al.symm K next f u)
      · exact h x p (by omega)
theorem parts_l1 : ∀ (d r : Nat) (F : List Int), Rep K next f N r F → r + 1 ≤ nfix F N.toNat → nfix F N.toNat + d = N.toNat →
    EvP (fun k => Zr.l1 k F N K next st g) (fun F => Rep K next f N (N - 1).toNat F) := by
  intro d
  induction d using Nat.strongRecOn with
  | _ d ih =>
    intro r F hF hr hd
    have hFl := hF.len
    refine EvP.step (fun k => Zr.l1.eq_2 _ _ _ _ _ _ k) ?_
    refine EvP.pos (by omega) (EvP.pos (by omega) ?_)
    simp only [Option.bind_some, List.length_replicate]
    rw [show ((N.toNat : Nat) : Int) = N by omega]
    refine EvP.loop (σ := List Int) (L := fun k i G => Zr.l2 k F G N i N K next st g) (n := N) (fun i G => RepTo K next f N (r + 1) G i) ?_ ?_ 0 _ (Int.le_refl _) (by omega) (RepTo.start (by omega))
    · intro G hG
      have hG := hG.done
      have hGl := hG.len
      refine EvP.step (fun k => Zr.l2.eq_2 _ _ _ _ _ _ _ _ _ k) ?_
      refine EvP.neg (by omega) (EvP.bind (Equal_ev G F (by omega)) ?_)
      by_cases c : G = F
      · refine EvP.pos (decide_eq_true c) (EvP.now ?_)
        subst c
        have := hF.stays hm hG ((N - 1).toNat - r)
        have le := nfix_le G N.toNat
        rwa [show r + ((N - 1).toNat - r) = (N - 1).toNat by omega] at this
      · refine EvP.neg (by simpa using c) ?_
        have lt := hF.more (by omega) hG c
        have le := nfix_le G N.toNat
        exact ih (N.toNat - nfix G N.toNat) (by omega) (r + 1) G hG (by omega) (by omega)
    · intro i G i0 i1 hG hn
      refine EvP.step (fun k => Zr.l2.eq_2 _ _ _ _ _ _ _ _ _ k) ?_
      rw [w64 (x := i + 1) (by omega) (by omega)]
      exact EvP.pos i1 (parts_l3 hN0 hN1 hK hm hF i0 i1 G hG hn)
theorem parts_ev {l : List Bool} (hl : (l.length : Int) = N) (hf : ∀ i : Int, 0 ≤ i → i < N → rdOf false l i = f.testBit i.toNat) :
    EvP (fun k => Zr.f k N K next st g l) (fun F => Rep K next f N (N - 1).toNat F) := by
  unfold Zr.f
  refine EvP.pos (by omega) (EvP.pos (by omega) ?_)
  simp only [Option.bind_some, List.length_replicate]
  rw [show ((N.toNat : Nat) : Int) = N by omega]
  refine EvP.loop (σ := List Int) (L := fun k i G => Zr.l0 k l G N i N K next st g) (n := N) (fun i G => RepTo K next f N 0 G i) ?_ ?_ 0 _ (Int.le_refl _) (by omega) (RepTo.start (by omega))
  · intro G hG
    have hG := hG.done
    have h0 := hG.lo 0 (by omega) (by omega)
    have hp := nfix_pos G (by omega) N.toNat (by omega)
    have le := nfix_le G N.toNat
    refine EvP.step (fun k => Zr.l0.eq_2 _ _ _ _ _ _ _ _ _ k) ?_
    exact EvP.neg (by omega) (parts_l1 hN0 hN1 hK hm (N.toNat - nfix G N.toNat) 0 G hG (by omega) (by omega))
  · intro i G i0 i1 hG hn
    have hGl := hG.len
    refine EvP.step (fun k => Zr.l0.eq_2 _ _ _ _ _ _ _ _ _ k) ?_
    rw [w64 (x := i + 1) (by omega) (by omega)]
    refine EvP.pos i1 (EvP.pos i0 (EvP.pos (by omega) (EvP.bindP (IndexB_ev l i i0 (by omega) (by omega)) ?_)))
    rintro v ⟨v0, v1, ve, vm⟩
    refine EvP.pos (by omega) (hn _ (hG.put i0 i1 v0 v1 ((Al.zero K next f).2 ?_) (fun j a b q => vm j a b ?_)))
    · rw [hf v v0 (by omega), hf i i0 i1] at ve; exact ve
    · have := (Al.zero K next f).1 q
      rw [hf j a (by omega), hf i i0 i1]; exact this
theorem alike_ev (hf : f < 2 ^ 32) : EvP (fun k => Zk1.f k N K next st (f : Int)) (fun F => Rep K next f N (N - 1).toNat F) := by
  unfold Zk1.f
  refine EvP.loop (σ := List Bool) (L := fun k i l => Zk1.l0 k l N i N K next st (f : Int)) (n := N) (fun i l => (l.length : Int) = i ∧ ∀ j : Int, 0 ≤ j → j < i → rdOf false l j = f.testBit j.toNat) ?_ ?_ 0 [] (Int.le_refl _) (by omega) ⟨rfl, fun j p q => by omega⟩
  · rintro l ⟨hl, hv⟩
    refine EvP.step (fun k => Zk1.l0.eq_2 _ _ _ _ _ _ _ _ k) ?_
    refine EvP.neg (by omega) (EvP.bindP (parts_ev hN0 hN1 hK hm hl hv) (fun F hF => EvP.now hF))
  · rintro i l i0 i1 ⟨hl, hv⟩ hn
    refine EvP.step (fun k => Zk1.l0.eq_2 _ _ _ _ _ _ _ _ k) ?_
    rw [w64 (x := i + 1) (by omega) (by omega)]
    refine EvP.pos i1 (EvP.pos i0 (EvP.pos (by omega) (hn _ ⟨by rw [List.length_append]; simp; omega, fun j p q => ?_⟩)))
    by_cases e : j = i
    · subst e
      have t := bit_shr f j.toNat hf (by omega)
      rw [Int.toNat_of_nonneg p] at t
      have e1 : rdOf false (l ++ [Go.bits .and .u32 (shr .u32 (f : Int) j) 1 == 1]) j = (Go.bits .and .u32 (shr .u32 (f : Int) j) 1 == 1) := by
        simp only [rdOf, List.getD_eq_getElem?_getD]
        rw [show j.toNat = l.length by omega]; simp
      rw [e1]
      exact Bool.eq_iff_iff.2 (by rw [beq_iff_eq]; exact t)
    · rw [← hv j p (by omega)]
      simp only [rdOf, List.getD_eq_getElem?_getD]
      rw [List.getElem?_append_left (by omega)]
end
theorem nodupI_le : ∀ (n : Nat) (l : List Int), l.Nodup → (∀ x ∈ l, 0 ≤ x ∧ x < n) → l.length ≤ n
  | 0, l, _, h => by
    cases l with
    | nil => simp
    | cons x l => exact absurd (h x (by simp)) (by omega)
  | n + 1, l, hd, h => by
    have := nodupI_le n (l.erase (n : Int)) (hd.erase _) (fun x hx => by
      have hx2 := (hd.mem_erase_iff).1 hx
      have := h x hx2.2
      have := hx2.1
      omega)
    rw [List.length_erase] at this
    split at this <;> omega
theorem idxI_at {S : List Int} (hd : S.Nodup) {j : Int} (j0 : 0 ≤ j) (j1 : j < S.length) : rd S j ∈ S ∧ ((S.idxOf (rd S j) : Nat) : Int) = j := by
  have hm := rd_mem j0 j1
  refine ⟨hm, ?_⟩
  have hi := List.idxOf_lt_length_iff.2 hm
  have e : S[S.idxOf (rd S j)]'hi = S[j.toNat]'(by omega) := by rw [List.getElem_idxOf hi, rd_getElem (by omega)]
  have p := List.pairwise_iff_getElem.1 hd
  by_cases c : S.idxOf (rd S j) < j.toNat
  · exact absurd e (p _ _ hi (by omega) c)
  · by_cases c2 : j.toNat < S.idxOf (rd S j)
    · exact absurd e.symm (p _ _ (by omega) hi c2)
    · omega
theorem idxI_mem {S : List Int} {t : Int} (h : t ∈ S) : S.idxOf t < S.length ∧ rd S ((S.idxOf t : Nat) : Int) = t := by
  have hi := List.idxOf_lt_length_iff.2 h
  refine ⟨hi, ?_⟩
  rw [rd_getElem (by simpa using hi)]
  simp only [Int.toNat_natCast]
  exact List.getElem_idxOf hi
theorem indexI_ev (S : List Int) (t : Int) (hd : S.Nodup) (hS : S.length ≤ 1000) : Ev (fun k => Zj1.f k S t) (if t ∈ S then ((S.idxOf t : Nat) : Int) else -1) := by
  unfold Zj1.f
  refine Ev.loopc (σ := Unit) (L := fun k i _ => Zj1.l0 k S t (S.length : Int) i) (n := (S.length : Int))
    (fun i _ => ∀ j : Int, 0 ≤ j → j < i → rd S j ≠ t) ?_ ?_ 0 () (Int.le_refl _) (by omega) (fun j a b => by omega)
  · intro _ h
    refine Ev.step (fun k => Zj1.l0.eq_2 _ _ _ _ k) ?_
    refine Ev.neg (by omega) (Ev.val ?_)
    rw [if_neg]
    intro hm
    have := idxI_mem hm
    exact h _ (by omega) (by omega) this.2
  · intro i _ i0 i1 h hn
    refine Ev.step (fun k => Zj1.l0.eq_2 _ _ _ _ k) ?_
    rw [w64 (x := i + 1) (by omega) (by omega)]
    refine Ev.pos i1 (Ev.pos i0 (Ev.pos i1 ?_))
    by_cases c : t = rd S i
    · have := idxI_at hd i0 i1
      refine Ev.pos c (Ev.val ?_)
      rw [c, if_pos this.1, this.2]
    · refine Ev.neg c (hn () ?_)
      intro j hj hj2
      by_cases e : j = i
      · rw [e]; exact fun q => c q.symm
      · exact h j hj (by omega)
section
variable (K : Int) (next : List (List Int)) (F : List Int)
def tgM (s c : Int) : Int := rd F (mto next s c)
def addM (i : Int) (p : List Int × List Int) (c : Int) : List Int × List Int :=
  (if tgM next F (rd p.1 i) c ∈ p.1 then p.1 else p.1 ++ [tgM next F (rd p.1 i) c], p.2 ++ [((p.1.idxOf (tgM next F (rd p.1 i) c) : Nat) : Int)])
def rowM (i : Int) (S : List Int) : Nat → List Int × List Int
  | 0 => (S, [])
  | c + 1 => addM next F i (rowM i S c) c
inductive BfsM : Nat → List Int → List (List Int) → List Int → List (List Int) → Prop
  | done (i : Nat) (S : List Int) (nx : List (List Int)) : S.length ≤ i → BfsM i S nx S nx
  | step (i : Nat) (S : List Int) (nx : List (List Int)) (Sf : List Int) (nf : List (List Int)) : i < S.length → BfsM (i + 1) (rowM next F i S K.toNat).1 (nx ++ [(rowM next F i S K.toNat).2]) Sf nf → BfsM i S nx Sf nf
theorem addM_pre (i : Int) (p : List Int × List Int) (c : Int) : p.1 <+: (addM next F i p c).1 := by
  unfold addM
  by_cases h : tgM next F (rd p.1 i) c ∈ p.1
  · simp only [if_pos h]; exact List.prefix_refl _
  · simp only [if_neg h]; exact List.prefix_append _ _
theorem rowM_pre (i : Int) (S : List Int) : ∀ c, S <+: (rowM next F i S c).1
  | 0 => List.prefix_refl _
  | c + 1 => (rowM_pre i S c).trans (addM_pre next F i _ _)
theorem rowM_len (i : Int) (S : List Int) : ∀ c, (rowM next F i S c).2.length = c
  | 0 => rfl
  | c + 1 => by
    show ((rowM next F i S c).2 ++ [_]).length = c + 1
    rw [List.length_append, rowM_len i S c]; rfl
theorem bfsM_pre {i : Nat} {S Sf : List Int} {nx nf : List (List Int)} (h : BfsM K next F i S nx Sf nf) : S <+: Sf := by
  induction h with
  | done => exact List.prefix_refl _
  | step i S nx Sf nf _ _ ih => exact (rowM_pre next F i S _).trans ih
theorem bfsM_row {i : Nat} {S Sf : List Int} {nx nf : List (List Int)} (h : BfsM K next F i S nx Sf nf) (hl : nx.length = i) (hi : i ≤ S.length) : nf.length = Sf.length ∧ ((∀ x ∈ nx, x.length = K.toNat) → ∀ x ∈ nf, x.length = K.toNat) := by
  induction h with
  | done i S nx h => exact ⟨by omega, fun h => h⟩
  | step i S nx Sf nf h0 _ ih =>
    have := (rowM_pre next F i S K.toNat).length_le
    obtain ⟨a, b⟩ := ih (by simp [hl]) (by omega)
    refine ⟨a, fun q => b (fun x hx => ?_)⟩
    rcases List.mem_append.1 hx with hx | hx
    · exact q x hx
    · rw [List.mem_singleton] at hx; subst hx; exact rowM_len next F i S _
end
def finM (f : Nat) (S : List Int) : Nat → Nat
  | 0 => 0
  | i + 1 => if f.testBit (rd S i).toNat = true then 2 ^ i + finM f S i else finM f S i
theorem finM_lt (f : Nat) (S : List Int) : ∀ i, finM f S i < 2 ^ i
  | 0 => by unfold finM; omega
  | i + 1 => by
    have := finM_lt f S i
    unfold finM
    rw [Nat.pow_succ]
    split <;> omega
theorem rd_pre {S T : List Int} (h : S <+: T) {i : Int} (h1 : i.toNat < S.length) : rd T i = rd S i := by
  obtain ⟨r, rfl⟩ := h
  simp only [rd, List.getD_eq_getElem?_getD]
  rw [List.getElem?_append_left h1]
section
variable {N K : Int} {next : List (List Int)} {st : Int} {f : Nat} {F : List Int} (hN0 : 1 ≤ N) (hN1 : N ≤ 7) (hK : 0 ≤ K ∧ K ≤ 3) (hm : okMach N K next) (hf : f < 2 ^ 32) (hF : Rep K next f N (N - 1).toNat F)
include hN0 hN1 hK hm hf hF
def OkM (N : Int) (F : List Int) (S : List Int) : Prop := S.Nodup ∧ ∀ x ∈ S, 0 ≤ x ∧ x < N ∧ rd F x = x
theorem OkM.len {S : List Int} (h : OkM N F S) : S.length ≤ 7 := by
  have := nodupI_le N.toNat S h.1 (fun x hx => by have := h.2 x hx; omega)
  omega
theorem rep_rep {x : Int} (h0 : 0 ≤ x) (h1 : x < N) : 0 ≤ rd F x ∧ rd F x < N ∧ rd F (rd F x) = rd F x := by
  have l := hF.lo x h0 h1
  exact ⟨l.1, by omega, (hF.iff l.1 (by omega) h0 h1).2 (hF.al x h0 h1)⟩
theorem OkM.to {S : List Int} (h : OkM N F S) {i c : Int} (i0 : 0 ≤ i) (i1 : i < S.length) (c0 : 0 ≤ c) (c1 : c < K) : 0 ≤ mto next (rd S i) c ∧ mto next (rd S i) c < N := by
  have q := h.2 _ (rd_mem i0 i1)
  exact hm.to q.1 q.2.1 c0 c1
theorem addM_ok {i : Int} {p : List Int × List Int} {c : Int} (h : OkM N F p.1) (i0 : 0 ≤ i) (i1 : i < p.1.length) (c0 : 0 ≤ c) (c1 : c < K) : OkM N F (addM next F i p c).1 := by
  unfold addM
  by_cases e : tgM next F (rd p.1 i) c ∈ p.1
  · simp only [if_pos e]; exact h
  · simp only [if_neg e]
    have t := h.to hN0 hN1 hK hm hf hF i0 i1 c0 c1
    refine ⟨?_, ?_⟩
    · rw [List.nodup_append]
      refine ⟨h.1, by simp, ?_⟩
      intro a ha b hb
      rw [List.mem_singleton] at hb; subst hb
      intro q; subst q; exact e ha
    · intro x hx
      rcases List.mem_append.1 hx with hx | hx
      · exact h.2 x hx
      · rw [List.mem_singleton] at hx; subst hx; exact rep_rep hN0 hN1 hK hm hf hF t.1 t.2
theorem rowM_ok {i : Int} {S : List Int} (h : OkM N F S) (i0 : 0 ≤ i) (i1 : i < S.length) : ∀ c : Nat, (c : Int) ≤ K → OkM N F (rowM next F i S c).1
  | 0, _ => h
  | c + 1, hc => addM_ok hN0 hN1 hK hm hf hF (rowM_ok h i0 i1 c (by omega)) i0 (by have := (rowM_pre next F i S c).length_le; omega) (by omega) (by omega)
theorem start_ok (h0 : 0 ≤ st) (h1 : st < N) : OkM N F [rd F st] := ⟨by simp, by intro x hx; rw [List.mem_singleton] at hx; subst hx; exact rep_rep hN0 hN1 hK hm hf hF h0 h1⟩
theorem small_ev (g : Int) : ∀ (d i : Nat) (S : List Int) (nx : List (List Int)), OkM N F S → nx.length = i → 7 ≤ i + d → i ≤ S.length →
    EvP (fun k => Zd1.l0 k F S (i : Int) N K next st g 0 K nx 0 0) (fun r => ∃ Sf nf, BfsM K next F i S nx Sf nf ∧ OkM N F Sf ∧ r = ((Sf.length : Int), K, nf, 0, 0, Sf)) := by
  intro d
  induction d with
  | zero =>
    intro i S nx h hn hd hi
    have hlen := h.len hN0 hN1 hK hm hf hF
    refine EvP.step (fun k => Zd1.l0.eq_2 _ _ _ _ _ _ _ _ _ _ _ _ _ k) ?_
    exact EvP.neg (by omega) (EvP.now ⟨S, nx, BfsM.done _ _ _ (by omega), h, rfl⟩)
  | succ d ih =>
    intro i S nx h hn hd hi
    have hlen := h.len hN0 hN1 hK hm hf hF
    have hFl := hF.len
    refine EvP.step (fun k => Zd1.l0.eq_2 _ _ _ _ _ _ _ _ _ _ _ _ _ k) ?_
    by_cases c : i < S.length
    · refine EvP.pos (by omega) ?_
      refine EvP.loop (σ := List Int × List Int) (L := fun k c p => Zd1.l1 k F p.1 (i : Int) p.2 K c N K next st g 0 K nx 0 0) (n := K)
        (fun c p => p = rowM next F i S c.toNat) ?_ ?_ 0 (S, []) (Int.le_refl _) hK.1 rfl
      · rintro p rfl
        have hp := rowM_pre next F i S K.toNat
        have hk := rowM_ok hN0 hN1 hK hm hf hF (i := (i : Int)) h (by omega) (by omega) K.toNat (by omega)
        refine EvP.step (fun k => Zd1.l1.eq_2 _ _ _ _ _ _ _ _ _ _ _ _ _ _ _ _ k) ?_
        rw [w64 (x := (i : Int) + 1) (by omega) (by omega)]
        refine EvP.neg (by omega) (EvP.pos (by omega) ?_)
        refine (ih (i + 1) _ _ hk (by simp [hn]) (by omega) (by have := hp.length_le; omega)).mono ?_
        rintro r ⟨Sf, nf, b, o, e⟩
        exact ⟨Sf, nf, BfsM.step _ _ _ _ _ c b, o, e⟩
      · rintro c' p c0 c1 rfl hn2
        have hp := rowM_pre next F i S c'.toNat
        have hk := rowM_ok hN0 hN1 hK hm hf hF (i := (i : Int)) h (by omega) (by omega) c'.toNat (by omega)
        have hpl := hp.length_le
        have hkl := hk.len hN0 hN1 hK hm hf hF
        have hrl := rowM_len next F i S c'.toNat
        have ec : ((c'.toNat : Nat) : Int) = c' := by omega
        have er : rowM next F i S (c' + 1).toNat = addM next F i (rowM next F i S c'.toNat) c' := by
          rw [show (c' + 1).toNat = c'.toNat + 1 by omega]
          show addM next F i (rowM next F i S c'.toNat) ((c'.toNat : Nat) : Int) = _
          rw [ec]
        obtain ⟨P, hP⟩ : ∃ P, P = rowM next F i S c'.toNat := ⟨_, rfl⟩
        rw [← hP] at hp hk hpl hkl hrl er ⊢
        have hx := hk.2 _ (rd_mem (i := (i : Int)) (by omega) (by omega))
        have ht := hm.to hx.1 hx.2.1 c0 c1
        have hr := hm.row hx.1 hx.2.1
        refine EvP.step (fun k => Zd1.l1.eq_2 _ _ _ _ _ _ _ _ _ _ _ _ _ _ _ _ k) ?_
        rw [w64 (x := c' + 1) (by omega) (by omega)]
        refine EvP.pos c1 (EvP.pos (by omega) (EvP.pos (by omega) (EvP.pos hx.1 (EvP.pos hr.2 (EvP.pos c0 (EvP.pos (by omega) (EvP.pos ht.1 ?_)))))))
        refine EvP.pos (show mto next (rd P.1 i) c' < (F.length : Int) by omega) ?_
        refine EvP.bind (indexI_ev P.1 (tgM next F (rd P.1 i) c') hk.1 (by omega)) ?_
        by_cases m : tgM next F (rd P.1 i) c' ∈ P.1
        · rw [if_pos m]
          refine EvP.neg (by omega) (EvP.pos (by omega) (hn2 (P.1, P.2 ++ [((P.1.idxOf (tgM next F (rd P.1 i) c') : Nat) : Int)]) ?_))
          rw [er]; unfold addM; rw [if_pos m]
        · rw [if_neg m]
          refine EvP.pos (by omega) (EvP.pos (by omega) (EvP.pos (by omega) (hn2 (P.1 ++ [tgM next F (rd P.1 i) c'], P.2 ++ [(P.1.length : Int)]) ?_)))
          rw [er]; unfold addM; rw [if_neg m, List.idxOf_eq_length m]
    · exact EvP.neg (by omega) (EvP.now ⟨S, nx, BfsM.done _ _ _ (by omega), h, rfl⟩)
theorem Small_ev (s0 : 0 ≤ st) (s1 : st < N) : EvP (fun k => (Zd1.f k N K next st (f : Int) F).bind fun bt185 => (Zz.l0 k bt185.2.2.2.2.2 (bt185.2.2.2.2.2.length : Int) 0 N K next st (f : Int) bt185.1 bt185.2.1 bt185.2.2.1 bt185.2.2.2.1 bt185.2.2.2.2.1))
    (fun r => ∃ Sf nf, BfsM K next F 0 [rd F st] [] Sf nf ∧ OkM N F Sf ∧ r = ((Sf.length : Int), K, nf, 0, ((finM f Sf Sf.length : Nat) : Int))) := by
  have hFl := hF.len
  have ok := start_ok hN0 hN1 hK hm hf hF s0 s1
  refine EvP.bindP (I := fun r => ∃ Sf nf, BfsM K next F 0 [rd F st] [] Sf nf ∧ OkM N F Sf ∧ r = ((Sf.length : Int), K, nf, 0, 0, Sf)) ?_ ?_
  · unfold Zd1.f
    exact EvP.pos s0 (EvP.pos (by omega) (small_ev hN0 hN1 hK hm hf hF (f : Int) 7 0 [rd F st] [] ok rfl (by omega) (by simp)))
  · rintro _ ⟨S, nx, b, o, rfl⟩
    have hlen := o.len hN0 hN1 hK hm hf hF
    refine EvP.of ⟨S, nx, b, o, rfl⟩ ?_
    refine Ev.loopc (σ := Int) (L := fun k i m => Zz.l0 k S (S.length : Int) i N K next st (f : Int) (S.length : Int) K nx 0 m) (n := (S.length : Int))
      (fun i m => m = ((finM f S i.toNat : Nat) : Int)) ?_ ?_ 0 0 (Int.le_refl _) (by omega) rfl
    · rintro m rfl
      refine Ev.step (fun k => Zz.l0.eq_2 _ _ _ _ _ _ _ _ _ _ _ _ _ k) ?_
      exact Ev.neg (by omega) (Ev.val (by rw [Int.toNat_natCast]))
    · rintro i m i0 i1 rfl hn
      have hlt := finM_lt f S i.toNat
      have h2 : 2 ^ i.toNat ≤ 2 ^ 6 := Nat.pow_le_pow_right (by omega) (by omega)
      have hx := o.2 _ (rd_mem i0 i1)
      refine Ev.step (fun k => Zz.l0.eq_2 _ _ _ _ _ _ _ _ _ _ _ _ _ k) ?_
      rw [w64 (x := i + 1) (by omega) (by omega)]
      refine Ev.pos i1 (Ev.pos i0 (Ev.pos i1 (Ev.pos hx.1 (hn _ ?_))))
      have t := bit_shr f (rd S i).toNat hf (by omega)
      rw [Int.toNat_of_nonneg hx.1] at t
      have e1 : (i + 1).toNat = i.toNat + 1 := by omega
      have ei : ((i.toNat : Nat) : Int) = i := by omega
      have eb : Go.bits .and .u32 (shr .u32 (f : Int) (rd S i)) 1 = if f.testBit (rd S i).toNat = true then 1 else 0 := by
        by_cases c : f.testBit (rd S i).toNat = true
        · rw [if_pos c]; exact t.2 c
        · rw [if_neg c]
          have h1 := shrn f (rd S i).toNat (by omega)
          rw [Int.toNat_of_nonneg hx.1] at h1
          have h3 : f / 2 ^ (rd S i).toNat < 2 ^ 32 := Nat.lt_of_le_of_lt (Nat.div_le_self _ _) hf
          have h4 := u32_and (f / 2 ^ (rd S i).toNat) 1 h3 (by decide)
          rw [Nat.and_one_is_mod] at h4
          have h5 : ¬ Go.bits .and .u32 (shr .u32 (f : Int) (rd S i)) 1 = 1 := fun q => c (t.1 q)
          rw [h1, show (1 : Int) = ((1 : Nat) : Int) from rfl, h4] at h5 ⊢
          omega
      rw [eb, e1]
      show _ = ((if f.testBit (rd S ((i.toNat : Nat) : Int)).toNat = true then 2 ^ i.toNat + finM f S i.toNat else finM f S i.toNat : Nat) : Int)
      rw [ei]
      by_cases c : f.testBit (rd S i).toNat = true
      · rw [if_pos c, if_pos c]
        have := bit_or (finM f S i.toNat) i.toNat (by omega) (by omega)
        rw [ei] at this
        rw [this]
        have q := Nat.two_pow_add_eq_or_of_lt hlt 1
        rw [Nat.mul_one] at q
        rw [q, Nat.or_comm]
      · rw [if_neg c, if_neg c]
        have e0 : shl .u32 0 i = 0 := by unfold shl; simp [IntKind.wrap_u32]
        rw [e0]
        have := u32_or (finM f S i.toNat) 0 (by omega) (by decide)
        rw [Nat.or_zero] at this
        exact this
end
theorem least_ex (P : Int → Prop) : ∀ (n : Nat), P n → ∃ v : Int, 0 ≤ v ∧ v ≤ n ∧ P v ∧ ∀ j : Int, 0 ≤ j → j < v → ¬ P j := by
  intro n
  induction n using Nat.strongRecOn with
  | _ n ih =>
    intro h
    by_cases c : ∃ j : Nat, j < n ∧ P j
    · obtain ⟨j, hj, q⟩ := c
      obtain ⟨v, a, b, d, e⟩ := ih j hj q
      exact ⟨v, a, by omega, d, e⟩
    · refine ⟨n, by omega, by omega, h, fun j a b q => c ⟨j.toNat, by omega, ?_⟩⟩
      rw [Int.toNat_of_nonneg a]; exact q
theorem rep_ex (K : Int) (next : List (List Int)) (f : Nat) (N : Int) (hN : 0 ≤ N) (r : Nat) : ∃ F, Rep K next f N r F := by
  have key : ∀ n : Nat, (n : Int) ≤ N → ∃ F, RepTo K next f N r F n := by
    intro n
    induction n with
    | zero => intro _; exact ⟨_, RepTo.start hN⟩
    | succ n ih =>
      intro h
      obtain ⟨F, hF⟩ := ih (by omega)
      obtain ⟨v, a, b, d, e⟩ := least_ex (fun j => Al K next f r j n) n (Al.refl K next f r n)
      exact ⟨_, hF.put (by omega) (by omega) a b d e⟩
  obtain ⟨F, hF⟩ := key N.toNat (by omega)
  rw [Int.toNat_of_nonneg hN] at hF
  exact ⟨F, hF.done⟩
theorem rep_stop {K : Int} {next : List (List Int)} {f : Nat} {N : Int} (hN : 1 ≤ N) : ∀ (d r : Nat) (F : List Int), Rep K next f N r F → r + 1 ≤ nfix F N.toNat → nfix F N.toNat + d = N.toNat → ∃ r' F', r' ≤ (N - 1).toNat ∧ Rep K next f N r' F' ∧ Rep K next f N (r' + 1) F' := by
  intro d
  induction d using Nat.strongRecOn with
  | _ d ih =>
    intro r F hF hr hd
    obtain ⟨G, hG⟩ := rep_ex K next f N (by omega) (r + 1)
    by_cases c : G = F
    · rw [c] at hG; exact ⟨r, F, by omega, hF, hG⟩
    · have lt := hF.more (by omega) hG c
      have le := nfix_le G N.toNat
      exact ih (N.toNat - nfix G N.toNat) (by omega) (r + 1) G hG (by omega) (by omega)
theorem rep_all {K : Int} {next : List (List Int)} {f : Nat} {N : Int} {F : List Int} (hN : 1 ≤ N) (hm : okMach N K next) (hF : Rep K next f N (N - 1).toNat F) {i j : Int} (i0 : 0 ≤ i) (i1 : i < N) (j0 : 0 ≤ j) (j1 : j < N) : rd F i = rd F j ↔ ∀ n, ¬ Td K next f n i j := by
  obtain ⟨F0, h0⟩ := rep_ex K next f N (by omega) 0
  have l0 := h0.lo 0 (by omega) (by omega)
  have hp := nfix_pos F0 (by omega) N.toNat (by omega)
  have le := nfix_le F0 N.toNat
  obtain ⟨r, G, hr, hG, hG2⟩ := rep_stop hN (N.toNat - nfix F0 N.toNat) 0 F0 h0 (by omega) (by omega)
  have st := hG.stays hm hG2
  have e : F = G := by
    have := st ((N - 1).toNat - r)
    rw [show r + ((N - 1).toNat - r) = (N - 1).toNat by omega] at this
    exact hF.uniq this
  subst e
  constructor
  · intro q n
    exact ((st n).iff i0 i1 j0 j1).1 q n (by omega)
  · intro q
    exact (hF.iff i0 i1 j0 j1).2 (fun n _ => q n)
theorem al_all {K : Int} {next : List (List Int)} {f : Nat} {N : Int} (hN : 1 ≤ N) (hm : okMach N K next) {i j : Int} (i0 : 0 ≤ i) (i1 : i < N) (j0 : 0 ≤ j) (j1 : j < N) (h : Al K next f (N - 1).toNat i j) : ∀ n, ¬ Td K next f n i j := by
  obtain ⟨F, hF⟩ := rep_ex K next f N (by omega) (N - 1).toNat
  exact (rep_all hN hm hF i0 i1 j0 j1).1 ((hF.iff i0 i1 j0 j1).2 h)
def besM (NA : Int) (nA nB : List (List Int)) : List (List Int) := nA ++ nB.map (fun l => l.map (fun x => x + NA))
theorem rd_map_add (l : List Int) (a c : Int) (c0 : 0 ≤ c) (c1 : c < l.length) : rd (l.map (fun x => x + a)) c = rd l c + a := by
  have h : c.toNat < l.length := by omega
  simp [rd, List.getD_eq_getElem?_getD, List.getElem?_map, List.getElem?_eq_getElem h]
section
variable {NA NB K : Int} {nA nB : List (List Int)} {fA fB fM : Nat} (hA1 : 1 ≤ NA) (hB1 : 1 ≤ NB) (hA : okMach NA K nA) (hB : okMach NB K nB)
  (hl : ∀ i : Int, 0 ≤ i → i < NA → fM.testBit i.toNat = fA.testBit i.toNat) (hr : ∀ j : Int, 0 ≤ j → j < NB → fM.testBit (NA + j).toNat = fB.testBit j.toNat)
include hA1 hB1 hA hB hl hr
theorem mto_l {i c : Int} (i0 : 0 ≤ i) (i1 : i < NA) : mto (besM NA nA nB) i c = mto nA i c := by
  have := hA.1
  unfold mto besM
  simp only [Zd, List.getD_eq_getElem?_getD]
  rw [List.getElem?_append_left (by omega)]
theorem mto_r {j c : Int} (j0 : 0 ≤ j) (j1 : j < NB) (c0 : 0 ≤ c) (c1 : c < K) : mto (besM NA nA nB) (NA + j) c = NA + mto nB j c := by
  have lA := hA.1
  have lB := hB.1
  have hrow := hB.row j0 j1
  unfold mto besM
  have e : Zd (nA ++ nB.map (fun l => l.map (fun x => x + NA))) (NA + j) = (Zd nB j).map (fun x => x + NA) := by
    simp only [Zd, List.getD_eq_getElem?_getD]
    rw [List.getElem?_append_right (by omega), show (NA + j).toNat - nA.length = j.toNat by omega, List.getElem?_map, List.getElem?_eq_getElem (show j.toNat < nB.length by omega)]
    rfl
  rw [e, rd_map_add _ _ _ c0 (by omega)]; omega
theorem bes_ok : okMach (NA + NB) K (besM NA nA nB) := by
  have lA := hA.1
  have lB := hB.1
  refine ⟨by unfold besM; rw [List.length_append, List.length_map]; omega, fun row h => ?_⟩
  unfold besM at h
  rcases List.mem_append.1 h with h | h
  · have := hA.2 row h
    exact ⟨this.1, fun x hx => by have := this.2 x hx; omega⟩
  · obtain ⟨l, h1, rfl⟩ := List.mem_map.1 h
    have := hB.2 l h1
    refine ⟨by rw [List.length_map]; exact this.1, fun x hx => ?_⟩
    obtain ⟨y, h2, rfl⟩ := List.mem_map.1 hx
    have := this.2 y h2; omega
theorem td_l : ∀ (n : Nat) (i j : Int), 0 ≤ i → i < NA → 0 ≤ j → j < NA → (Td K (besM NA nA nB) fM n i j ↔ Td K nA fA n i j)
  | 0, i, j, i0, i1, j0, j1 => by
    show fM.testBit i.toNat ≠ fM.testBit j.toNat ↔ fA.testBit i.toNat ≠ fA.testBit j.toNat
    rw [hl i i0 i1, hl j j0 j1]
  | n + 1, i, j, i0, i1, j0, j1 => by
    have key : ∀ c, 0 ≤ c → c < K → (Td K (besM NA nA nB) fM n (mto (besM NA nA nB) i c) (mto (besM NA nA nB) j c) ↔ Td K nA fA n (mto nA i c) (mto nA j c)) := by
      intro c c0 c1
      rw [mto_l hA1 hB1 hA hB hl hr i0 i1, mto_l hA1 hB1 hA hB hl hr j0 j1]
      have a := hA.to i0 i1 c0 c1
      have b := hA.to j0 j1 c0 c1
      exact td_l n _ _ a.1 a.2 b.1 b.2
    exact ⟨fun ⟨c, c0, c1, h⟩ => ⟨c, c0, c1, (key c c0 c1).1 h⟩, fun ⟨c, c0, c1, h⟩ => ⟨c, c0, c1, (key c c0 c1).2 h⟩⟩
theorem td_r : ∀ (n : Nat) (i j : Int), 0 ≤ i → i < NB → 0 ≤ j → j < NB → (Td K (besM NA nA nB) fM n (NA + i) (NA + j) ↔ Td K nB fB n i j)
  | 0, i, j, i0, i1, j0, j1 => by
    show fM.testBit (NA + i).toNat ≠ fM.testBit (NA + j).toNat ↔ fB.testBit i.toNat ≠ fB.testBit j.toNat
    rw [hr i i0 i1, hr j j0 j1]
  | n + 1, i, j, i0, i1, j0, j1 => by
    have key : ∀ c, 0 ≤ c → c < K → (Td K (besM NA nA nB) fM n (mto (besM NA nA nB) (NA + i) c) (mto (besM NA nA nB) (NA + j) c) ↔ Td K nB fB n (mto nB i c) (mto nB j c)) := by
      intro c c0 c1
      rw [mto_r hA1 hB1 hA hB hl hr i0 i1 c0 c1, mto_r hA1 hB1 hA hB hl hr j0 j1 c0 c1]
      have a := hB.to i0 i1 c0 c1
      have b := hB.to j0 j1 c0 c1
      exact td_r n _ _ a.1 a.2 b.1 b.2
    exact ⟨fun ⟨c, c0, c1, h⟩ => ⟨c, c0, c1, (key c c0 c1).1 h⟩, fun ⟨c, c0, c1, h⟩ => ⟨c, c0, c1, (key c c0 c1).2 h⟩⟩
def EqM (K NA : Int) (nA nB : List (List Int)) (fM : Nat) (i j : Int) : Prop := ∀ n, ¬ Td K (besM NA nA nB) fM n i j
omit hA1 hB1 hA hB hl hr in
theorem EqM.symm {i j : Int} (h : EqM K NA nA nB fM i j) : EqM K NA nA nB fM j i := fun n q => h n (Td.symm _ _ _ n _ _ q)
omit hA1 hB1 hA hB hl hr in
theorem EqM.trans {i j k : Int} (h : EqM K NA nA nB fM i j) (h2 : EqM K NA nA nB fM j k) : EqM K NA nA nB fM i k := fun n q => by
  rcases Td.mid _ _ _ n i j k q with q | q
  · exact h n q
  · exact h2 n q
omit hA1 hB1 hA hB hl hr in
theorem EqM.step {i j c : Int} (h : EqM K NA nA nB fM i j) (c0 : 0 ≤ c) (c1 : c < K) : EqM K NA nA nB fM (mto (besM NA nA nB) i c) (mto (besM NA nA nB) j c) := fun n q => h (n + 1) ⟨c, c0, c1, q⟩
theorem eq_l {FA : List Int} (hF : Rep K nA fA NA (NA - 1).toNat FA) {i j : Int} (i0 : 0 ≤ i) (i1 : i < NA) (j0 : 0 ≤ j) (j1 : j < NA) : rd FA i = rd FA j ↔ EqM K NA nA nB fM i j := by
  rw [rep_all hA1 hA hF i0 i1 j0 j1]
  exact ⟨fun h n q => h n ((td_l hA1 hB1 hA hB hl hr n i j i0 i1 j0 j1).1 q), fun h n q => h n ((td_l hA1 hB1 hA hB hl hr n i j i0 i1 j0 j1).2 q)⟩
theorem eq_r {FB : List Int} (hF : Rep K nB fB NB (NB - 1).toNat FB) {i j : Int} (i0 : 0 ≤ i) (i1 : i < NB) (j0 : 0 ≤ j) (j1 : j < NB) : rd FB i = rd FB j ↔ EqM K NA nA nB fM (NA + i) (NA + j) := by
  rw [rep_all hB1 hB hF i0 i1 j0 j1]
  exact ⟨fun h n q => h n ((td_r hA1 hB1 hA hB hl hr n i j i0 i1 j0 j1).1 q), fun h n q => h n ((td_r hA1 hB1 hA hB hl hr n i j i0 i1 j0 j1).2 q)⟩
end
theorem same_at {SA SB : List Int} {a b : Int} (dA : SA.Nodup) (dB : SB.Nodup) (hl : SA.length = SB.length) (h : ∀ x : Int, 0 ≤ x → x < SA.length → (rd SA x = a ↔ rd SB x = b)) : (a ∈ SA ↔ b ∈ SB) ∧ SA.idxOf a = SB.idxOf b := by
  have one : a ∈ SA → b ∈ SB ∧ SA.idxOf a = SB.idxOf b := by
    intro m
    have i := idxI_mem m
    have q := (h _ (by omega) (by omega)).1 i.2
    have r := idxI_at dB (j := ((SA.idxOf a : Nat) : Int)) (by omega) (by omega)
    rw [q] at r
    exact ⟨r.1, by omega⟩
  have two : b ∈ SB → a ∈ SA := by
    intro m
    have i := idxI_mem m
    have q := (h _ (by omega) (by omega)).2 i.2
    rw [← q]; exact rd_mem (by omega) (by omega)
  refine ⟨⟨fun m => (one m).1, two⟩, ?_⟩
  by_cases m : a ∈ SA
  · exact (one m).2
  · rw [List.idxOf_eq_length m, List.idxOf_eq_length (fun q => m (two q))]; exact hl
section
variable (K : Int) (next : List (List Int)) (F : List Int)
theorem rowM_tab (i : Int) (S : List Int) (i0 : 0 ≤ i) (i1 : i < S.length) : ∀ c : Nat, ∀ x : Int, 0 ≤ x → x < c → 0 ≤ rd (rowM next F i S c).2 x ∧ rd (rowM next F i S c).2 x < (rowM next F i S c).1.length ∧ rd (rowM next F i S c).1 (rd (rowM next F i S c).2 x) = tgM next F (rd S i) x
  | 0, x, x0, x1 => by omega
  | c + 1, x, x0, x1 => by
    have hp := rowM_pre next F i S c
    have hlen := rowM_len next F i S c
    have ih := rowM_tab i S i0 i1 c
    have hpl := hp.length_le
    have eS : rd (rowM next F i S c).1 i = rd S i := rd_pre hp (by omega)
    have hq := addM_pre next F i (rowM next F i S c) c
    have hql := hq.length_le
    show 0 ≤ rd (addM next F i (rowM next F i S c) c).2 x ∧ rd (addM next F i (rowM next F i S c) c).2 x < (addM next F i (rowM next F i S c) c).1.length ∧ rd (addM next F i (rowM next F i S c) c).1 (rd (addM next F i (rowM next F i S c) c).2 x) = tgM next F (rd S i) x
    by_cases e : x = c
    · have e2 : rd (addM next F i (rowM next F i S c) c).2 x = (((rowM next F i S c).1.idxOf (tgM next F (rd S i) c) : Nat) : Int) := by
        unfold addM; rw [eS]; exact rd_append_last _ _ _ (by omega)
      rw [e2, e]
      unfold addM; rw [eS]
      by_cases m : tgM next F (rd S i) c ∈ (rowM next F i S c).1
      · have := idxI_mem m
        simp only [if_pos m]
        exact ⟨by omega, by omega, this.2⟩
      · simp only [if_neg m]
        rw [List.idxOf_eq_length m, List.length_append]
        exact ⟨by omega, by simp; omega, rd_append_last _ _ _ rfl⟩
    · have := ih x x0 (by omega)
      have e2 : rd (addM next F i (rowM next F i S c) c).2 x = rd (rowM next F i S c).2 x := by
        unfold addM; exact rd_append_left _ _ _ x0 (by omega)
      rw [e2]
      exact ⟨this.1, by omega, by rw [rd_pre hq (by omega)]; exact this.2.2⟩
theorem rdLI_app (l : List (List Int)) (r : List Int) (x : Int) (x0 : 0 ≤ x) (x1 : x ≤ l.length) : Zd (l ++ [r]) x = if x = l.length then r else Zd l x := by
  simp only [Zd, List.getD_eq_getElem?_getD]
  by_cases c : x = l.length
  · subst c; simp
  · rw [if_neg c, List.getElem?_append_left (by omega)]
theorem bfsM_tab (hK : 0 ≤ K) {i : Nat} {S Sf : List Int} {nx nf : List (List Int)} (h : BfsM K next F i S nx Sf nf) (hl : nx.length = i) (hi : i ≤ S.length)
    (ht : ∀ x c : Int, 0 ≤ x → x < i → 0 ≤ c → c < K → 0 ≤ rd (Zd nx x) c ∧ rd (Zd nx x) c < S.length ∧ rd S (rd (Zd nx x) c) = tgM next F (rd S x) c) :
    ∀ x c : Int, 0 ≤ x → x < Sf.length → 0 ≤ c → c < K → 0 ≤ rd (Zd nf x) c ∧ rd (Zd nf x) c < Sf.length ∧ rd Sf (rd (Zd nf x) c) = tgM next F (rd Sf x) c := by
  induction h with
  | done i S nx h => intro x c x0 x1 c0 c1; exact ht x c x0 (by omega) c0 c1
  | step i S nx Sf nf h0 _ ih =>
    have hp := rowM_pre next F i S K.toNat
    have hpl := hp.length_le
    refine ih (by simp [hl]) (by omega) (fun x c x0 x1 c0 c1 => ?_)
    rw [rdLI_app _ _ _ x0 (by omega)]
    by_cases e : x = nx.length
    · rw [if_pos e]
      have := rowM_tab next F i S (by omega) (by omega) K.toNat c c0 (by omega)
      rw [e, hl, rd_pre hp (i := (i : Int)) (by omega)]; exact this
    · rw [if_neg e]
      have := ht x c x0 (by omega) c0 c1
      refine ⟨this.1, by omega, ?_⟩
      rw [rd_pre hp (by omega), rd_pre hp (i := x) (by omega)]; exact this.2.2
end
theorem finM_inj {f g : Nat} {S T : List Int} : ∀ n : Nat, finM f S n = finM g T n → ∀ x : Nat, x < n → f.testBit (rd S x).toNat = g.testBit (rd T x).toNat
  | 0, _, x, h => by omega
  | n + 1, e, x, h => by
    have a := finM_lt f S n
    have b := finM_lt g T n
    have ih := finM_inj (f := f) (g := g) (S := S) (T := T) n
    unfold finM at e
    by_cases c : f.testBit (rd S (n : Int)).toNat = true
    · by_cases d : g.testBit (rd T (n : Int)).toNat = true
      · rw [if_pos c, if_pos d] at e
        by_cases q : x = n
        · subst q; rw [c, d]
        · exact ih (by omega) x (by omega)
      · rw [if_pos c, if_neg d] at e; omega
    · by_cases d : g.testBit (rd T (n : Int)).toNat = true
      · rw [if_neg c, if_pos d] at e; omega
      · rw [if_neg c, if_neg d] at e
        by_cases q : x = n
        · subst q; rw [Bool.eq_false_iff.2 c, Bool.eq_false_iff.2 d]
        · exact ih e x (by omega)
theorem finM_eq {f g : Nat} {S T : List Int} : ∀ n : Nat, (∀ x : Nat, x < n → f.testBit (rd S x).toNat = g.testBit (rd T x).toNat) → finM f S n = finM g T n
  | 0, _ => rfl
  | n + 1, h => by
    have ih := finM_eq (f := f) (g := g) (S := S) (T := T) n (fun x hx => h x (by omega))
    unfold finM
    rw [h n (by omega), ih]
section
variable {NA NB K : Int} {nA nB : List (List Int)} {fA fB fM : Nat} {FA FB : List Int} (hA1 : 1 ≤ NA) (hB1 : 1 ≤ NB) (hA7 : NA ≤ 7) (hB7 : NB ≤ 7) (hK : 0 ≤ K ∧ K ≤ 3) (hfA : fA < 2 ^ 32) (hfB : fB < 2 ^ 32) (hA : okMach NA K nA) (hB : okMach NB K nB)
  (hl : ∀ i : Int, 0 ≤ i → i < NA → fM.testBit i.toNat = fA.testBit i.toNat) (hr : ∀ j : Int, 0 ≤ j → j < NB → fM.testBit (NA + j).toNat = fB.testBit j.toNat)
  (hFA : Rep K nA fA NA (NA - 1).toNat FA) (hFB : Rep K nB fB NB (NB - 1).toNat FB)
include hA1 hB1 hA7 hB7 hK hfA hfB hA hB hl hr hFA hFB
structure Lk (NA NB K : Int) (nA nB : List (List Int)) (fM : Nat) (FA FB SA SB : List Int) : Prop where
  okA : OkM NA FA SA
  okB : OkM NB FB SB
  len : SA.length = SB.length
  eq : ∀ x : Int, 0 ≤ x → x < SA.length → EqM K NA nA nB fM (rd SA x) (NA + rd SB x)
theorem lk_tg {SA SB : List Int} (h : Lk NA NB K nA nB fM FA FB SA SB) {i c : Int} (i0 : 0 ≤ i) (i1 : i < SA.length) (c0 : 0 ≤ c) (c1 : c < K) :
    EqM K NA nA nB fM (tgM nA FA (rd SA i) c) (NA + tgM nB FB (rd SB i) c) ∧ (tgM nA FA (rd SA i) c ∈ SA ↔ tgM nB FB (rd SB i) c ∈ SB) ∧ SA.idxOf (tgM nA FA (rd SA i) c) = SB.idxOf (tgM nB FB (rd SB i) c) := by
  have hlen := h.len
  have a := h.okA.2 _ (rd_mem i0 i1)
  have b := h.okB.2 _ (rd_mem (i := i) i0 (by omega))
  have ta := hA.to a.1 a.2.1 c0 c1
  have tb := hB.to b.1 b.2.1 c0 c1
  have ra := rep_rep hA1 hA7 hK hA hfA hFA ta.1 ta.2
  have rb := rep_rep hB1 hB7 hK hB hfB hFB tb.1 tb.2
  have e1 : EqM K NA nA nB fM (mto nA (rd SA i) c) (NA + mto nB (rd SB i) c) := by
    have := (h.eq i i0 i1).step c0 c1
    rw [mto_l hA1 hB1 hA hB hl hr a.1 a.2.1, mto_r hA1 hB1 hA hB hl hr b.1 b.2.1 c0 c1] at this
    exact this
  have eA := (eq_l hA1 hB1 hA hB hl hr hFA ra.1 ra.2.1 ta.1 ta.2).1 ra.2.2
  have eB := (eq_r hA1 hB1 hA hB hl hr hFB rb.1 rb.2.1 tb.1 tb.2).1 rb.2.2
  have e2 : EqM K NA nA nB fM (tgM nA FA (rd SA i) c) (NA + tgM nB FB (rd SB i) c) := (eA.trans e1).trans eB.symm
  refine ⟨e2, same_at h.okA.1 h.okB.1 hlen (fun x x0 x1 => ?_)⟩
  have xa := h.okA.2 _ (rd_mem x0 x1)
  have xb := h.okB.2 _ (rd_mem (i := x) x0 (by omega))
  have ex := h.eq x x0 x1
  have pA : rd SA x = tgM nA FA (rd SA i) c ↔ EqM K NA nA nB fM (rd SA x) (tgM nA FA (rd SA i) c) := by
    have := eq_l hA1 hB1 hA hB hl hr hFA xa.1 xa.2.1 ra.1 ra.2.1
    rw [xa.2.2, ra.2.2] at this; exact this
  have pB : rd SB x = tgM nB FB (rd SB i) c ↔ EqM K NA nA nB fM (NA + rd SB x) (NA + tgM nB FB (rd SB i) c) := by
    have := eq_r hA1 hB1 hA hB hl hr hFB xb.1 xb.2.1 rb.1 rb.2.1
    rw [xb.2.2, rb.2.2] at this; exact this
  rw [pA, pB]
  exact ⟨fun q => (ex.symm.trans q).trans e2, fun q => (ex.trans q).trans e2.symm⟩
theorem lk_add {i c : Int} {pA pB : List Int × List Int} (h : Lk NA NB K nA nB fM FA FB pA.1 pB.1) (i0 : 0 ≤ i) (i1 : i < pA.1.length) (c0 : 0 ≤ c) (c1 : c < K) (e : pA.2 = pB.2) :
    Lk NA NB K nA nB fM FA FB (addM nA FA i pA c).1 (addM nB FB i pB c).1 ∧ (addM nA FA i pA c).2 = (addM nB FB i pB c).2 := by
  have hlen := h.len
  obtain ⟨t1, t2, t3⟩ := lk_tg hA1 hB1 hA7 hB7 hK hfA hfB hA hB hl hr hFA hFB h i0 i1 c0 c1
  have oA := addM_ok hA1 hA7 hK hA hfA hFA h.okA i0 i1 c0 c1
  have oB := addM_ok hB1 hB7 hK hB hfB hFB h.okB i0 (by omega) c0 c1
  refine ⟨⟨oA, oB, ?_, ?_⟩, ?_⟩
  · unfold addM
    by_cases m : tgM nA FA (rd pA.1 i) c ∈ pA.1
    · simp only [if_pos m, if_pos (t2.1 m)]; exact hlen
    · simp only [if_neg m, if_neg (fun q => m (t2.2 q)), List.length_append, List.length_singleton]; omega
  · intro x x0 x1
    unfold addM at x1 ⊢
    by_cases m : tgM nA FA (rd pA.1 i) c ∈ pA.1
    · simp only [if_pos m, if_pos (t2.1 m)] at x1 ⊢; exact h.eq x x0 x1
    · simp only [if_neg m, if_neg (fun q => m (t2.2 q)), List.length_append, List.length_singleton] at x1 ⊢
      by_cases q : x = pA.1.length
      · rw [rd_append_last _ _ _ q, rd_append_last _ _ _ (by omega)]; exact t1
      · rw [rd_append_left _ _ _ x0 (by omega), rd_append_left _ _ _ x0 (by omega)]; exact h.eq x x0 (by omega)
  · unfold addM; rw [e, t3]
theorem lk_row {i : Int} {SA SB : List Int} (h : Lk NA NB K nA nB fM FA FB SA SB) (i0 : 0 ≤ i) (i1 : i < SA.length) : ∀ c : Nat, (c : Int) ≤ K →
    Lk NA NB K nA nB fM FA FB (rowM nA FA i SA c).1 (rowM nB FB i SB c).1 ∧ (rowM nA FA i SA c).2 = (rowM nB FB i SB c).2
  | 0, _ => ⟨h, rfl⟩
  | c + 1, hc => by
    have ih := lk_row h i0 i1 c (by omega)
    exact lk_add hA1 hB1 hA7 hB7 hK hfA hfB hA hB hl hr hFA hFB ih.1 i0 (by have := (rowM_pre nA FA i SA c).length_le; omega) (by omega) (by omega) ih.2
theorem lk_bfs {i : Nat} {SA SfA : List Int} {nx nfA : List (List Int)} (a : BfsM K nA FA i SA nx SfA nfA) : ∀ {SB SfB : List Int} {nfB : List (List Int)}, Lk NA NB K nA nB fM FA FB SA SB → BfsM K nB FB i SB nx SfB nfB →
    Lk NA NB K nA nB fM FA FB SfA SfB ∧ nfA = nfB := by
  induction a with
  | done i S nx h0 =>
    intro SB SfB nfB h b
    have hlen := h.len
    cases b with
    | done _ _ _ _ => exact ⟨h, rfl⟩
    | step _ _ _ _ _ q _ => omega
  | step i S nx Sf nf h0 _ ih =>
    intro SB SfB nfB h b
    have hlen := h.len
    cases b with
    | done _ _ _ q => omega
    | step _ _ _ _ _ q b =>
      have r := lk_row hA1 hB1 hA7 hB7 hK hfA hfB hA hB hl hr hFA hFB h (i := (i : Int)) (by omega) (by omega) K.toNat (by omega)
      rw [← r.2] at b
      exact ih r.1 b
theorem same_of_eq {a b : Int} (a0 : 0 ≤ a) (a1 : a < NA) (b0 : 0 ≤ b) (b1 : b < NB) (h : EqM K NA nA nB fM a (NA + b)) {SfA SfB : List Int} {nfA nfB : List (List Int)} (x : BfsM K nA FA 0 [rd FA a] [] SfA nfA) (y : BfsM K nB FB 0 [rd FB b] [] SfB nfB) :
    SfA.length = SfB.length ∧ nfA = nfB ∧ finM fA SfA SfA.length = finM fB SfB SfB.length := by
  have ra := rep_rep hA1 hA7 hK hA hfA hFA a0 a1
  have rb := rep_rep hB1 hB7 hK hB hfB hFB b0 b1
  have eA := (eq_l hA1 hB1 hA hB hl hr hFA ra.1 ra.2.1 a0 a1).1 ra.2.2
  have eB := (eq_r hA1 hB1 hA hB hl hr hFB rb.1 rb.2.1 b0 b1).1 rb.2.2
  have l0 : Lk NA NB K nA nB fM FA FB [rd FA a] [rd FB b] := ⟨start_ok hA1 hA7 hK hA hfA hFA a0 a1, start_ok hB1 hB7 hK hB hfB hFB b0 b1, rfl, fun x x0 x1 => by
    obtain rfl : x = 0 := by simp at x1; omega
    exact (eA.trans h).trans eB.symm⟩
  obtain ⟨L, e⟩ := lk_bfs hA1 hB1 hA7 hB7 hK hfA hfB hA hB hl hr hFA hFB x l0 y
  have hlen := L.len
  refine ⟨hlen, e, ?_⟩
  rw [← hlen]
  refine finM_eq _ (fun x hx => ?_)
  have q := L.eq x (by omega) (by omega) 0
  have xa := L.okA.2 _ (rd_mem (i := (x : Int)) (by omega) (by omega))
  have xb := L.okB.2 _ (rd_mem (i := (x : Int)) (by omega) (by omega))
  have q2 : fM.testBit (rd SfA x).toNat = fM.testBit (NA + rd SfB x).toNat := Classical.not_not.1 q
  rw [hl _ xa.1 xa.2.1, hr _ xb.1 xb.2.1] at q2
  exact q2
theorem eq_of_same {a b : Int} (a0 : 0 ≤ a) (a1 : a < NA) (b0 : 0 ≤ b) (b1 : b < NB) {SfA SfB : List Int} {nfA nfB : List (List Int)} (x : BfsM K nA FA 0 [rd FA a] [] SfA nfA) (y : BfsM K nB FB 0 [rd FB b] [] SfB nfB) (oA : OkM NA FA SfA) (oB : OkM NB FB SfB)
    (e1 : SfA.length = SfB.length) (e2 : nfA = nfB) (e3 : finM fA SfA SfA.length = finM fB SfB SfB.length) : EqM K NA nA nB fM a (NA + b) := by
  subst e2
  have tA := bfsM_tab K nA FA hK.1 x rfl (by simp) (fun x c x0 x1 => by omega)
  have tB := bfsM_tab K nB FB hK.1 y rfl (by simp) (fun x c x0 x1 => by omega)
  rw [← e1] at e3
  have bits := finM_inj _ e3
  have key : ∀ (n : Nat) (x : Int), 0 ≤ x → x < SfA.length → ¬ Td K (besM NA nA nB) fM n (rd SfA x) (NA + rd SfB x) := by
    intro n
    induction n with
    | zero =>
      intro x x0 x1 q
      have xa := oA.2 _ (rd_mem x0 x1)
      have xb := oB.2 _ (rd_mem (i := x) x0 (by omega))
      have q2 : fM.testBit (rd SfA x).toNat ≠ fM.testBit (NA + rd SfB x).toNat := q
      rw [hl _ xa.1 xa.2.1, hr _ xb.1 xb.2.1] at q2
      have := bits x.toNat (by omega)
      rw [Int.toNat_of_nonneg x0] at this
      exact q2 this
    | succ n ih =>
      rintro x x0 x1 ⟨c, c0, c1, q⟩
      have xa := oA.2 _ (rd_mem x0 x1)
      have xb := oB.2 _ (rd_mem (i := x) x0 (by omega))
      have ta := hA.to xa.1 xa.2.1 c0 c1
      have tb := hB.to xb.1 xb.2.1 c0 c1
      have ra := rep_rep hA1 hA7 hK hA hfA hFA ta.1 ta.2
      have rb := rep_rep hB1 hB7 hK hB hfB hFB tb.1 tb.2
      have eA := (eq_l hA1 hB1 hA hB hl hr hFA ra.1 ra.2.1 ta.1 ta.2).1 ra.2.2
      have eB := (eq_r hA1 hB1 hA hB hl hr hFB rb.1 rb.2.1 tb.1 tb.2).1 rb.2.2
      have pA := tA x c x0 x1 c0 c1
      have pB := tB x c x0 (by omega) c0 c1
      have i2 := ih _ pA.1 pA.2.1
      rw [pA.2.2, pB.2.2] at i2
      rw [mto_l hA1 hB1 hA hB hl hr xa.1 xa.2.1, mto_r hA1 hB1 hA hB hl hr xb.1 xb.2.1 c0 c1] at q
      rcases Td.mid _ _ _ n _ (tgM nA FA (rd SfA x) c) _ q with q | q
      · exact eA.symm n q
      · rcases Td.mid _ _ _ n _ (NA + tgM nB FB (rd SfB x) c) _ q with q | q
        · exact i2 q
        · exact eB n q
  have pre : ∀ {S : List Int} {v : Int}, [v] <+: S → rd S 0 = v ∧ 0 < S.length := by
    rintro S v ⟨r, rfl⟩; exact ⟨rfl, by simp⟩
  have sA := pre (bfsM_pre K nA FA x)
  have sB := pre (bfsM_pre K nB FB y)
  have ra := rep_rep hA1 hA7 hK hA hfA hFA a0 a1
  have rb := rep_rep hB1 hB7 hK hB hfB hFB b0 b1
  have eA := (eq_l hA1 hB1 hA hB hl hr hFA ra.1 ra.2.1 a0 a1).1 ra.2.2
  have eB := (eq_r hA1 hB1 hA hB hl hr hFB rb.1 rb.2.1 b0 b1).1 rb.2.2
  have e0 : EqM K NA nA nB fM (rd FA a) (NA + rd FB b) := fun n => by
    have := key n 0 (Int.le_refl _) (by omega)
    rw [sA.1, sB.1] at this; exact this
  exact (eA.symm.trans e0).trans eB
end
theorem take_rdL {l : List (List Int)} {i : Int} (h0 : 0 ≤ i) (h1 : i < l.length) : l.take (i + 1).toNat = l.take i.toNat ++ [Zd l i] := by
  have h : i.toNat < l.length := by omega
  have e : (i + 1).toNat = i.toNat + 1 := by omega
  have g : Zd l i = l[i.toNat] := by simp [Zd, List.getD_eq_getElem?_getD, List.getElem?_eq_getElem h]
  rw [g, e, List.take_succ_eq_append_getElem h]
theorem ext_rdL {a b : List (List Int)} (hl : a.length = b.length) (h : ∀ x : Int, 0 ≤ x → x < a.length → Zd a x = Zd b x) : a = b := by
  apply List.ext_getElem hl
  intro i h1 h2
  have := h i (by omega) (by omega)
  simp only [Zd, List.getD_eq_getElem?_getD, Int.toNat_natCast] at this
  rw [List.getElem?_eq_getElem h1, List.getElem?_eq_getElem h2] at this
  exact this
theorem shl_nat (a n : Nat) (h : n < 32) (h2 : a * 2 ^ n < 2 ^ 32) : shl .u32 (a : Int) (n : Int) = ((a * 2 ^ n : Nat) : Int) := by
  unfold shl
  have e : min ((n : Int)).toNat IntKind.u32.bits = n := by simp [IntKind.bits]; omega
  have e2 : ((a : Int) * 2 ^ n) = ((a * 2 ^ n : Nat) : Int) := by simp
  rw [e, e2, u32_id (by omega) (by omega)]
section
variable {NA NB K : Int} {nA nB : List (List Int)} {sA fA sB fB : Int} (hA1 : 1 ≤ NA) (hB1 : 1 ≤ NB) (hA7 : NA ≤ 7) (hB7 : NB ≤ 7) (hK : 0 ≤ K ∧ K ≤ 3) (hA : okMach NA K nA) (hB : okMach NB K nB)
include hA1 hB1 hA7 hB7 hK hA hB
theorem beside_l2 {j : Int} (j0 : 0 ≤ j) (j1 : j < NB) {oN oK oS oF : Int} {acc : List (List Int)} (ha : acc.length ≤ 100) {r : Int × Int × List (List Int) × Int × Int}
    (he : Ev (fun k => Zx.l1 k nB (nB.length : Int) (j + 1) NA K nA sA fA oN oK (acc ++ [(Zd nB j).map (fun x => x + NA)]) oS oF) r) :
    Ev (fun k => Zx.l2 k [] nB (nB.length : Int) j (Zd nB j) ((Zd nB j).length : Int) 0 NA K nA sA fA oN oK acc oS oF) r := by
  have hrow := hB.row j0 j1
  refine Ev.loopc (σ := List Int) (L := fun k c x => Zx.l2 k x nB (nB.length : Int) j (Zd nB j) ((Zd nB j).length : Int) c NA K nA sA fA oN oK acc oS oF) (n := ((Zd nB j).length : Int))
    (fun c x => x = ((Zd nB j).take c.toNat).map (fun x => x + NA)) ?_ ?_ 0 [] (Int.le_refl _) (by omega) (by simp)
  · rintro x rfl
    refine Ev.step (fun k => Zx.l2.eq_2 _ _ _ _ _ _ _ _ _ _ _ _ _ _ _ _ _ k) ?_
    rw [w64 (x := j + 1) (by omega) (by omega), Int.toNat_natCast, List.take_length]
    exact Ev.neg (by omega) (Ev.pos (by omega) he)
  · rintro c x c0 c1 rfl hn
    have hb := (hB.2 _ (rdL_mem j0 hrow.2)).2 _ (rd_mem c0 c1)
    refine Ev.step (fun k => Zx.l2.eq_2 _ _ _ _ _ _ _ _ _ _ _ _ _ _ _ _ _ k) ?_
    rw [w64 (x := c + 1) (by omega) (by omega), w64 (x := rd (Zd nB j) c + NA) (by omega) (by omega)]
    refine Ev.pos c1 (Ev.pos c0 (Ev.pos c1 (Ev.pos (by rw [List.length_map, List.length_take]; omega) (hn _ ?_))))
    rw [take_rd c0 c1, List.map_append]; rfl
theorem beside_ev (f0 : 0 ≤ fA) (f1 : 0 ≤ fB) : Ev (fun k => Zx.f k NA K nA sA fA NB K nB sB fB) (NA + NB, K, besM NA nA nB, sA, Go.bits .or .u32 fA (shl .u32 fB NA)) := by
  have lA := hA.1
  have lB := hB.1
  unfold Zx.f
  rw [u64_id (by omega) (by omega), w64 (x := NA + NB) (by omega) (by omega)]
  refine Ev.pos (by omega) ?_
  refine Ev.loopc (σ := List (List Int)) (L := fun k i acc => Zx.l0 k nA (nA.length : Int) i NA K nA sA fA NB K nB sB fB (NA + NB) K acc sA (Go.bits .or .u32 fA (shl .u32 fB NA))) (n := (nA.length : Int))
    (fun i acc => acc = nA.take i.toNat) ?_ ?_ 0 [] (Int.le_refl _) (by omega) (by simp)
  · rintro acc rfl
    refine Ev.step (fun k => Zx.l0.eq_2 _ _ _ _ _ _ _ _ _ _ _ _ _ _ _ _ _ _ k) ?_
    refine Ev.neg (by omega) ?_
    rw [Int.toNat_natCast, List.take_length]
    refine Ev.loopc (σ := List (List Int)) (L := fun k j acc => Zx.l1 k nB (nB.length : Int) j NA K nA sA fA (NA + NB) K acc sA (Go.bits .or .u32 fA (shl .u32 fB NA))) (n := (nB.length : Int))
      (fun j acc => acc = nA ++ (nB.take j.toNat).map (fun l => l.map (fun x => x + NA))) ?_ ?_ 0 nA (Int.le_refl _) (by omega) (by simp)
    · rintro acc rfl
      refine Ev.step (fun k => Zx.l1.eq_2 _ _ _ _ _ _ _ _ _ _ _ _ _ k) ?_
      refine Ev.neg (by omega) (Ev.val ?_)
      rw [Int.toNat_natCast, List.take_length]; rfl
    · rintro j acc j0 j1 rfl hn
      refine Ev.step (fun k => Zx.l1.eq_2 _ _ _ _ _ _ _ _ _ _ _ _ _ k) ?_
      refine Ev.pos j1 (Ev.pos j0 (Ev.pos j1 ?_))
      refine beside_l2 hA1 hB1 hA7 hB7 hK hA hB j0 (by omega) (by rw [List.length_append, List.length_map, List.length_take]; omega) (hn _ ?_)
      rw [take_rdL j0 j1, List.map_append, List.append_assoc]; rfl
  · rintro i acc i0 i1 rfl hn
    have hrow := hA.row i0 (by omega)
    refine Ev.step (fun k => Zx.l0.eq_2 _ _ _ _ _ _ _ _ _ _ _ _ _ _ _ _ _ _ k) ?_
    rw [w64 (x := i + 1) (by omega) (by omega)]
    simp only [Option.bind_some, List.nil_append, List.length_nil]
    refine Ev.pos i1 (Ev.pos i0 (Ev.pos i1 (Ev.pos (by omega) (Ev.pos (by rw [List.length_take]; omega) (hn _ ?_)))))
    rw [take_rdL i0 i1]
end
section
variable {N K : Int} {next : List (List Int)} {st : Int} {f : Nat} (hN0 : 1 ≤ N) (hN1 : N ≤ 14) (hK : 0 ≤ K ∧ K ≤ 3) (hm : okMach N K next) (hf : f < 2 ^ 32)
include hN0 hN1 hK hm hf
theorem apart_l1 : ∀ (n : Nat) (i j : Int) (w : List Int), n ≤ 50 → w.length + n ≤ 100 → 0 ≤ i → i < N → 0 ≤ j → j < N → Td K next f n i j →
    EvP (fun k => Zv.l1 k i j (n : Int) w N K next st (f : Int)) (fun r => r.2 = true) := by
  intro n
  induction n with
  | zero =>
    intro i j w hn hw i0 i1 j0 j1 h
    refine EvP.step (fun k => Zv.l1.eq_2 _ _ _ _ _ _ _ _ _ k) ?_
    exact EvP.neg (by omega) (EvP.now rfl)
  | succ n ih =>
    intro i j w hn hw i0 i1 j0 j1 h
    obtain ⟨c, c0, c1, hc⟩ := h
    refine EvP.step (fun k => Zv.l1.eq_2 _ _ _ _ _ _ _ _ _ k) ?_
    refine EvP.pos (by omega) ?_
    have ri := hm.row i0 i1
    have rj := hm.row j0 j1
    have key : ∀ (d : Nat) (s : Int), 0 ≤ s → s + d = c → EvP (fun k => Zv.l2 k i j ((n + 1 : Nat) : Int) w s N K next st (f : Int)) (fun r => r.2 = true) := by
      intro d
      induction d with
      | zero =>
        intro s s0 e
        obtain rfl : s = c := by omega
        have ti := hm.to i0 i1 s0 c1
        have tj := hm.to j0 j1 s0 c1
        refine EvP.step (fun k => Zv.l2.eq_2 _ _ _ _ _ _ _ _ _ _ k) ?_
        rw [w64 (x := ((n + 1 : Nat) : Int) - 1) (by omega) (by omega), show ((n + 1 : Nat) : Int) - 1 = (n : Int) by omega]
        refine EvP.pos i0 (EvP.pos ri.2 (EvP.pos s0 (EvP.pos (by omega) (EvP.pos j0 (EvP.pos rj.2 (EvP.pos (by omega) ?_))))))
        refine EvP.bind (told_ev hN0 hN1 hK hm hf (R := true) (by omega) (by omega) ti.1 ti.2 tj.1 tj.2 ⟨fun _ => by rw [Int.toNat_natCast]; exact hc, fun _ => rfl⟩) ?_
        refine EvP.pos rfl (EvP.pos (by omega) (ih _ _ _ (by omega) (by rw [List.length_append]; simp; omega) ti.1 ti.2 tj.1 tj.2 hc))
      | succ d ih2 =>
        intro s s0 e
        have s1 : s < K := by omega
        have ti := hm.to i0 i1 s0 s1
        have tj := hm.to j0 j1 s0 s1
        obtain ⟨B, hB⟩ := isB (Td K next f n (mto next i s) (mto next j s))
        refine EvP.step (fun k => Zv.l2.eq_2 _ _ _ _ _ _ _ _ _ _ k) ?_
        rw [w64 (x := ((n + 1 : Nat) : Int) - 1) (by omega) (by omega), show ((n + 1 : Nat) : Int) - 1 = (n : Int) by omega, w64 (x := s + 1) (by omega) (by omega)]
        refine EvP.pos i0 (EvP.pos ri.2 (EvP.pos s0 (EvP.pos (by omega) (EvP.pos j0 (EvP.pos rj.2 (EvP.pos (by omega) ?_))))))
        refine EvP.bind (told_ev hN0 hN1 hK hm hf (R := B) (by omega) (by omega) ti.1 ti.2 tj.1 tj.2 (by rw [Int.toNat_natCast]; exact hB)) ?_
        by_cases b : B = true
        · exact EvP.pos b (EvP.pos (by omega) (ih _ _ _ (by omega) (by rw [List.length_append]; simp; omega) ti.1 ti.2 tj.1 tj.2 (hB.1 b)))
        · exact EvP.neg b (ih2 (s + 1) (by omega) (by omega))
    exact key c.toNat 0 (Int.le_refl _) (by omega)
theorem apart_l0 {i j : Int} (i0 : 0 ≤ i) (i1 : i < N) (j0 : 0 ≤ j) (j1 : j < N) : ∀ (d : Nat) (n : Int), 0 ≤ n → n + d = N → (∀ m : Nat, (m : Int) < n → ¬ Td K next f m i j) →
    EvP (fun k => Zv.l0 k i j n N K next st (f : Int)) (fun r => r.2 = true ↔ ¬ ∀ m, ¬ Td K next f m i j) := by
  have body : ∀ (n : Int), 0 ≤ n → n ≤ N → (∀ m : Nat, (m : Int) < n → ¬ Td K next f m i j) →
      (n < N → (∀ m : Nat, (m : Int) < n + 1 → ¬ Td K next f m i j) → EvP (fun k => Zv.l0 k i j (n + 1) N K next st (f : Int)) (fun r => r.2 = true ↔ ¬ ∀ m, ¬ Td K next f m i j)) →
      EvP (fun k => Zv.l0 k i j n N K next st (f : Int)) (fun r => r.2 = true ↔ ¬ ∀ m, ¬ Td K next f m i j) := by
    intro n n0 n1 h hn
    obtain ⟨B, hB⟩ := isB (Td K next f n.toNat i j)
    refine EvP.step (fun k => Zv.l0.eq_2 _ _ _ _ _ _ _ _ k) ?_
    rw [w64 (x := n + 1) (by omega) (by omega)]
    refine EvP.bind (told_ev hN0 hN1 hK hm hf (R := B) n0 (by omega) i0 i1 j0 j1 hB) ?_
    by_cases b : B = true
    · refine EvP.pos b ?_
      have := apart_l1 hN0 hN1 hK hm hf (st := st) n.toNat i j [] (by omega) (by simp; omega) i0 i1 j0 j1 (hB.1 b)
      rw [Int.toNat_of_nonneg n0] at this
      exact this.mono (fun r hr => ⟨fun _ q => q _ (hB.1 b), fun _ => hr⟩)
    · refine EvP.neg b ?_
      have h2 : ∀ m : Nat, (m : Int) < n + 1 → ¬ Td K next f m i j := fun m hm2 => by
        by_cases e : (m : Int) = n
        · have : m = n.toNat := by omega
          rw [this]; exact fun q => b (hB.2 q)
        · exact h m (by omega)
      by_cases c : n + 1 > N
      · refine EvP.pos c (EvP.now ⟨fun q => by simp at q, fun q => absurd ?_ q⟩)
        exact al_all hN0 hm i0 i1 j0 j1 (fun m hm2 => h2 m (by omega))
      · exact EvP.neg c (hn (by omega) h2)
  intro d
  induction d with
  | zero => intro n n0 e h; exact body n n0 (by omega) h (fun q => by omega)
  | succ d ih => intro n n0 e h; exact body n n0 (by omega) h (fun q h2 => ih (n + 1) (by omega) (by omega) h2)
end
theorem SmallM_ev {N K : Int} {next : List (List Int)} {st : Int} {f : Nat} (n0 : 1 ≤ N) (n1 : N ≤ 7) (hK : 0 ≤ K ∧ K ≤ 3) (hm : okMach N K next) (hf32 : f < 2 ^ 32) (s0 : 0 ≤ st) (s1 : st < N) :
    EvP (fun k => Zz.f k N K next st (f : Int)) (fun r => ∃ F Sf nf, Rep K next f N (N - 1).toNat F ∧ BfsM K next F 0 [rd F st] [] Sf nf ∧ OkM N F Sf ∧ r = ((Sf.length : Int), K, nf, 0, ((finM f Sf Sf.length : Nat) : Int))) := by
  unfold Zz.f
  refine EvP.bindP (alike_ev n0 n1 hK hm hf32) (fun F hF => ?_)
  exact (Small_ev n0 n1 hK hm hf32 hF s0 s1).mono (fun r ⟨Sf, nf, a, b, c⟩ => ⟨F, Sf, nf, hF, a, b, c⟩)
theorem same_j0 {n : Int} {x y : List (List Int)} {K s f N2 K2 s2 f2 : Int} (n0 : 0 ≤ n) (n1 : n ≤ 100) (hx : (x.length : Int) = n) (hy : (y.length : Int) = n) (hr : ∀ l ∈ x, l.length ≤ 100) (b R : Bool) (hR : R = true ↔ b = true ∧ x = y) :
    Ev (fun k => Zy.j0 k b n K x s f N2 K2 y s2 f2) (R, 0) := by
  refine Ev.step (fun k => Zy.j0.eq_2 _ _ _ _ _ _ _ _ _ _ _ k) ?_
  refine Ev.loopc (σ := Bool) (L := fun k i b => Zy.l0 k b i n K x s f N2 K2 y s2 f2) (n := n) (fun i c => c = true ↔ b = true ∧ ∀ z : Int, 0 ≤ z → z < i → Zd x z = Zd y z) ?_ ?_ 0 b (Int.le_refl _) n0 ⟨fun q => ⟨q, fun z p q => by omega⟩, fun q => q.1⟩
  · intro c hc
    refine Ev.step (fun k => Zy.l0.eq_2 _ _ _ _ _ _ _ _ _ _ _ _ k) ?_
    refine Ev.neg (by omega) (Ev.val ?_)
    have : c = R := by
      refine Bool.eq_iff_iff.2 (hc.trans (Iff.trans ?_ hR.symm))
      exact ⟨fun q => ⟨q.1, ext_rdL (by omega) (fun z p r => q.2 z p (by omega))⟩, fun q => ⟨q.1, fun z _ _ => by rw [q.2]⟩⟩
    rw [this]
  · intro i c i0 i1 hc hn
    refine Ev.step (fun k => Zy.l0.eq_2 _ _ _ _ _ _ _ _ _ _ _ _ k) ?_
    rw [w64 (x := i + 1) (by omega) (by omega)]
    refine Ev.pos i1 ?_
    by_cases d : c = true
    · have hlen := hr _ (rdL_mem i0 (show i < x.length by omega))
      refine Ev.pos d (Ev.pos i0 (Ev.pos (by omega) (Ev.pos (by omega) (Ev.bind (Equal_ev _ _ (by omega)) (hn _ ?_)))))
      rw [decide_eq_true_eq]
      have hc2 := hc.1 d
      constructor
      · intro e
        refine ⟨hc2.1, fun z z0 z1 => ?_⟩
        by_cases q : z = i
        · rw [q]; exact e
        · exact hc2.2 z z0 (by omega)
      · intro q; exact q.2 i i0 (by omega)
    · refine Ev.neg d (Ev.val ?_)
      have : c = R := by
        rw [Bool.eq_false_iff.2 d]
        refine (Bool.eq_false_iff.2 (fun q => d (hc.2 ?_))).symm
        have := hR.1 q
        exact ⟨this.1, fun z _ _ => by rw [this.2]⟩
      rw [this]
theorem LeastSames : Zn1.Pure := by
  unfold Zn1.Pure
  intro N K next st f N2 K2 next2 st2 f2
  intros
  have hf : 0 ≤ f ∧ f ≤ 4294967295 := wf_u32 (by assumption)
  have hf2 : 0 ≤ f2 ∧ f2 ≤ 4294967295 := wf_u32 (by assumption)
  apply Ev.rounds
  unfold Zn1.f Zy.f
  have c1 := machCheck_ev N K next st f hf.1
  have c2 := rmach_ev N K next st f
  have d1 := machCheck_ev N2 K2 next2 st2 f2 hf2.1
  have d2 := rmach_ev N2 K2 next2 st2 f2
  obtain ⟨code, hcode⟩ : ∃ code : Int, code = if machCode N K next st f = 0 then if machCode N2 K2 next2 st2 f2 = 0 then if K = K2 then 0 else 3 else machCode N2 K2 next2 st2 f2 else machCode N K next st f := ⟨_, rfl⟩
  have w1 : Ev (fun k => least_wrong.f k N K next st f N2 K2 next2 st2 f2) code := by
    unfold least_wrong.f
    rw [hcode]
    refine Ev.bind c1 ?_
    by_cases c : machCode N K next st f = 0
    · refine Ev.pos c (Ev.bind d1 ?_)
      by_cases d : machCode N2 K2 next2 st2 f2 = 0
      · refine Ev.pos d ?_
        by_cases e : K = K2
        · exact Ev.pos e (Ev.val (by simp only [if_pos c, if_pos d, if_pos e]))
        · exact Ev.neg e (Ev.val (by simp only [if_pos c, if_pos d, if_neg e]))
      · exact Ev.neg d (Ev.val (by simp only [if_pos c, if_neg d]))
    · exact Ev.neg c (Ev.val (by simp only [if_neg c]))
  have w2 : Ev (fun k => Zm1.f k N K next st f N2 K2 next2 st2 f2) code := by
    unfold Zm1.f
    rw [hcode]
    refine Ev.bind c2 ?_
    by_cases c : machCode N K next st f = 0
    · refine Ev.pos c (Ev.bind d2 ?_)
      by_cases d : machCode N2 K2 next2 st2 f2 = 0
      · refine Ev.pos d ?_
        by_cases e : K = K2
        · exact Ev.pos e (Ev.val (by simp only [if_pos c, if_pos d, if_pos e]; exact d))
        · exact Ev.neg e (Ev.val (by simp only [if_pos c, if_pos d, if_neg e]))
      · exact Ev.neg d (Ev.val (by simp only [if_pos c, if_neg d]))
    · exact Ev.neg c (Ev.val (by simp only [if_neg c]))
  by_cases c0 : code = 0
  · have a1 : machCode N K next st f = 0 := by
      apply Classical.byContradiction; intro q; rw [if_neg q] at hcode; omega
    rw [if_pos a1] at hcode
    have b1 : machCode N2 K2 next2 st2 f2 = 0 := by
      apply Classical.byContradiction; intro q; rw [if_neg q] at hcode; omega
    rw [if_pos b1] at hcode
    have ek : K = K2 := by
      apply Classical.byContradiction; intro q; rw [if_neg q] at hcode; omega
    subst ek
    rw [c0] at w1 w2
    obtain ⟨n0, n1, k0, k1, hA, s0, s1, f1⟩ := machCode_0 a1
    obtain ⟨m0, m1, _, _, hB, t0, t1, g1⟩ := machCode_0 b1
    obtain ⟨f, rfl⟩ := Int.eq_ofNat_of_zero_le hf.1
    obtain ⟨g, rfl⟩ := Int.eq_ofNat_of_zero_le hf2.1
    have hfA : f < 2 ^ 32 := by omega
    have hfB : g < 2 ^ 32 := by omega
    have hK : 0 ≤ K ∧ K ≤ 3 := by omega
    obtain ⟨a, rfl⟩ := Int.eq_ofNat_of_zero_le (show 0 ≤ N by omega)
    obtain ⟨b, rfl⟩ := Int.eq_ofNat_of_zero_le (show 0 ≤ N2 by omega)
    have e2 : ∀ n : Nat, ((2 : Int) ^ n) = ((2 ^ n : Nat) : Int) := fun n => by simp
    rw [Int.toNat_natCast, e2] at f1 g1
    have pa : 2 ^ a ≤ 2 ^ 7 := Nat.pow_le_pow_right (by omega) (by omega)
    have pb : 2 ^ b ≤ 2 ^ 7 := Nat.pow_le_pow_right (by omega) (by omega)
    have hshift : g * 2 ^ a < 2 ^ 14 := by
      have : g * 2 ^ a ≤ 127 * 128 := Nat.mul_le_mul (by omega) (by omega)
      omega
    obtain ⟨fM, hfM⟩ : ∃ fM : Nat, fM = f ||| g <<< a := ⟨_, rfl⟩
    have hM : Go.bits .or .u32 (f : Int) (shl .u32 (g : Int) (a : Int)) = (fM : Int) := by
      rw [shl_nat g a (by omega) (by omega), u32_or f (g * 2 ^ a) hfA (by omega), hfM, Nat.shiftLeft_eq]
    have hM32 : fM < 2 ^ 32 := by
      rw [hfM, Nat.shiftLeft_eq]; exact Nat.or_lt_two_pow hfA (by omega)
    have hl : ∀ i : Int, 0 ≤ i → i < (a : Int) → fM.testBit i.toNat = f.testBit i.toNat := fun i i0 i1 => by
      rw [hfM, Nat.testBit_or, Nat.testBit_shiftLeft, show decide (i.toNat ≥ a) = false from decide_eq_false (by omega)]; simp
    have hr : ∀ j : Int, 0 ≤ j → j < (b : Int) → fM.testBit ((a : Int) + j).toNat = g.testBit j.toNat := fun j j0 j1 => by
      have z : f.testBit ((a : Int) + j).toNat = false := Nat.testBit_lt_two_pow (Nat.lt_of_lt_of_le (show f < 2 ^ a by omega) (Nat.pow_le_pow_right (by omega) (by omega)))
      rw [hfM, Nat.testBit_or, Nat.testBit_shiftLeft, z, show decide (((a : Int) + j).toNat ≥ a) = true from decide_eq_true (by omega), show ((a : Int) + j).toNat - a = j.toNat by omega]; simp
    have e1 : EvP (fun k => (Zz.f k (a : Int) K next st (f : Int)).bind fun bt200 => ((Zz.f k (b : Int) K next2 st2 (g : Int)).bind fun bt207 => (if bt200.1 = bt207.1 then (Zy.j0 k (bt200.2.2.2.2 == bt207.2.2.2.2) bt200.1 bt200.2.1 bt200.2.2.1 bt200.2.2.2.1 bt200.2.2.2.2 bt207.1 bt207.2.1 bt207.2.2.1 bt207.2.2.2.1 bt207.2.2.2.2) else (Zy.j0 k false bt200.1 bt200.2.1 bt200.2.2.1 bt200.2.2.2.1 bt200.2.2.2.2 bt207.1 bt207.2.1 bt207.2.2.1 bt207.2.2.2.1 bt207.2.2.2.2))))
        (fun r => r.2 = 0 ∧ (r.1 = true ↔ EqM K (a : Int) next next2 fM st ((a : Int) + st2))) := by
      refine EvP.bindP (SmallM_ev n0 n1 hK hA hfA s0 s1) ?_
      rintro _ ⟨FA, SA, nfA, hFA, bA, oA, rfl⟩
      refine EvP.bindP (SmallM_ev m0 m1 hK hB hfB t0 t1) ?_
      rintro _ ⟨FB, SB, nfB, hFB, bB, oB, rfl⟩
      have lenA := oA.len n0 n1 hK hA hfA hFA
      have rowsA := bfsM_row K next FA bA rfl (by simp)
      have rowsB := bfsM_row K next2 FB bB rfl (by simp)
      have hrA : ∀ l ∈ nfA, l.length ≤ 100 := fun l hl2 => by have := rowsA.2 (by simp) l hl2; omega
      obtain ⟨R, hR⟩ := isB (EqM K (a : Int) next next2 fM st ((a : Int) + st2))
      have iff : EqM K (a : Int) next next2 fM st ((a : Int) + st2) ↔ SA.length = SB.length ∧ nfA = nfB ∧ finM f SA SA.length = finM g SB SB.length :=
        ⟨fun q => same_of_eq n0 m0 n1 m1 hK hfA hfB hA hB hl hr hFA hFB s0 s1 t0 t1 q bA bB, fun q => eq_of_same n0 m0 n1 m1 hK hfA hfB hA hB hl hr hFA hFB s0 s1 t0 t1 bA bB oA oB q.1 q.2.1 q.2.2⟩
      refine EvP.of (r := (R, 0)) ⟨rfl, hR⟩ ?_
      rw [iff] at hR
      by_cases q : ((SA.length : Nat) : Int) = ((SB.length : Nat) : Int)
      · refine Ev.pos q (same_j0 (by omega) (by omega) (show (nfA.length : Int) = (SA.length : Int) by omega) (show (nfB.length : Int) = (SA.length : Int) by omega) hrA _ R ?_)
        rw [hR, beq_iff_eq]
        exact ⟨fun z => ⟨by show ((finM f SA SA.length : Nat) : Int) = ((finM g SB SB.length : Nat) : Int); rw [z.2.2], z.2.1⟩, fun z => ⟨by omega, z.2, by have : ((finM f SA SA.length : Nat) : Int) = ((finM g SB SB.length : Nat) : Int) := z.1; omega⟩⟩
      · refine Ev.neg q ?_
        have rf : R = false := Bool.eq_false_iff.2 (fun z => q (by have := (hR.1 z).1; omega))
        rw [rf]
        refine Ev.step (fun k => Zy.j0.eq_2 _ _ _ _ _ _ _ _ _ _ _ k) ?_
        refine Ev.step (fun k => Zy.l0.eq_2 _ _ _ _ _ _ _ _ _ _ _ _ k) ?_
        by_cases z : (0 : Int) < (SA.length : Int)
        · exact Ev.pos z (Ev.neg (by simp) (Ev.now _))
        · exact Ev.neg z (Ev.now _)
    have e0 := EvP.bind (f := fun k t199 => if t199 = 0 then ((Zz.f k (a : Int) K next st (f : Int)).bind fun bt200 => ((Zz.f k (b : Int) K next2 st2 (g : Int)).bind fun bt207 => (if bt200.1 = bt207.1 then (Zy.j0 k (bt200.2.2.2.2 == bt207.2.2.2.2) bt200.1 bt200.2.1 bt200.2.2.1 bt200.2.2.2.1 bt200.2.2.2.2 bt207.1 bt207.2.1 bt207.2.2.1 bt207.2.2.2.1 bt207.2.2.2.2) else (Zy.j0 k false bt200.1 bt200.2.1 bt200.2.2.1 bt200.2.2.2.1 bt200.2.2.2.2 bt207.1 bt207.2.1 bt207.2.2.1 bt207.2.2.2.1 bt207.2.2.2.2)))) else some (false, t199)) w1 (EvP.pos rfl e1)
    refine EvP.ev e0 ?_
    rintro ⟨r1, r2⟩ ⟨q1, q2⟩
    dsimp only at q1 q2
    subst q1
    have bes := beside_ev (sA := st) (fA := (f : Int)) (sB := st2) (fB := (g : Int)) n0 m0 n1 m1 hK hA hB (by omega) (by omega)
    rw [hM] at bes
    have okM := bes_ok n0 m0 hA hB hl hr
    have ap : EvP (fun k => Zv.f k (a : Int) K next st (f : Int) (b : Int) K next2 st2 (g : Int)) (fun r => r.2 = true ↔ ¬ EqM K (a : Int) next next2 fM st ((a : Int) + st2)) := by
      unfold Zv.f
      refine EvP.bind bes ?_
      rw [w64 (x := (a : Int) + st2) (by omega) (by omega)]
      exact apart_l0 (by omega) (by omega) hK okM hM32 s0 (by omega) (by omega) (by omega) ((a : Int) + (b : Int)).toNat 0 (Int.le_refl _) (by omega) (fun m hm2 => by omega)
    refine Ev.bind w2 (Ev.pos rfl (EvP.ev ap ?_))
    rintro ⟨v, r3⟩ q3
    dsimp only at q3
    refine Ev.pos rfl (Ev.val ?_)
    by_cases q : EqM K (a : Int) next next2 fM st ((a : Int) + st2)
    · have h1 : r1 = true := q2.2 q
      have h2 : r3 = false := Bool.eq_false_iff.2 (fun z => q3.1 z q)
      rw [h1, h2]; rfl
    · have h1 : r1 = false := Bool.eq_false_iff.2 (fun z => q (q2.1 z))
      have h2 : r3 = true := q3.2 q
      rw [h1, h2]; rfl
  · exact Ev.bind (Ev.bind w1 (Ev.neg c0 (Ev.now _))) (Ev.bind w2 (Ev.neg c0 (Ev.pos rfl (Ev.val rfl))))
end Go.Proofs.Ytcfodnildhhocaa.Pure
