-- Printed by a turn of a template of the kit, and shortened: remarks and what nothing here uses are left out.
import Derived.Test.YtlmagjgjaajeiaaQStatTurnerTakes
set_option linter.unusedVariables false
set_option linter.unusedSimpArgs false
set_option linter.unusedSectionVars false
namespace Go.Proofs.Ytlmagjgjaajeiaa.Pure
open Go.RowKit Go.Proofs.Ytlmagjgjaajeiaa.PTurnerTakes Go.Proofs.YtlmagjgjaajeiaaW.PrintWords Go.Proofs.YtlmagjgjaajeiaaW.PrintLast Go.Proofs.YtlmagjgjaajeiaaW.PrintMore
theorem w64 {x : Int} (h0 : -9223372036854775808 ≤ x) (h1 : x ≤ 9223372036854775807) : wrap64 x = x := by unfold wrap64; omega
theorem Ev.neg {α : Type} {c : Prop} [Decidable c] {g f : Nat → Option α} {r : α} (h : ¬ c) (e : Ev f r) : Ev (fun k => if c then g k else f k) r := Ev.congr (fun k => by rw [if_neg h]) e
theorem Ev.val {α : Type} {r q : α} (h : r = q) : Ev (fun _ => some r) q := by subst h; exact Ev.now r
theorem rd_getElem {l : List Int} {i : Int} (h1 : i.toNat < l.length) : rd l i = l[i.toNat] := by simp [rd, List.getD_eq_getElem?_getD, List.getElem?_eq_getElem h1]
theorem drop_rd {l : List Int} {i : Int} (h0 : 0 ≤ i) (h1 : i < l.length) : l.drop i.toNat = rd l i :: l.drop (i + 1).toNat := by
  have h : i.toNat < l.length := by omega
  rw [rd_getElem h, List.drop_eq_getElem_cons h]; congr 2; omega
theorem drop_all {α : Type} (l : List α) (n : Nat) (h : l.length ≤ n) : l.drop n = [] := List.drop_eq_nil_of_le h
theorem wf_u32 {x : Int} (h : (Lit.int .u32 x).wf = true) : 0 ≤ x ∧ x ≤ 4294967295 := by simpa [Lit.wf, IntKind.min, IntKind.max, IntKind.signed, IntKind.bits] using h
theorem rd_mem {l : List Int} {i : Int} (h0 : 0 ≤ i) (h1 : i < l.length) : rd l i ∈ l := by
  rw [rd_getElem (by omega)]; exact List.getElem_mem _
theorem tm {a b : Int} (h : 0 ≤ a) : Int.tmod a b = a % b := Int.tmod_eq_emod_of_nonneg h
theorem td {a b : Int} (h : 0 ≤ a) : Int.tdiv a b = a / b := Int.tdiv_eq_ediv_of_nonneg h
theorem u32_id {x : Int} (h0 : 0 ≤ x) (h1 : x ≤ 4294967295) : IntKind.u32.wrap x = x := by rw [IntKind.wrap_u32]; omega
theorem u64_id {x : Int} (h0 : 0 ≤ x) (h1 : x ≤ 18446744073709551615) : IntKind.u64.wrap x = x := by simp [IntKind.wrap, IntKind.bits, IntKind.signed]; omega
theorem u32_or (a b : Nat) (ha : a < 2 ^ 32) (hb : b < 2 ^ 32) : Go.bits .or .u32 a b = ((a ||| b : Nat) : Int) :=
  (bits_nat .u32 32 (by decide) (fun n h0 h1 => u32_id h0 (by omega)) a b ha hb).2
theorem u32_and (a b : Nat) (ha : a < 2 ^ 32) (hb : b < 2 ^ 32) : Go.bits .and .u32 a b = ((a &&& b : Nat) : Int) :=
  (bits_nat .u32 32 (by decide) (fun n h0 h1 => u32_id h0 (by omega)) a b ha hb).1
theorem shl1 (n : Nat) (h : n < 32) : shl .u32 1 (n : Int) = ((2 ^ n : Nat) : Int) := by
  unfold shl
  have e : min ((n : Int)).toNat IntKind.u32.bits = n := by simp [IntKind.bits]; omega
  have h2 : 2 ^ n ≤ 2 ^ 31 := Nat.pow_le_pow_right (by omega) (by omega)
  rw [e, Int.one_mul, u32_id (by exact_mod_cast Nat.zero_le _) (by have : ((2 ^ n : Nat) : Int) ≤ 2 ^ 31 := by exact_mod_cast h2
                                                                   have e2 : ((2 : Int) ^ n) = ((2 ^ n : Nat) : Int) := by simp
                                                                   omega)]
  simp
theorem shrn (a n : Nat) (h : n < 32) : shr .u32 (a : Int) (n : Int) = ((a / 2 ^ n : Nat) : Int) := by
  unfold shr
  have e : min ((n : Int)).toNat IntKind.u32.bits = n := by simp [IntKind.bits]; omega
  rw [e]; simp
theorem bit_and (a i : Nat) (ha : a < 2 ^ 32) (hi : i < 32) : (Go.bits .and .u32 (a : Int) (shl .u32 1 (i : Int)) != 0) = a.testBit i := by
  have h0 : 2 ^ i < 2 ^ 32 := Nat.pow_lt_pow_right (by omega) hi
  rw [shl1 i hi, u32_and a (2 ^ i) ha h0]
  cases h : a.testBit i with
  | true =>
    have : a &&& 2 ^ i ≠ 0 := fun e => by
      have q := congrArg (fun x => Nat.testBit x i) e
      simp [Nat.testBit_and, Nat.testBit_two_pow_self, h] at q
    simp; omega
  | false =>
    have : a &&& 2 ^ i = 0 := by
      apply Nat.eq_of_testBit_eq
      intro j
      by_cases e : i = j
      · subst e; simp [Nat.testBit_and, h]
      · simp [Nat.testBit_and, Nat.testBit_two_pow, e]
    rw [this]; rfl
theorem bit_or (a i : Nat) (ha : a < 2 ^ 32) (hi : i < 32) : Go.bits .or .u32 (a : Int) (shl .u32 1 (i : Int)) = ((a ||| 2 ^ i : Nat) : Int) := by
  have h0 : 2 ^ i < 2 ^ 32 := Nat.pow_lt_pow_right (by omega) hi
  rw [shl1 i hi, u32_or a (2 ^ i) ha h0]
theorem drop_rdL {l : List (List Int)} {i : Int} (h0 : 0 ≤ i) (h1 : i < l.length) : l.drop i.toNat = rd_L1 l i :: l.drop (i + 1).toNat := by
  have h : i.toNat < l.length := by omega
  have e : rd_L1 l i = l[i.toNat] := by simp [rd_L1, List.getD_eq_getElem?_getD, List.getElem?_eq_getElem h]
  rw [e, List.drop_eq_getElem_cons h]; congr 2; omega
theorem rdL_mem {l : List (List Int)} {i : Int} (h0 : 0 ≤ i) (h1 : i < l.length) : rd_L1 l i ∈ l := by
  have h : i.toNat < l.length := by omega
  have e : rd_L1 l i = l[i.toNat] := by simp [rd_L1, List.getD_eq_getElem?_getD, List.getElem?_eq_getElem h]
  rw [e]; exact List.getElem_mem _
theorem anyO_some {α : Type} (p : α → Bool) : ∀ l : List α, anyO (fun x => some (p x)) l = some (l.any p)
  | [] => rfl
  | x :: l => by
    unfold anyO
    rw [Option.bind_some, anyO_some p l, List.any_cons]
    cases p x <;> simp
theorem anyO_of {α : Type} {f : α → Option Bool} {p : α → Bool} {l : List α} (h : ∀ x ∈ l, f x = some (p x)) : anyO f l = some (l.any p) := by
  induction l with
  | nil => rfl
  | cons x l ih =>
    unfold anyO
    rw [h x (by simp), Option.bind_some, ih (fun y hy => h y (by simp [hy])), List.any_cons]
    cases p x <;> simp
theorem Ev.loop {σ ρ : Type} {L : Nat → Int → σ → Option ρ} {n : Int} {r : ρ} (I : Int → σ → Prop)
    (hend : ∀ s, I n s → Ev (fun k => L k n s) r)
    (hstep : ∀ i s, 0 ≤ i → i < n → I i s → Ev (fun k => L k i s) r ∨ ∃ s', I (i + 1) s' ∧ (Ev (fun k => L k (i + 1) s') r → Ev (fun k => L k i s) r)) :
    ∀ (i : Int) (s : σ), 0 ≤ i → i ≤ n → I i s → Ev (fun k => L k i s) r := by
  have key : ∀ (d : Nat) (i : Int) (s : σ), 0 ≤ i → i + d = n → I i s → Ev (fun k => L k i s) r := by
    intro d
    induction d with
    | zero => intro i s h0 h1 hI; obtain rfl : i = n := by omega
              exact hend s hI
    | succ d ih =>
      intro i s h0 h1 hI
      rcases hstep i s h0 (by omega) hI with h | ⟨s', h', h⟩
      · exact h
      · exact h (ih (i + 1) s' (by omega) (by omega) h')
  intro i s h0 h1 hI
  exact key (n - i).toNat i s h0 (by omega) hI
theorem Ev.firstBad {α ρ : Type} {L : Nat → Int → Option ρ} {l : List α} {rdf : Int → α} {bad : α → Bool} {c fin : ρ}
    (hrd : ∀ i : Int, 0 ≤ i → i < l.length → l.drop i.toNat = rdf i :: l.drop (i + 1).toNat)
    (hend : l.any bad = false → Ev (fun k => L k l.length) fin)
    (hbad : ∀ i : Int, 0 ≤ i → i < l.length → bad (rdf i) = true → Ev (fun k => L k i) c)
    (hgood : ∀ (i : Int) (r : ρ), 0 ≤ i → i < l.length → bad (rdf i) = false → Ev (fun k => L k (i + 1)) r → Ev (fun k => L k i) r) :
    Ev (fun k => L k 0) (if l.any bad = true then c else fin) := by
  refine Ev.loop (σ := Unit) (L := fun k i _ => L k i) (n := l.length) (fun i _ => l.any bad = (l.drop i.toNat).any bad) ?_ ?_ 0 () (Int.le_refl _) (by omega) rfl
  · intro _ h
    rw [Int.toNat_natCast, List.drop_length] at h
    have h : l.any bad = false := h
    rw [h]; exact hend h
  · intro i _ h0 h1 h
    rw [hrd i h0 h1, List.any_cons] at h
    cases hb : bad (rdf i) with
    | true => left; rw [h, hb]; exact hbad i h0 h1 hb
    | false => right; refine ⟨(), by rw [h, hb]; rfl, hgood i _ h0 h1 hb⟩
theorem rd_cons {l : List Int} {i : Int} (h0 : 0 ≤ i) (h1 : i < l.length) : l.drop i.toNat = rd l i :: l.drop (i + 1).toNat := drop_rd h0 h1
theorem Ints_l0 (a b : List Int) (hl : a.length = b.length) (hb : (a.length : Int) ≤ 4611686018427387904) (d : Nat) : ∀ i : Int, 0 ≤ i → i + d = a.length → Ev (fun k => coppicerref_Ints.l0 k a b i) (decide (a.drop i.toNat = b.drop i.toNat)) := by
  induction d with
  | zero =>
    intro i h0 hd
    refine Ev.step (fun k => coppicerref_Ints.l0.eq_2 _ _ _ k) ?_
    simp (disch := omega) only [if_pos, if_neg]
    exact Ev.val (by rw [List.drop_eq_nil_of_le (by omega), List.drop_eq_nil_of_le (by omega)]; simp)
  | succ d ih =>
    intro i h0 hd
    refine Ev.step (fun k => coppicerref_Ints.l0.eq_2 _ _ _ k) ?_
    simp (disch := omega) only [if_pos, w64]
    rw [drop_rd h0 (by omega), drop_rd (l := b) h0 (by omega)]
    by_cases h : rd a i = rd b i
    · simp only [if_pos h]
      exact Ev.congr (fun _ => rfl) (by simpa [h] using ih (i + 1) (by omega) (by omega))
    · simp only [if_neg h]
      exact Ev.val (by simp [h])
theorem Ints_ev (a b : List Int) (hb : (a.length : Int) ≤ 4611686018427387904) : Ev (fun k => coppicerref_Ints.f k a b) (decide (a = b)) := by
  unfold coppicerref_Ints.f
  by_cases hl : a.length = b.length
  · simp (disch := omega) only [if_pos]
    simpa using Ints_l0 a b hl hb a.length 0 (by omega) (by omega)
  · simp (disch := omega) only [if_neg]
    exact Ev.val (by simp; intro h; exact hl (by rw [h]))
theorem Concat_l1 (l : List (List Int)) (hl : l.length ≤ 4611686018427387904) (R : List Int) (hR : R.length < 17592186044416) (d : Nat) : ∀ (i : Int) (acc : List Int), 0 ≤ i → i + d = l.length → acc ++ (l.drop i.toNat).flatten = R →
    Ev (fun k => slices_Concat_Sint_int.l1 k acc l (l.length : Int) i) R := by
  induction d with
  | zero =>
    intro i acc h0 hd h
    refine Ev.step (fun k => slices_Concat_Sint_int.l1.eq_2 _ _ _ _ k) ?_
    simp (disch := omega) only [if_neg]
    rw [List.drop_eq_nil_of_le (by omega)] at h
    exact Ev.val (by simpa using h)
  | succ d ih =>
    intro i acc h0 hd h
    refine Ev.step (fun k => slices_Concat_Sint_int.l1.eq_2 _ _ _ _ k) ?_
    rw [drop_rdL h0 (by omega), List.flatten_cons, ← List.append_assoc] at h
    have hlen : acc.length + (rd_L1 l i).length ≤ R.length := by
      rw [← h]; simp only [List.length_append]; omega
    simp (disch := omega) only [if_pos, w64]
    exact ih (i + 1) _ (by omega) (by omega) h
theorem Concat_l0 (l : List (List Int)) (hl : l.length ≤ 4611686018427387904) (hR : l.flatten.length < 17592186044416) (d : Nat) : ∀ (i s : Int), 0 ≤ i → i + d = l.length → 0 ≤ s → s + (l.drop i.toNat).flatten.length = l.flatten.length →
    Ev (fun k => slices_Concat_Sint_int.l0 k l s l (l.length : Int) i) l.flatten := by
  induction d with
  | zero =>
    intro i s h0 hd hs h
    refine Ev.step (fun k => slices_Concat_Sint_int.l0.eq_2 _ _ _ _ _ k) ?_
    rw [List.drop_eq_nil_of_le (by omega)] at h
    simp only [List.flatten_nil, List.length_nil] at h
    simp (disch := omega) only [if_neg, slices_Grow_Sint_int.f, if_pos, Option.bind_some]
    exact Concat_l1 l hl _ hR l.length 0 [] (by omega) (by omega) (by simp)
  | succ d ih =>
    intro i s h0 hd hs h
    refine Ev.step (fun k => slices_Concat_Sint_int.l0.eq_2 _ _ _ _ _ k) ?_
    rw [drop_rdL h0 (by omega), List.flatten_cons, List.length_append] at h
    simp (disch := omega) only [if_pos, if_neg, w64]
    exact ih (i + 1) _ (by omega) (by omega) (by omega) (by omega)
theorem Concat_ev (l : List (List Int)) (hl : l.length ≤ 4611686018427387904) (hR : l.flatten.length < 17592186044416) : Ev (fun k => slices_Concat_Sint_int.f k l) l.flatten := by
  unfold slices_Concat_Sint_int.f
  exact Concat_l0 l hl hR l.length 0 0 (by omega) (by omega) (by omega) (by simp)
abbrev bad (N x : Int) : Prop := x < 0 ∨ x ≥ N
def machCode (N K : Int) (next : List (List Int)) (st f : Int) : Int :=
  if N < 1 ∨ N > 7 ∨ K < 1 ∨ K > 3 then 1 else if (next.length : Int) ≠ N ∨ (next.any fun l => decide ((l.length : Int) ≠ K)) = true then 3
  else if (next.flatten.any fun x => decide (bad N x)) = true ∨ bad N st then 2 else if f ≥ 2 ^ N.toNat then 4 else 0
theorem flat_len (K : Int) (hK : 0 ≤ K) : ∀ l : List (List Int), (∀ x ∈ l, (x.length : Int) = K) → (l.flatten.length : Int) = l.length * K
  | [], _ => by simp
  | x :: l, h => by
    have := flat_len K hK l (fun y hy => h y (by simp [hy]))
    have hx := h x (by simp)
    rw [List.flatten_cons, List.length_append, List.length_cons]
    push_cast
    rw [this, hx, Int.add_mul]; omega
theorem check_l0 (N K : Int) (next : List (List Int)) (st f : Int) (hN0 : 1 ≤ N) (hN1 : N ≤ 7) (hf0 : 0 ≤ f) (all : List Int) (hl : all.length ≤ 4611686018427387904) (d : Nat) : ∀ i : Int, 0 ≤ i → i + d = all.length →
    Ev (fun k => machine_Check.l0 k all (all.length : Int) i N K next st f) (if ((all.drop i.toNat).any fun x => decide (bad N x)) = true then 2 else if f ≥ 2 ^ N.toNat then 4 else 0) := by
  induction d with
  | zero =>
    intro i h0 hd
    refine Ev.step (fun k => machine_Check.l0.eq_2 _ _ _ _ _ _ _ _ k) ?_
    obtain ⟨a, rfl⟩ := Int.eq_ofNat_of_zero_le hf0
    obtain ⟨n, rfl⟩ := Int.eq_ofNat_of_zero_le (show 0 ≤ N by omega)
    have e : ((2 : Int) ^ n) = ((2 ^ n : Nat) : Int) := by simp
    simp (disch := omega) only [if_neg (show ¬ i < (all.length : Int) by omega), if_pos (show 0 ≤ (n : Int) by omega), shrn a n (by omega)]
    rw [List.drop_eq_nil_of_le (by omega), Int.toNat_natCast, e]
    have key : a / 2 ^ n = 0 ↔ a < 2 ^ n := by
      rw [Nat.div_eq_zero_iff]
      have := Nat.two_pow_pos n
      omega
    by_cases q : a < 2 ^ n
    · have q' : ((a / 2 ^ n : Nat) : Int) = 0 := by have := key.2 q; omega
      simp only [if_pos q']; exact Ev.val (by rw [if_neg (by simp), if_neg (by omega)])
    · have q' : ¬ ((a / 2 ^ n : Nat) : Int) = 0 := by have := mt key.1 q; omega
      simp only [if_neg q']; exact Ev.val (by rw [if_neg (by simp), if_pos (by omega)])
  | succ d ih =>
    intro i h0 hd
    refine Ev.step (fun k => machine_Check.l0.eq_2 _ _ _ _ _ _ _ _ k) ?_
    rw [drop_rd h0 (by omega)]
    simp (disch := omega) only [if_pos (show i < (all.length : Int) by omega), if_pos h0, w64]
    by_cases a : rd all i < 0
    · simp only [if_pos a]; exact Ev.val (by rw [if_pos (by simp [a])])
    · by_cases b : rd all i ≥ N
      · simp only [if_neg a, if_pos b]; exact Ev.val (by rw [if_pos (by simp [b])])
      · simp only [if_neg a, if_neg b]
        have := ih (i + 1) (by omega) (by omega)
        simpa [a, b] using this
theorem mchk1 (N K : Int) (next l : List (List Int)) (st f : Int) : machine_Check_1_any.f l N K next st f = some (l.any fun l => decide ((l.length : Int) ≠ K)) := by
  unfold machine_Check_1_any.f
  exact anyO_of (fun x _ => by unfold machine_Check_1.f; congr 1; by_cases h : (x.length : Int) = K <;> simp [h])
theorem machCheck_ev (N K : Int) (next : List (List Int)) (st f : Int) (hf0 : 0 ≤ f) : Ev (fun k => machine_Check.f k N K next st f) (machCode N K next st f) := by
  unfold machine_Check.f
  have wrong : (N < 1 ∨ N > 7 ∨ K < 1 ∨ K > 3) → Ev (fun k => machine_Check.j0 k true N K next st f) (machCode N K next st f) := by
    intro h
    unfold machCode; rw [if_pos h]
    refine Ev.step (fun k => machine_Check.j0.eq_2 _ _ _ _ _ _ k) ?_
    simp only [if_true]; exact Ev.now _
  by_cases c1 : N < 1
  · simp only [if_pos c1]; exact wrong (by omega)
  by_cases c2 : N > 7
  · simp only [if_neg c1, if_pos c2]; exact wrong (by omega)
  by_cases c3 : K < 1
  · simp only [if_neg c1, if_neg c2, if_pos c3]; exact wrong (by omega)
  simp only [if_neg c1, if_neg c2, if_neg c3]
  by_cases c4 : K > 3
  · simp only [c4, decide_true]; exact wrong (by omega)
  · simp only [c4, decide_false]
    unfold machCode; rw [if_neg (by omega)]
    refine Ev.step (fun k => machine_Check.j0.eq_2 _ _ _ _ _ _ k) ?_
    simp only [Bool.false_eq_true, if_false]
    by_cases c5 : (next.length : Int) = N
    · simp only [if_pos c5, mchk1, Option.bind_some]
      refine Ev.step (fun k => machine_Check.j1.eq_2 _ _ _ _ _ _ k) ?_
      by_cases c6 : (next.any fun l => decide ((l.length : Int) ≠ K)) = true
      · simp only [if_pos c6]; exact Ev.val (by rw [if_pos (.inr c6)])
      · simp only [if_neg c6]
        have hrows : ∀ x ∈ next, (x.length : Int) = K := by
          intro x hx
          simp only [List.any_eq_true, not_exists, not_and, decide_eq_true_eq, Classical.not_not] at c6
          exact c6 x hx
        have hfl := flat_len K (by omega) next hrows
        have h21 : next.flatten.length ≤ 21 := by
          have : (next.length : Int) * K ≤ 7 * 3 := Int.mul_le_mul (by omega) (by omega) (by omega) (by omega)
          omega
        refine Ev.bind (Concat_ev next (by omega) (by omega)) ?_
        have hlim : next.flatten.length + ([st] : List Int).length < 17592186044416 := by simp only [List.length_singleton]; omega
        simp only [Option.bind_some, if_pos hlim]
        have := check_l0 N K next st f (by omega) (by omega) hf0 (next.flatten ++ [st]) (by simp only [List.length_append, List.length_singleton]; omega) (next.flatten ++ [st]).length 0 (by omega) (by omega)
        rw [Int.toNat_zero, List.drop_zero] at this
        refine Ev.congr (fun _ => rfl) ?_
        have e : ((next.flatten ++ [st]).any fun x => decide (bad N x)) = true ↔ ((next.flatten.any fun x => decide (bad N x)) = true ∨ bad N st) := by simp [List.any_append]
        rw [if_neg (fun h => h.elim (fun a => a c5) c6)]
        simp only [e] at this
        exact this
    · simp only [if_neg c5]
      refine Ev.step (fun k => machine_Check.j1.eq_2 _ _ _ _ _ _ k) ?_
      simp only [if_true]
      exact Ev.val (by rw [if_pos (.inl c5)])
theorem rmach_j4 (N K : Int) (next : List (List Int)) (st f : Int) (hN0 : 1 ≤ N) (hN1 : N ≤ 7) (b : Bool) : Ev (fun k => coppicerref_MachineCheck.j4 k b N K next st f) (if b = true then 2 else if f ≥ 2 ^ N.toNat then 4 else 0) := by
  refine Ev.step (fun k => coppicerref_MachineCheck.j4.eq_2 _ _ _ _ _ _ k) ?_
  cases b with
  | true => simp only [if_true]; exact Ev.now _
  | false =>
    obtain ⟨n, rfl⟩ := Int.eq_ofNat_of_zero_le (show 0 ≤ N by omega)
    have e : ((2 : Int) ^ n) = ((2 ^ n : Nat) : Int) := by simp
    simp (disch := omega) only [Bool.false_eq_true, if_false, u64_id, if_pos (show 0 ≤ (n : Int) by omega), shl1 n (by omega), Int.toNat_natCast, e]
    by_cases q : f ≥ ((2 ^ n : Nat) : Int)
    · simp only [if_pos q]; exact Ev.now _
    · simp only [if_neg q]; exact Ev.now _
theorem rmach_l2 (N K : Int) (next : List (List Int)) (st f : Int) (R : Int) (all : List (List Int)) (n j : Int) (row : List Int) (hl : row.length ≤ 60) (hbad : (row.any fun x => decide (bad N x)) = true → R = 2) (hok : ¬ (row.any fun x => decide (bad N x)) = true → Ev (fun k => coppicerref_MachineCheck.l1 k all n (wrap64 (j + 1)) N K next st f) R) (d : Nat) : ∀ i : Int, 0 ≤ i → i + d = row.length → ((row.any fun x => decide (bad N x)) = true ↔ ((row.drop i.toNat).any fun x => decide (bad N x)) = true) →
    Ev (fun k => coppicerref_MachineCheck.l2 k all n j row (row.length : Int) i N K next st f) R := by
  induction d with
  | zero =>
    intro i h0 hd he
    refine Ev.step (fun k => coppicerref_MachineCheck.l2.eq_2 _ _ _ _ _ _ _ _ _ _ _ k) ?_
    simp (disch := omega) only [if_neg (show ¬ i < (row.length : Int) by omega)]
    rw [drop_all row _ (by omega)] at he
    exact hok (fun h => by simpa using he.1 h)
  | succ d ih =>
    intro i h0 hd he
    refine Ev.step (fun k => coppicerref_MachineCheck.l2.eq_2 _ _ _ _ _ _ _ _ _ _ _ k) ?_
    rw [drop_rd h0 (by omega)] at he
    simp (disch := omega) only [if_pos (show i < (row.length : Int) by omega), if_pos h0, w64]
    by_cases a : rd row i < 0
    · simp only [if_pos a]; exact Ev.val (hbad (he.2 (by simp [a]))).symm
    · by_cases b : rd row i ≥ N
      · simp only [if_neg a, if_pos b]; exact Ev.val (hbad (he.2 (by simp [b]))).symm
      · simp only [if_neg a, if_neg b]
        exact ih (i + 1) (by omega) (by omega) (by rw [he]; simp [a, b])
theorem rmach_l1 (N K : Int) (next : List (List Int)) (st f : Int) (hN0 : 1 ≤ N) (hN1 : N ≤ 7) (all : List (List Int)) (ha : all.length ≤ 60) (hrow : ∀ x ∈ all, x.length ≤ 60) (d : Nat) : ∀ i : Int, 0 ≤ i → i + d = all.length →
    Ev (fun k => coppicerref_MachineCheck.l1 k all (all.length : Int) i N K next st f) (if ((all.drop i.toNat).flatten.any fun x => decide (bad N x)) = true ∨ bad N st then 2 else if f ≥ 2 ^ N.toNat then 4 else 0) := by
  induction d with
  | zero =>
    intro i h0 hd
    refine Ev.step (fun k => coppicerref_MachineCheck.l1.eq_2 _ _ _ _ _ _ _ _ k) ?_
    simp (disch := omega) only [if_neg (show ¬ i < (all.length : Int) by omega)]
    rw [List.drop_eq_nil_of_le (by omega)]
    by_cases a : st < 0
    · simp only [if_pos a]
      have := rmach_j4 N K next st f hN0 hN1 true
      rw [if_pos rfl] at this
      rw [if_pos (.inr (.inl a))]; exact this
    · simp only [if_neg a]
      have := rmach_j4 N K next st f hN0 hN1 (decide (st ≥ N))
      by_cases b : st ≥ N
      · rw [if_pos (decide_eq_true b)] at this
        rw [if_pos (.inr (.inr b))]; exact this
      · rw [if_neg (by simpa using b)] at this
        rw [if_neg (by simp [bad]; omega)]; exact this
  | succ d ih =>
    intro i h0 hd
    refine Ev.step (fun k => coppicerref_MachineCheck.l1.eq_2 _ _ _ _ _ _ _ _ k) ?_
    rw [drop_rdL h0 (by omega), List.flatten_cons]
    simp (disch := omega) only [if_pos (show i < (all.length : Int) by omega), if_pos h0]
    refine rmach_l2 N K next st f _ all _ i _ (hrow _ (rdL_mem h0 (by omega))) ?_ ?_ (rd_L1 all i).length 0 (by omega) (by omega) (by simp)
    · intro h
      rw [if_pos (.inl (by rw [List.any_append, h]; rfl))]
    · intro h
      have h' : ((rd_L1 all i).any fun x => decide (bad N x)) = false := by simpa using h
      rw [List.any_append, h', Bool.false_or, w64 (by omega) (by omega)]
      exact ih (i + 1) (by omega) (by omega)
theorem rmach_l0 (N K : Int) (st f : Int) (hN0 : 1 ≤ N) (hN1 : N ≤ 7) (hK : 1 ≤ K ∧ K ≤ 3) (next : List (List Int)) (hn : next.length ≤ 60) (d : Nat) : ∀ i : Int, 0 ≤ i → i + d = next.length → (∀ x ∈ next, ((x.length : Int) = K ∨ x ∈ next.drop i.toNat)) →
    Ev (fun k => coppicerref_MachineCheck.l0 k next (next.length : Int) i N K next st f) (if ((next.drop i.toNat).any fun l => decide ((l.length : Int) ≠ K)) = true then 3 else if (next.flatten.any fun x => decide (bad N x)) = true ∨ bad N st then 2 else if f ≥ 2 ^ N.toNat then 4 else 0) := by
  induction d with
  | zero =>
    intro i h0 hd hr
    refine Ev.step (fun k => coppicerref_MachineCheck.l0.eq_2 _ _ _ _ _ _ _ _ k) ?_
    simp (disch := omega) only [if_neg (show ¬ i < (next.length : Int) by omega)]
    rw [List.drop_eq_nil_of_le (by omega)] at hr ⊢
    rw [if_neg (by simp)]
    have := rmach_l1 N K next st f hN0 hN1 next hn (fun x hx => by
      rcases hr x hx with q | q
      · omega
      · simp at q) next.length 0 (by omega) (by omega)
    simpa using this
  | succ d ih =>
    intro i h0 hd hr
    refine Ev.step (fun k => coppicerref_MachineCheck.l0.eq_2 _ _ _ _ _ _ _ _ k) ?_
    rw [drop_rdL h0 (by omega)] at hr ⊢
    simp (disch := omega) only [if_pos (show i < (next.length : Int) by omega), if_pos h0, w64]
    by_cases c : ((rd_L1 next i).length : Int) = K
    · simp only [if_pos c]
      have := ih (i + 1) (by omega) (by omega) (fun x hx => by
        rcases hr x hx with q | q
        · exact .inl q
        · rcases List.mem_cons.1 q with q | q
          · rw [q]; exact .inl c
          · exact .inr q)
      rw [List.any_cons, show decide (((rd_L1 next i).length : Int) ≠ K) = false from by simp [c], Bool.false_or]
      exact this
    · simp only [if_neg c]
      exact Ev.val (by rw [if_pos (by simp [c])])
theorem rmach_ev (N K : Int) (next : List (List Int)) (st f : Int) : Ev (fun k => coppicerref_MachineCheck.f k N K next st f) (machCode N K next st f) := by
  unfold coppicerref_MachineCheck.f
  have wrong : (N < 1 ∨ N > 7 ∨ K < 1 ∨ K > 3) → Ev (fun k => coppicerref_MachineCheck.j0 k true N K next st f) (machCode N K next st f) := by
    intro h
    unfold machCode; rw [if_pos h]
    refine Ev.step (fun k => coppicerref_MachineCheck.j0.eq_2 _ _ _ _ _ _ k) ?_
    simp only [if_true]; exact Ev.now _
  by_cases c1 : N < 1
  · simp only [if_pos c1]; exact wrong (by omega)
  by_cases c2 : N > 7
  · simp only [if_neg c1, if_pos c2]; exact wrong (by omega)
  by_cases c3 : K < 1
  · simp only [if_neg c1, if_neg c2, if_pos c3]; exact wrong (by omega)
  simp only [if_neg c1, if_neg c2, if_neg c3]
  by_cases c4 : K > 3
  · simp only [c4, decide_true]; exact wrong (by omega)
  · simp only [c4, decide_false]
    unfold machCode; rw [if_neg (by omega)]
    refine Ev.step (fun k => coppicerref_MachineCheck.j0.eq_2 _ _ _ _ _ _ k) ?_
    simp only [Bool.false_eq_true, if_false]
    by_cases c5 : (next.length : Int) = N
    · simp only [if_pos c5]
      have := rmach_l0 N K st f (by omega) (by omega) ⟨by omega, by omega⟩ next (by omega) next.length 0 (by omega) (by omega) (fun x hx => .inr (by simpa using hx))
      rw [Int.toNat_zero, List.drop_zero] at this
      by_cases c6 : (next.any fun l => decide ((l.length : Int) ≠ K)) = true
      · rw [if_pos c6] at this
        rw [if_pos (.inr c6)]; exact this
      · rw [if_neg c6] at this
        rw [if_neg (fun h => h.elim (fun a => a c5) c6)]; exact this
    · simp only [if_neg c5]
      exact Ev.val (by rw [if_pos (.inl c5)])
def okMach (N K : Int) (next : List (List Int)) : Prop := (next.length : Int) = N ∧ ∀ row ∈ next, (row.length : Int) = K ∧ ∀ x ∈ row, 0 ≤ x ∧ x < N
theorem machCode_0 {N K : Int} {next : List (List Int)} {st f : Int} (h : machCode N K next st f = 0) : 1 ≤ N ∧ N ≤ 7 ∧ 1 ≤ K ∧ K ≤ 3 ∧ okMach N K next ∧ 0 ≤ st ∧ st < N ∧ f < 2 ^ N.toNat := by
  unfold machCode at h
  by_cases c : N < 1 ∨ N > 7 ∨ K < 1 ∨ K > 3
  · rw [if_pos c] at h; omega
  rw [if_neg c] at h
  by_cases c2 : (next.length : Int) ≠ N ∨ (next.any fun l => decide ((l.length : Int) ≠ K)) = true
  · rw [if_pos c2] at h; omega
  rw [if_neg c2] at h
  by_cases c3 : (next.flatten.any fun x => decide (bad N x)) = true ∨ bad N st
  · rw [if_pos c3] at h; omega
  rw [if_neg c3] at h
  by_cases c4 : f ≥ 2 ^ N.toNat
  · rw [if_pos c4] at h; omega
  simp only [not_or, Classical.not_not, List.any_eq_true, not_exists, not_and, decide_eq_true_eq] at c2 c3
  refine ⟨by omega, by omega, by omega, by omega, ⟨c2.1, fun row hr => ⟨c2.2 row hr, fun x hx => ?_⟩⟩, ?_, ?_, by omega⟩
  · have := c3.1 x (List.mem_flatten.2 ⟨row, hr, hx⟩)
    omega
  · have := c3.2; omega
  · have := c3.2; omega
def mto (next : List (List Int)) (s c : Int) : Int := rd (rd_L1 next s) c
def mrun (next : List (List Int)) : Int → List Int → Int
  | s, [] => s
  | s, c :: w => mrun next (mto next s c) w
theorem okMach.row {N K : Int} {next : List (List Int)} (h : okMach N K next) {s : Int} (h0 : 0 ≤ s) (h1 : s < N) : ((rd_L1 next s).length : Int) = K ∧ s < next.length := by
  have hl : s < next.length := by have := h.1; omega
  exact ⟨(h.2 _ (rdL_mem h0 hl)).1, hl⟩
theorem okMach.to {N K : Int} {next : List (List Int)} (h : okMach N K next) {s c : Int} (h0 : 0 ≤ s) (h1 : s < N) (c0 : 0 ≤ c) (c1 : c < K) : 0 ≤ mto next s c ∧ mto next s c < N := by
  have hl : s < next.length := by have := h.1; omega
  have hr := h.2 _ (rdL_mem h0 hl)
  exact hr.2 _ (rd_mem c0 (by omega))
theorem okMach.run {N K : Int} {next : List (List Int)} (h : okMach N K next) : ∀ (w : List Int) (s : Int), 0 ≤ s → s < N → (∀ c ∈ w, 0 ≤ c ∧ c < K) → 0 ≤ mrun next s w ∧ mrun next s w < N
  | [], s, h0, h1, _ => ⟨h0, h1⟩
  | c :: w, s, h0, h1, hw => by
    have hc := hw c (by simp)
    have := h.to h0 h1 hc.1 hc.2
    exact h.run w _ this.1 this.2 (fun x hx => hw x (by simp [hx]))
theorem Lists_refl_l0 (a : List (List Int)) (ha : a.length ≤ 4611686018427387904) (hr : ∀ x ∈ a, x.length ≤ 4611686018427387904) (d : Nat) : ∀ i : Int, 0 ≤ i → i + d = a.length → Ev (fun k => coppicerref_Lists.l0 k a a i) true := by
  induction d with
  | zero =>
    intro i h0 hd
    refine Ev.step (fun k => coppicerref_Lists.l0.eq_2 _ _ _ k) ?_
    simp (disch := omega) only [if_neg]; exact Ev.now _
  | succ d ih =>
    intro i h0 hd
    refine Ev.step (fun k => coppicerref_Lists.l0.eq_2 _ _ _ k) ?_
    simp (disch := omega) only [if_pos, w64]
    refine Ev.bind (Ints_ev _ _ (by have := hr _ (rdL_mem h0 (show i < a.length by omega)); omega)) ?_
    simp only [decide_true, if_true]
    exact ih (i + 1) (by omega) (by omega)
theorem Lists_refl (a : List (List Int)) (ha : a.length ≤ 4611686018427387904) (hr : ∀ x ∈ a, x.length ≤ 4611686018427387904) : Ev (fun k => coppicerref_Lists.f k a a) true := by
  unfold coppicerref_Lists.f
  simp only [if_true]
  exact Lists_refl_l0 a ha hr a.length 0 (by omega) (by omega)
theorem Same_refl (N K : Int) (next : List (List Int)) (st f : Int) (ha : next.length ≤ 4611686018427387904) (hr : ∀ x ∈ next, x.length ≤ 4611686018427387904) : Ev (fun k => coppicerref_MachineSame.f k N K next st f N K next st f) true := by
  unfold coppicerref_MachineSame.f
  simp only [if_true]
  exact Ev.bind (Lists_refl next ha hr) (Ev.now _)
theorem Zero_ev : Ev (fun k => coppicerref_Zero.f k 0 0 [] 0 0) true := by
  unfold coppicerref_Zero.f
  exact Ev.bind (Same_refl 0 0 [] 0 0 (by simp) (by simp)) (Ev.now _)
theorem drop_rdW {l : List (List (List Int))} {i : Int} (h0 : 0 ≤ i) (h1 : i < l.length) : l.drop i.toNat = rd_L2 l i :: l.drop (i + 1).toNat := by
  have h : i.toNat < l.length := by omega
  have e : rd_L2 l i = l[i.toNat] := by simp [rd_L2, List.getD_eq_getElem?_getD, List.getElem?_eq_getElem h]
  rw [e, List.drop_eq_getElem_cons h]; congr 2; omega
theorem rdW_mem {l : List (List (List Int))} {i : Int} (h0 : 0 ≤ i) (h1 : i < l.length) : rd_L2 l i ∈ l := by
  have h : i.toNat < l.length := by omega
  have e : rd_L2 l i = l[i.toNat] := by simp [rd_L2, List.getD_eq_getElem?_getD, List.getElem?_eq_getElem h]
  rw [e]; exact List.getElem_mem _
theorem ConcatW_l1 (l : List (List (List Int))) (hl : l.length ≤ 4611686018427387904) (R : List (List Int)) (hR : R.length < 5864062014805) (d : Nat) : ∀ (i : Int) (acc : List (List Int)), 0 ≤ i → i + d = l.length → acc ++ (l.drop i.toNat).flatten = R →
    Ev (fun k => slices_Concat_SSint_Sint.l1 k acc l (l.length : Int) i) R := by
  induction d with
  | zero =>
    intro i acc h0 hd h
    refine Ev.step (fun k => slices_Concat_SSint_Sint.l1.eq_2 _ _ _ _ k) ?_
    simp (disch := omega) only [if_neg]
    rw [List.drop_eq_nil_of_le (by omega)] at h
    exact Ev.val (by simpa using h)
  | succ d ih =>
    intro i acc h0 hd h
    refine Ev.step (fun k => slices_Concat_SSint_Sint.l1.eq_2 _ _ _ _ k) ?_
    rw [drop_rdW h0 (by omega), List.flatten_cons, ← List.append_assoc] at h
    have hlen : acc.length + (rd_L2 l i).length ≤ R.length := by
      rw [← h]; simp only [List.length_append]; omega
    simp (disch := omega) only [if_pos, w64]
    exact ih (i + 1) _ (by omega) (by omega) h
theorem ConcatW_l0 (l : List (List (List Int))) (hl : l.length ≤ 4611686018427387904) (hR : l.flatten.length < 5864062014805) (d : Nat) : ∀ (i s : Int), 0 ≤ i → i + d = l.length → 0 ≤ s → s + (l.drop i.toNat).flatten.length = l.flatten.length →
    Ev (fun k => slices_Concat_SSint_Sint.l0 k l s l (l.length : Int) i) l.flatten := by
  induction d with
  | zero =>
    intro i s h0 hd hs h
    refine Ev.step (fun k => slices_Concat_SSint_Sint.l0.eq_2 _ _ _ _ _ k) ?_
    rw [List.drop_eq_nil_of_le (by omega)] at h
    simp only [List.flatten_nil, List.length_nil] at h
    simp (disch := omega) only [if_neg, slices_Grow_SSint_Sint.f, if_pos, Option.bind_some]
    exact ConcatW_l1 l hl _ hR l.length 0 [] (by omega) (by omega) (by simp)
  | succ d ih =>
    intro i s h0 hd hs h
    refine Ev.step (fun k => slices_Concat_SSint_Sint.l0.eq_2 _ _ _ _ _ k) ?_
    rw [drop_rdW h0 (by omega), List.flatten_cons, List.length_append] at h
    simp (disch := omega) only [if_pos, if_neg, w64]
    exact ih (i + 1) _ (by omega) (by omega) (by omega) (by omega)
theorem ConcatW_ev (l : List (List (List Int))) (hl : l.length ≤ 4611686018427387904) (hR : l.flatten.length < 5864062014805) : Ev (fun k => slices_Concat_SSint_Sint.f k l) l.flatten := by
  unfold slices_Concat_SSint_Sint.f
  exact ConcatW_l0 l hl hR l.length 0 0 (by omega) (by omega) (by omega) (by simp)
theorem flat_le (m : Nat) {α : Type} : ∀ l : List (List α), (∀ x ∈ l, x.length ≤ m) → l.flatten.length ≤ l.length * m
  | [], _ => by simp
  | x :: l, h => by
    have := flat_le m l (fun y hy => h y (by simp [hy]))
    have hx := h x (by simp)
    rw [List.flatten_cons, List.length_append, List.length_cons, Nat.succ_mul]; omega
def badB (N x : Int) : Bool := decide (x < 0) || decide (x ≥ N)
def rowBad (K : Int) (next : List (List Int)) (out : List (List (List Int))) (i : Nat) : Bool := decide (((rd_L1 next i).length : Int) ≠ K) || decide (((rd_L2 out i).length : Int) ≠ K)
def tcode (N K L : Int) (next : List (List Int)) (out : List (List (List Int))) (st : Int) : Int :=
  if N < 1 ∨ N > 7 ∨ K < 1 ∨ K > 3 ∨ L < 1 ∨ L > 3 then 1
  else if (next.length : Int) ≠ N ∨ (out.length : Int) ≠ N then 3
  else if (List.range N.toNat).any (rowBad K next out) = true then 3
  else if (out.flatten.any fun w => decide ((w.length : Int) > 4)) = true then 1
  else if (next.flatten.any (badB N) || badB N st || out.flatten.flatten.any (badB L)) = true then 2 else 0
structure TOK (N K L : Int) (next : List (List Int)) (out : List (List (List Int))) : Prop where
  N0 : 1 ≤ N
  N1 : N ≤ 7
  K0 : 1 ≤ K
  K1 : K ≤ 3
  L0 : 1 ≤ L
  L1 : L ≤ 3
  nl : (next.length : Int) = N
  ol : (out.length : Int) = N
  nr : ∀ r ∈ next, (r.length : Int) = K
  orr : ∀ r ∈ out, (r.length : Int) = K
theorem range_cons {n : Nat} {i : Int} (h0 : 0 ≤ i) (h1 : i < ((List.range n).length : Nat)) : (List.range n).drop i.toNat = i.toNat :: (List.range n).drop (i + 1).toNat := by
  have h : i.toNat < (List.range n).length := by omega
  rw [List.drop_eq_getElem_cons h, List.getElem_range]; congr 2; omega
theorem rows_ok {N K L : Int} {next : List (List Int)} {out : List (List (List Int))} (c : ¬ (N < 1 ∨ N > 7 ∨ K < 1 ∨ K > 3 ∨ L < 1 ∨ L > 3)) (c1 : (next.length : Int) = N) (c2 : (out.length : Int) = N)
    (h : (List.range N.toNat).any (rowBad K next out) = false) : TOK N K L next out := by
  have hr : ∀ i : Nat, i < N.toNat → ((rd_L1 next i).length : Int) = K ∧ ((rd_L2 out i).length : Int) = K := by
    intro i hi
    have := List.any_eq_false.1 h i (List.mem_range.2 hi)
    unfold rowBad at this
    simp only [Bool.or_eq_true, decide_eq_true_eq, not_or, Decidable.not_not] at this
    exact this
  refine ⟨by omega, by omega, by omega, by omega, by omega, by omega, c1, c2, ?_, ?_⟩
  · intro r hm
    obtain ⟨i, hi, rfl⟩ := List.mem_iff_getElem.1 hm
    have e : rd_L1 next i = next[i] := by simp [rd_L1, List.getD_eq_getElem?_getD, List.getElem?_eq_getElem hi]
    rw [← e]; exact (hr i (by omega)).1
  · intro r hm
    obtain ⟨i, hi, rfl⟩ := List.mem_iff_getElem.1 hm
    have e : rd_L2 out i = out[i] := by simp [rd_L2, List.getD_eq_getElem?_getD, List.getElem?_eq_getElem hi]
    rw [← e]; exact (hr i (by omega)).2
section
variable (N K L : Int) (next : List (List Int)) (out : List (List (List Int))) (st : Int)
theorem tcheck_l2 (all : List Int) (hl : all.length ≤ 1000) : Ev (fun k => turner_Check.l2 k all (all.length : Int) 0 N K L next out st) (if all.any (badB L) = true then 2 else 0) := by
  refine Ev.firstBad (L := fun k i => turner_Check.l2 k all (all.length : Int) i N K L next out st) (rdf := rd all) (fun i h0 h1 => rd_cons h0 h1) ?_ ?_ ?_
  · intro _
    refine Ev.step (fun k => turner_Check.l2.eq_2 _ _ _ _ _ _ _ _ _ k) ?_
    simp (disch := omega) only [if_neg]; exact Ev.now _
  · intro i h0 h1 hb
    refine Ev.step (fun k => turner_Check.l2.eq_2 _ _ _ _ _ _ _ _ _ k) ?_
    simp (disch := omega) only [if_pos]
    unfold badB at hb
    by_cases c : rd all i < 0
    · simp only [if_pos c]; exact Ev.now _
    · simp only [if_neg c, if_pos (show rd all i ≥ L by simpa [c] using hb)]; exact Ev.now _
  · intro i r h0 h1 hb hr
    refine Ev.step (fun k => turner_Check.l2.eq_2 _ _ _ _ _ _ _ _ _ k) ?_
    unfold badB at hb
    simp only [Bool.or_eq_false_iff, decide_eq_false_iff_not] at hb
    simp (disch := omega) only [if_pos, if_neg, w64]; exact hr
theorem tcheck_l1 (ws : List (List Int)) (all : List Int) (hl : all.length ≤ 1000) (hws : ws.length ≤ 1000) (hfl : ws.flatten.length ≤ 1000) : Ev (fun k => turner_Check.l1 k ws all (all.length : Int) 0 N K L next out st) (if all.any (badB N) = true then 2 else if ws.flatten.any (badB L) = true then 2 else 0) := by
  refine Ev.firstBad (L := fun k i => turner_Check.l1 k ws all (all.length : Int) i N K L next out st) (rdf := rd all) (fun i h0 h1 => rd_cons h0 h1) ?_ ?_ ?_
  · intro _
    refine Ev.step (fun k => turner_Check.l1.eq_2 _ _ _ _ _ _ _ _ _ _ k) ?_
    simp (disch := omega) only [if_neg]
    exact Ev.bind (Concat_ev ws (by omega) (by omega)) (tcheck_l2 N K L next out st _ hfl)
  · intro i h0 h1 hb
    refine Ev.step (fun k => turner_Check.l1.eq_2 _ _ _ _ _ _ _ _ _ _ k) ?_
    simp (disch := omega) only [if_pos]
    unfold badB at hb
    by_cases c : rd all i < 0
    · simp only [if_pos c]; exact Ev.now _
    · simp only [if_neg c, if_pos (show rd all i ≥ N by simpa [c] using hb)]; exact Ev.now _
  · intro i r h0 h1 hb hr
    refine Ev.step (fun k => turner_Check.l1.eq_2 _ _ _ _ _ _ _ _ _ _ k) ?_
    unfold badB at hb
    simp only [Bool.or_eq_false_iff, decide_eq_false_iff_not] at hb
    simp (disch := omega) only [if_pos, if_neg, w64]; exact hr
theorem tcheck_l0 (c : ¬ (N < 1 ∨ N > 7 ∨ K < 1 ∨ K > 3 ∨ L < 1 ∨ L > 3)) (c1 : (next.length : Int) = N) (c2 : (out.length : Int) = N) :
    Ev (fun k => turner_Check.l0 k N 0 N K L next out st) (if (List.range N.toNat).any (rowBad K next out) = true then 3 else if (out.flatten.any fun w => decide ((w.length : Int) > 4)) = true then 1
      else if (next.flatten.any (badB N) || badB N st || out.flatten.flatten.any (badB L)) = true then 2 else 0) := by
  have hN : (((List.range N.toNat).length : Nat) : Int) = N := by rw [List.length_range]; omega
  refine Ev.firstBad (L := fun k i => turner_Check.l0 k N i N K L next out st) (rdf := fun i => i.toNat) (l := List.range N.toNat) (fun i h0 h1 => range_cons h0 h1) ?_ ?_ ?_
  · intro hb
    have T := rows_ok c c1 c2 hb
    have h1 : out.flatten.length ≤ 21 := by
      have := flat_le 3 out (fun x hx => by have := T.orr x hx; omega)
      omega
    have h2 : next.flatten.length ≤ 21 := by
      have := flat_le 3 next (fun x hx => by have := T.nr x hx; omega)
      omega
    refine Ev.step (fun k => turner_Check.l0.eq_2 _ _ _ _ _ _ _ _ k) ?_
    rw [hN]
    simp (disch := omega) only [if_neg (show ¬ N < N by omega)]
    refine Ev.bind (ConcatW_ev out (by omega) (by omega)) ?_
    have e : turner_Check_1_any.f out.flatten = some (out.flatten.any fun w => decide ((w.length : Int) > 4)) := anyO_some _ _
    simp only [e, Option.bind_some]
    cases c4 : (out.flatten.any fun w => decide ((w.length : Int) > 4)) with
    | true => simp only [if_true]; exact Ev.now _
    | false =>
      have hw : ∀ w ∈ out.flatten, w.length ≤ 4 := by
        intro w hw
        have := List.any_eq_false.1 c4 w hw
        simp only [decide_eq_true_eq] at this; omega
      have h3 := flat_le 4 out.flatten hw
      simp only [Bool.false_eq_true, if_false]
      refine Ev.bind (Concat_ev next (by omega) (by omega)) ?_
      have hlim : next.flatten.length + ([st] : List Int).length < 17592186044416 := by simp only [List.length_singleton]; omega
      simp only [Option.bind_some, if_pos hlim]
      have := tcheck_l1 N K L next out st out.flatten (next.flatten ++ [st]) (by simp only [List.length_append, List.length_singleton]; omega) (by omega) (by omega)
      refine Ev.congr (fun _ => rfl) ?_
      have e2 : (next.flatten ++ [st]).any (badB N) = (next.flatten.any (badB N) || badB N st) := by simp [List.any_append]
      rw [e2] at this
      cases q : (next.flatten.any (badB N) || badB N st) with
      | true => rw [q] at this; simpa using this
      | false => rw [q] at this; simpa using this
  · intro i h0 h1 hb
    rw [hN] at h1
    refine Ev.step (fun k => turner_Check.l0.eq_2 _ _ _ _ _ _ _ _ k) ?_
    unfold rowBad at hb
    rw [show ((i.toNat : Nat) : Int) = i by omega] at hb
    simp (disch := omega) only [if_pos]
    by_cases d1 : ((rd_L1 next i).length : Int) = K
    · have d2 : ¬ ((rd_L2 out i).length : Int) = K := by simpa [d1] using hb
      simp only [if_pos d1, if_neg d2]; exact Ev.now _
    · simp only [if_neg d1]; exact Ev.now _
  · intro i r h0 h1 hb hr
    rw [hN] at h1
    refine Ev.step (fun k => turner_Check.l0.eq_2 _ _ _ _ _ _ _ _ k) ?_
    unfold rowBad at hb
    rw [show ((i.toNat : Nat) : Int) = i by omega] at hb
    simp only [Bool.or_eq_false_iff, decide_eq_false_iff_not, Decidable.not_not] at hb
    simp (disch := omega) only [if_pos, w64, if_pos hb.1, if_pos hb.2]; exact hr
end
theorem tcode_bad {N K L : Int} {next : List (List Int)} {out : List (List (List Int))} {st : Int} (h : N < 1 ∨ N > 7 ∨ K < 1 ∨ K > 3 ∨ L < 1 ∨ L > 3) : tcode N K L next out st = 1 := by unfold tcode; rw [if_pos h]
theorem tcode_len {N K L : Int} {next : List (List Int)} {out : List (List (List Int))} {st : Int} (h : ¬ (N < 1 ∨ N > 7 ∨ K < 1 ∨ K > 3 ∨ L < 1 ∨ L > 3)) (h2 : (next.length : Int) ≠ N ∨ (out.length : Int) ≠ N) : tcode N K L next out st = 3 := by unfold tcode; rw [if_neg h, if_pos h2]
theorem tcheck_ev (N K L : Int) (next : List (List Int)) (out : List (List (List Int))) (st : Int) : Ev (fun k => turner_Check.f k N K L next out st) (tcode N K L next out st) := by
  unfold turner_Check.f
  have wrong : (N < 1 ∨ N > 7 ∨ K < 1 ∨ K > 3 ∨ L < 1 ∨ L > 3) → Ev (fun k => turner_Check.j0 k true N K L next out st) (tcode N K L next out st) := by
    intro h
    rw [tcode_bad h]
    refine Ev.step (fun k => turner_Check.j0.eq_2 _ _ _ _ _ _ _ k) ?_
    simp only [if_true]; exact Ev.now _
  have m1 : mn K L < 1 ↔ (K < 1 ∨ L < 1) := by unfold mn; split <;> omega
  have m2 : mx K L > 3 ↔ (K > 3 ∨ L > 3) := by unfold mx; split <;> omega
  by_cases c1 : N < 1
  · simp only [if_pos c1]; exact wrong (by omega)
  by_cases c2 : N > 7
  · simp only [if_neg c1, if_pos c2]; exact wrong (by omega)
  by_cases c3 : mn K L < 1
  · simp only [if_neg c1, if_neg c2, if_pos c3]; exact wrong (by omega)
  simp only [if_neg c1, if_neg c2, if_neg c3]
  by_cases c4 : mx K L > 3
  · simp only [decide_eq_true c4]; exact wrong (by omega)
  · simp only [decide_eq_false c4]
    have c : ¬ (N < 1 ∨ N > 7 ∨ K < 1 ∨ K > 3 ∨ L < 1 ∨ L > 3) := by omega
    refine Ev.step (fun k => turner_Check.j0.eq_2 _ _ _ _ _ _ _ k) ?_
    simp only [Bool.false_eq_true, if_false]
    have long : (next.length : Int) ≠ N ∨ (out.length : Int) ≠ N → Ev (fun k => turner_Check.j1 k true N K L next out st) (tcode N K L next out st) := by
      intro h
      rw [tcode_len c h]
      refine Ev.step (fun k => turner_Check.j1.eq_2 _ _ _ _ _ _ _ k) ?_
      simp only [if_true]; exact Ev.now _
    by_cases d1 : (next.length : Int) = N
    · simp only [if_pos d1]
      by_cases d2 : (out.length : Int) = N
      · rw [show ((out.length : Int) != N) = false by simp [d2]]
        refine Ev.step (fun k => turner_Check.j1.eq_2 _ _ _ _ _ _ _ k) ?_
        simp only [Bool.false_eq_true, if_false]
        unfold tcode
        rw [if_neg c, if_neg (by omega)]
        exact tcheck_l0 N K L next out st c d1 d2
      · rw [show ((out.length : Int) != N) = true by simp [d2]]; exact long (.inr d2)
    · simp only [if_neg d1]; exact long (.inl d1)
section
variable (N K L : Int) (next : List (List Int)) (out : List (List (List Int))) (st : Int) (T : TOK N K L next out) (h4 : ∀ w ∈ out.flatten, w.length ≤ 4)
include T
include h4
theorem rturn_l3 (R : Bool) (d : Nat) : ∀ (i : Int) (b : Bool), 0 ≤ i → i + d = N → R = (b || ((next.drop i.toNat).flatten.any (badB N) || (out.drop i.toNat).flatten.flatten.any (badB L))) →
    Ev (fun k => coppicerref_TurnerCheck.l3 k b i N K L next out st) (if R = true then 2 else 0) := by
  have hN0 := T.N0; have hN1 := T.N1; have hK1 := T.K1; have hnl := T.nl; have hol := T.ol; have hK0 := T.K0
  induction d with
  | zero =>
    intro i b h0 h1 hR
    refine Ev.step (fun k => coppicerref_TurnerCheck.l3.eq_2 _ _ _ _ _ _ _ _ k) ?_
    rw [List.drop_eq_nil_of_le (by omega), List.drop_eq_nil_of_le (by omega)] at hR
    simp only [List.flatten_nil, List.any_nil, Bool.or_false] at hR
    subst hR
    simp (disch := omega) only [if_neg (show ¬ i < N by omega)]
    cases R <;> simp only [if_true, Bool.false_eq_true, if_false] <;> exact Ev.now _
  | succ d ih =>
    intro i b h0 h1 hR
    refine Ev.step (fun k => coppicerref_TurnerCheck.l3.eq_2 _ _ _ _ _ _ _ _ k) ?_
    simp (disch := omega) only [if_pos (show i < N by omega)]
    have hi1 : i < next.length := by omega
    have hi2 : i < out.length := by omega
    have m1 := T.nr _ (rdL_mem h0 hi1)
    have m2 := T.orr _ (rdW_mem h0 hi2)
    rw [drop_rdL h0 hi1, drop_rdW h0 hi2, List.flatten_cons, List.flatten_cons, List.flatten_append, List.any_append, List.any_append] at hR
    refine Ev.loop (L := fun k s (b : Bool) => coppicerref_TurnerCheck.l4 k b i s N K L next out st) (n := K) (fun s b => R = (b || (((rd_L1 next i).drop s.toNat).any (badB N) || (((rd_L2 out i).drop s.toNat).flatten.any (badB L) || ((next.drop (i + 1).toNat).flatten.any (badB N) || (out.drop (i + 1).toNat).flatten.flatten.any (badB L)))))) ?_ ?_ 0 b (Int.le_refl _) (by omega) (by rw [hR]; simp only [Int.toNat_zero, List.drop_zero]; ac_rfl)
    · intro b hb
      refine Ev.step (fun k => coppicerref_TurnerCheck.l4.eq_2 _ _ _ _ _ _ _ _ _ k) ?_
      simp (disch := omega) only [if_neg (show ¬ K < K by omega), w64]
      refine ih (i + 1) b (by omega) (by omega) ?_
      rw [drop_all (rd_L1 next i) _ (by omega), drop_all (rd_L2 out i) _ (by omega)] at hb
      simpa using hb
    · intro s b h2 h3 hb
      right
      have e1 := rd_cons (l := rd_L1 next i) h2 (by omega)
      have e2 := drop_rdL (l := rd_L2 out i) h2 (by omega)
      have hw : (rd_L1 (rd_L2 out i) s).length ≤ 4 := h4 _ (List.mem_flatten.2 ⟨_, rdW_mem h0 hi2, rdL_mem h2 (by omega)⟩)
      rw [e1, e2, List.any_cons, List.flatten_cons, List.any_append] at hb
      refine ⟨b || (badB N (rd (rd_L1 next i) s) || (rd_L1 (rd_L2 out i) s).any (badB L)), by rw [hb]; ac_rfl, ?_⟩
      intro h
      have j8 : ∀ b1 : Bool, b1 = (b || badB N (rd (rd_L1 next i) s)) → Ev (fun k => coppicerref_TurnerCheck.j8 k b1 i s N K L next out st) (if R = true then 2 else 0) := by
        intro b1 hb1
        refine Ev.step (fun k => coppicerref_TurnerCheck.j8.eq_2 _ _ _ _ _ _ _ _ _ k) ?_
        simp (disch := omega) only [if_pos]
        refine Ev.loop (L := fun k j (c : Bool) => coppicerref_TurnerCheck.l5 k c i s (rd_L1 (rd_L2 out i) s) ((rd_L1 (rd_L2 out i) s).length : Int) j N K L next out st) (n := (rd_L1 (rd_L2 out i) s).length)
          (fun j c => (b || (badB N (rd (rd_L1 next i) s) || (rd_L1 (rd_L2 out i) s).any (badB L))) = (c || ((rd_L1 (rd_L2 out i) s).drop j.toNat).any (badB L))) ?_ ?_ 0 b1 (Int.le_refl _) (by omega) (by rw [hb1]; simp only [Int.toNat_zero, List.drop_zero]; ac_rfl)
        · intro c hc
          rw [Int.toNat_natCast, List.drop_length, List.any_nil, Bool.or_false] at hc
          refine Ev.step (fun k => coppicerref_TurnerCheck.l5.eq_2 _ _ _ _ _ _ _ _ _ _ _ _ k) ?_
          simp (disch := omega) only [if_neg (show ¬ ((rd_L1 (rd_L2 out i) s).length : Int) < ((rd_L1 (rd_L2 out i) s).length : Nat) by omega), w64]
          rw [hc] at h; exact h
        · intro j c h5 h6 hc
          right
          rw [rd_cons h5 h6, List.any_cons] at hc
          refine ⟨c || badB L (rd (rd_L1 (rd_L2 out i) s) j), by rw [hc]; ac_rfl, ?_⟩
          intro h7
          refine Ev.step (fun k => coppicerref_TurnerCheck.l5.eq_2 _ _ _ _ _ _ _ _ _ _ _ _ k) ?_
          simp (disch := omega) only [if_pos, w64]
          cases c with
          | true => simp only [if_true]; exact h7
          | false =>
            simp only [Bool.false_eq_true, if_false]
            unfold badB at h7
            by_cases q : rd (rd_L1 (rd_L2 out i) s) j < 0
            · simp only [if_pos q]; simpa [q] using h7
            · simp only [if_neg q]; simpa [q] using h7
      refine Ev.step (fun k => coppicerref_TurnerCheck.l4.eq_2 _ _ _ _ _ _ _ _ _ k) ?_
      simp (disch := omega) only [if_pos (show s < K by omega)]
      cases b with
      | true => simp only [if_true]; exact j8 true (by simp)
      | false =>
        simp (disch := omega) only [Bool.false_eq_true, if_false, if_pos]
        by_cases q : rd (rd_L1 next i) s < 0
        · simp only [if_pos q]; exact j8 true (by unfold badB; simp [q])
        · simp only [if_neg q]; exact j8 _ (by unfold badB; simp [q])
end
theorem rturn_l1 (N K L : Int) (next : List (List Int)) (out : List (List (List Int))) (st : Int) (T : TOK N K L next out) :
    Ev (fun k => coppicerref_TurnerCheck.l1 k 0 N K L next out st) (if (out.flatten.any fun w => decide ((w.length : Int) > 4)) = true then 1 else if (next.flatten.any (badB N) || badB N st || out.flatten.flatten.any (badB L)) = true then 2 else 0) := by
  have hN0 := T.N0; have hN1 := T.N1; have hK1 := T.K1; have hnl := T.nl; have hol := T.ol
  have e : (out.flatten.any fun w => decide ((w.length : Int) > 4)) = out.any fun r => r.any fun w => decide ((w.length : Int) > 4) := by rw [List.any_flatten]
  rw [e]
  have hN : N = (out.length : Nat) := by omega
  refine Ev.firstBad (L := fun k i => coppicerref_TurnerCheck.l1 k i N K L next out st) (rdf := rd_L2 out) (l := out) (fun i h0 h1 => drop_rdW h0 h1) ?_ ?_ ?_
  · intro hb
    refine Ev.step (fun k => coppicerref_TurnerCheck.l1.eq_2 _ _ _ _ _ _ _ k) ?_
    simp (disch := omega) only [if_neg (show ¬ ((out.length : Nat) : Int) < N by omega)]
    rw [← e] at hb
    have h4 : ∀ w ∈ out.flatten, w.length ≤ 4 := by
      intro w hw
      have := List.any_eq_false.1 hb w hw
      simp only [decide_eq_true_eq] at this; omega
    have j5 : ∀ b : Bool, b = badB N st → Ev (fun k => coppicerref_TurnerCheck.j5 k b N K L next out st) (if (next.flatten.any (badB N) || badB N st || out.flatten.flatten.any (badB L)) = true then 2 else 0) := by
      intro b hb
      refine Ev.step (fun k => coppicerref_TurnerCheck.j5.eq_2 _ _ _ _ _ _ _ k) ?_
      exact rturn_l3 N K L next out st T h4 _ N.toNat 0 b (by omega) (by omega) (by rw [hb]; simp only [Int.toNat_zero, List.drop_zero]; ac_rfl)
    by_cases q : st < 0
    · simp only [if_pos q]; exact j5 true (by unfold badB; simp [q])
    · simp only [if_neg q]; exact j5 _ (by unfold badB; simp [q])
  · intro i h0 h1 hb
    refine Ev.step (fun k => coppicerref_TurnerCheck.l1.eq_2 _ _ _ _ _ _ _ k) ?_
    simp (disch := omega) only [if_pos]
    have hl := T.orr _ (rdW_mem h0 h1)
    have := Ev.firstBad (L := fun k j => coppicerref_TurnerCheck.l2 k i (rd_L2 out i) ((rd_L2 out i).length : Int) j N K L next out st) (rdf := rd_L1 (rd_L2 out i)) (l := rd_L2 out i) (bad := fun w => decide ((w.length : Int) > 4)) (c := 1) (fin := 1) (fun i h0 h1 => drop_rdL h0 h1) (fun q => by rw [hb] at q; cases q) ?_ ?_
    · rw [hb] at this; exact this
    · intro j h2 h3 hq
      refine Ev.step (fun k => coppicerref_TurnerCheck.l2.eq_2 _ _ _ _ _ _ _ _ _ _ k) ?_
      simp only [decide_eq_true_eq] at hq
      simp (disch := omega) only [if_pos, if_pos hq]; exact Ev.now _
    · intro j r h2 h3 hq hr
      refine Ev.step (fun k => coppicerref_TurnerCheck.l2.eq_2 _ _ _ _ _ _ _ _ _ _ k) ?_
      simp only [decide_eq_false_iff_not] at hq
      simp (disch := omega) only [if_pos, if_neg hq, w64]; exact hr
  · intro i r h0 h1 hb hr
    refine Ev.step (fun k => coppicerref_TurnerCheck.l1.eq_2 _ _ _ _ _ _ _ k) ?_
    simp (disch := omega) only [if_pos]
    have hl := T.orr _ (rdW_mem h0 h1)
    have := Ev.firstBad (L := fun k j => coppicerref_TurnerCheck.l2 k i (rd_L2 out i) ((rd_L2 out i).length : Int) j N K L next out st) (rdf := rd_L1 (rd_L2 out i)) (l := rd_L2 out i) (bad := fun w => decide ((w.length : Int) > 4)) (c := 1) (fin := r) (fun i h0 h1 => drop_rdL h0 h1) ?_ ?_ ?_
    · rw [hb] at this; exact this
    · intro _
      refine Ev.step (fun k => coppicerref_TurnerCheck.l2.eq_2 _ _ _ _ _ _ _ _ _ _ k) ?_
      simp (disch := omega) only [if_neg (show ¬ ((rd_L2 out i).length : Int) < ((rd_L2 out i).length : Nat) by omega), w64]; exact hr
    · intro j h2 h3 hq
      refine Ev.step (fun k => coppicerref_TurnerCheck.l2.eq_2 _ _ _ _ _ _ _ _ _ _ k) ?_
      simp only [decide_eq_true_eq] at hq
      simp (disch := omega) only [if_pos, if_pos hq]; exact Ev.now _
    · intro j r h2 h3 hq hr
      refine Ev.step (fun k => coppicerref_TurnerCheck.l2.eq_2 _ _ _ _ _ _ _ _ _ _ k) ?_
      simp only [decide_eq_false_iff_not] at hq
      simp (disch := omega) only [if_pos, if_neg hq, w64]; exact hr
theorem rturn_ev (N K L : Int) (next : List (List Int)) (out : List (List (List Int))) (st : Int) : Ev (fun k => coppicerref_TurnerCheck.f k N K L next out st) (tcode N K L next out st) := by
  unfold coppicerref_TurnerCheck.f
  have wrong : (N < 1 ∨ N > 7 ∨ K < 1 ∨ K > 3 ∨ L < 1 ∨ L > 3) → Ev (fun k => coppicerref_TurnerCheck.j0 k true N K L next out st) (tcode N K L next out st) := by
    intro h
    rw [tcode_bad h]
    refine Ev.step (fun k => coppicerref_TurnerCheck.j0.eq_2 _ _ _ _ _ _ _ k) ?_
    simp only [if_true]; exact Ev.now _
  by_cases c1 : N < 1
  · simp only [if_pos c1]; exact wrong (by omega)
  by_cases c2 : N > 7
  · simp only [if_neg c1, if_pos c2]; exact wrong (by omega)
  by_cases c3 : K < 1
  · simp only [if_neg c1, if_neg c2, if_pos c3]; exact wrong (by omega)
  by_cases c4 : K > 3
  · simp only [if_neg c1, if_neg c2, if_neg c3, if_pos c4]; exact wrong (by omega)
  by_cases c5 : L < 1
  · simp only [if_neg c1, if_neg c2, if_neg c3, if_neg c4, if_pos c5]; exact wrong (by omega)
  simp only [if_neg c1, if_neg c2, if_neg c3, if_neg c4, if_neg c5]
  by_cases c6 : L > 3
  · simp only [decide_eq_true c6]; exact wrong (by omega)
  · simp only [decide_eq_false c6]
    have c : ¬ (N < 1 ∨ N > 7 ∨ K < 1 ∨ K > 3 ∨ L < 1 ∨ L > 3) := by omega
    refine Ev.step (fun k => coppicerref_TurnerCheck.j0.eq_2 _ _ _ _ _ _ _ k) ?_
    simp only [Bool.false_eq_true, if_false]
    have long : (next.length : Int) ≠ N ∨ (out.length : Int) ≠ N → Ev (fun k => coppicerref_TurnerCheck.j1 k true N K L next out st) (tcode N K L next out st) := by
      intro h
      rw [tcode_len c h]
      refine Ev.step (fun k => coppicerref_TurnerCheck.j1.eq_2 _ _ _ _ _ _ _ k) ?_
      simp only [if_true]; exact Ev.now _
    by_cases d1 : (next.length : Int) = N
    · simp only [if_pos d1]
      by_cases d2 : (out.length : Int) = N
      · rw [show ((out.length : Int) != N) = false by simp [d2]]
        refine Ev.step (fun k => coppicerref_TurnerCheck.j1.eq_2 _ _ _ _ _ _ _ k) ?_
        simp only [Bool.false_eq_true, if_false]
        unfold tcode
        rw [if_neg c, if_neg (by omega)]
        have hN : (((List.range N.toNat).length : Nat) : Int) = N := by rw [List.length_range]; omega
        refine Ev.firstBad (L := fun k i => coppicerref_TurnerCheck.l0 k i N K L next out st) (rdf := fun i => i.toNat) (l := List.range N.toNat) (fun i h0 h1 => range_cons h0 h1) ?_ ?_ ?_
        · intro hb
          refine Ev.step (fun k => coppicerref_TurnerCheck.l0.eq_2 _ _ _ _ _ _ _ k) ?_
          rw [hN]
          simp (disch := omega) only [if_neg (show ¬ N < N by omega)]
          exact rturn_l1 N K L next out st (rows_ok c d1 d2 hb)
        · intro i h0 h1 hb
          rw [hN] at h1
          refine Ev.step (fun k => coppicerref_TurnerCheck.l0.eq_2 _ _ _ _ _ _ _ k) ?_
          unfold rowBad at hb
          rw [show ((i.toNat : Nat) : Int) = i by omega] at hb
          simp (disch := omega) only [if_pos]
          by_cases e1 : ((rd_L1 next i).length : Int) = K
          · have e2 : ¬ ((rd_L2 out i).length : Int) = K := by simpa [e1] using hb
            simp only [if_pos e1, if_neg e2]; exact Ev.now _
          · simp only [if_neg e1]; exact Ev.now _
        · intro i r h0 h1 hb hr
          rw [hN] at h1
          refine Ev.step (fun k => coppicerref_TurnerCheck.l0.eq_2 _ _ _ _ _ _ _ k) ?_
          unfold rowBad at hb
          rw [show ((i.toNat : Nat) : Int) = i by omega] at hb
          simp only [Bool.or_eq_false_iff, decide_eq_false_iff_not, Decidable.not_not] at hb
          simp (disch := omega) only [if_pos, w64, if_pos hb.1, if_pos hb.2]; exact hr
      · rw [show ((out.length : Int) != N) = true by simp [d2]]; exact long (.inr d2)
    · simp only [if_neg d1]; exact long (.inl d1)
structure TOK2 (N K L : Int) (next : List (List Int)) (out : List (List (List Int))) (st : Int) : Prop where
  T : TOK N K L next out
  nx : ∀ r ∈ next, ∀ x ∈ r, 0 ≤ x ∧ x < N
  s0 : 0 ≤ st
  s1 : st < N
  wl : ∀ r ∈ out, ∀ w ∈ r, w.length ≤ 4
  wx : ∀ r ∈ out, ∀ w ∈ r, ∀ x ∈ w, 0 ≤ x ∧ x < L
theorem tcode_0 {N K L : Int} {next : List (List Int)} {out : List (List (List Int))} {st : Int} (h : tcode N K L next out st = 0) : TOK2 N K L next out st := by
  unfold tcode at h
  split at h
  · omega
  rename_i c
  split at h
  · omega
  rename_i c1
  split at h
  · omega
  rename_i c2
  split at h
  · omega
  rename_i c3
  split at h
  · omega
  rename_i c4
  have c4 : (next.flatten.any (badB N) || badB N st || out.flatten.flatten.any (badB L)) = false := by simpa using c4
  have c3 : (out.flatten.any fun w => decide ((w.length : Int) > 4)) = false := by simpa using c3
  have c2 : (List.range N.toNat).any (rowBad K next out) = false := by simpa using c2
  simp only [Bool.or_eq_false_iff] at c4
  have nb : ∀ (M x : Int), badB M x = false → 0 ≤ x ∧ x < M := by
    intro M x h
    unfold badB at h
    simp only [Bool.or_eq_false_iff, decide_eq_false_iff_not] at h; omega
  refine ⟨rows_ok c (by omega) (by omega) c2, ?_, (nb N st c4.1.2).1, (nb N st c4.1.2).2, ?_, ?_⟩
  · intro r hr x hx
    exact nb N x (by simpa using List.any_eq_false.1 c4.1.1 x (List.mem_flatten.2 ⟨r, hr, hx⟩))
  · intro r hr w hw
    have := List.any_eq_false.1 c3 w (List.mem_flatten.2 ⟨r, hr, hw⟩)
    simp only [decide_eq_true_eq] at this; omega
  · intro r hr w hw x hx
    exact nb L x (by simpa using List.any_eq_false.1 c4.2 x (List.mem_flatten.2 ⟨w, List.mem_flatten.2 ⟨r, hr, hw⟩, hx⟩))
def wto (next : List (List Int)) (s c : Int) : Int := rd (rd_L1 next s) c
def wout (out : List (List (List Int))) (s c : Int) : List Int := rd_L1 (rd_L2 out s) c
theorem TOK2.row {N K L : Int} {next : List (List Int)} {out : List (List (List Int))} {st : Int} (T : TOK2 N K L next out st) {s : Int} (h0 : 0 ≤ s) (h1 : s < N) :
    s < next.length ∧ s < out.length ∧ ((rd_L1 next s).length : Int) = K ∧ ((rd_L2 out s).length : Int) = K := by
  have hn := T.T.nl; have ho := T.T.ol
  exact ⟨by omega, by omega, T.T.nr _ (rdL_mem h0 (by omega)), T.T.orr _ (rdW_mem h0 (by omega))⟩
theorem TOK2.to {N K L : Int} {next : List (List Int)} {out : List (List (List Int))} {st : Int} (T : TOK2 N K L next out st) {s c : Int} (h0 : 0 ≤ s) (h1 : s < N) (c0 : 0 ≤ c) (c1 : c < K) :
    0 ≤ wto next s c ∧ wto next s c < N ∧ (wout out s c).length ≤ 4 ∧ ∀ x ∈ wout out s c, 0 ≤ x ∧ x < L := by
  have hr := T.row h0 h1
  have h2 := T.nx _ (rdL_mem h0 hr.1) _ (rd_mem c0 (show c < ((rd_L1 next s).length : Nat) by omega))
  have hm := rdL_mem (l := rd_L2 out s) c0 (by omega)
  exact ⟨h2.1, h2.2, T.wl _ (rdW_mem h0 hr.2.1) _ hm, T.wx _ (rdW_mem h0 hr.2.1) _ hm⟩
theorem bit_shr01 (a i : Nat) (ha : a < 2 ^ 32) (hi : i < 32) : Go.bits .and .u32 (shr .u32 (a : Int) (i : Int)) 1 = if a.testBit i = true then 1 else 0 := by
  rw [shrn a i hi]
  have h1 : a / 2 ^ i < 2 ^ 32 := Nat.lt_of_le_of_lt (Nat.div_le_self _ _) ha
  have h2 := u32_and (a / 2 ^ i) 1 h1 (by decide)
  have h3 : ((1 : Nat) : Int) = 1 := rfl
  rw [h3] at h2
  rw [h2, Nat.and_one_is_mod, Nat.testBit_eq_decide_div_mod_eq]
  rcases Nat.mod_two_eq_zero_or_one (a / 2 ^ i) with h | h <;> rw [h] <;> rfl
theorem shl0 (n : Nat) (h : n < 32) : shl .u32 0 (n : Int) = 0 := by
  unfold shl
  rw [Int.zero_mul]; exact u32_id (by omega) (by omega)
theorem or_zero' (a : Nat) (ha : a < 2 ^ 32) : Go.bits .or .u32 (a : Int) 0 = (a : Int) := by
  have := u32_or a 0 ha (by decide)
  rw [Nat.or_zero] at this; exact this
theorem or_pow {x p : Nat} (h : x < 2 ^ p) : x ||| 2 ^ p = x + 2 ^ p := by
  have := Nat.two_pow_add_eq_or_of_lt h 1
  rw [Nat.mul_one] at this
  rw [Nat.or_comm, ← this, Nat.add_comm]
theorem Bit_mach (a i : Nat) (ha : a < 2 ^ 32) (hi : i < 32) : coppicerref_Bit.f (a : Int) (i : Int) = some (a.testBit i) := by
  unfold coppicerref_Bit.f
  simp (disch := omega) only [if_pos, u64_id, bit_and a i ha hi]
def tcell (next : List (List Int)) (out : List (List (List Int))) (mnext : List (List Int)) (B : Nat) (i j s : Nat) : Int := wto next i s * B + mrun mnext j (wout out i s)
def trow (next : List (List Int)) (out : List (List (List Int))) (mnext : List (List Int)) (B n : Nat) (i j : Nat) : List Int := (List.range n).map (tcell next out mnext B i j)
def tst (next : List (List Int)) (out : List (List (List Int))) (mnext : List (List Int)) (B n f : Nat) : Nat → List (List Int) × Nat
  | 0 => ([], 0)
  | p + 1 => ((tst next out mnext B n f p).1 ++ [trow next out mnext B n (p / B) (p % B)], if f.testBit (p % B) = true then (tst next out mnext B n f p).2 + 2 ^ p else (tst next out mnext B n f p).2)
section
variable (next : List (List Int)) (out : List (List (List Int))) (mnext : List (List Int)) (A B n f : Nat) (st mst : Int) (L : Nat)
theorem trow_succ (s i j : Nat) : trow next out mnext B s i j ++ [tcell next out mnext B i j s] = trow next out mnext B (s + 1) i j := by
  unfold trow; rw [List.range_succ, List.map_append]; rfl
theorem trow_len (s i j : Nat) : (trow next out mnext B s i j).length = s := by simp [trow]
theorem tst_len : ∀ p, (tst next out mnext B n f p).1.length = p
  | 0 => rfl
  | p + 1 => by simp [tst, tst_len p]
theorem tst_lt : ∀ p, (tst next out mnext B n f p).2 < 2 ^ p
  | 0 => by simp [tst]
  | p + 1 => by
    have := tst_lt p
    rw [Nat.pow_succ]
    simp only [tst]
    split <;> omega
theorem tst_row : ∀ p, ∀ x ∈ (tst next out mnext B n f p).1, x.length = n
  | 0, x, h => by simp [tst] at h
  | p + 1, x, h => by
    rcases List.mem_append.1 h with q | q
    · exact tst_row p x q
    · simp at q; rw [q, trow_len]
theorem tpos (hB : 1 ≤ B) (hAB : A * B ≤ 7) (i j : Nat) (hi : i < A) (hj : j < B) : i * B + j + 1 ≤ 7 ∧ (i * B + j) / B = i ∧ (i * B + j) % B = j := by
  have h1 : (i + 1) * B ≤ A * B := Nat.mul_le_mul_right B hi
  rw [Nat.succ_mul] at h1
  refine ⟨by omega, ?_, ?_⟩
  · rw [Nat.mul_comm, Nat.mul_add_div (by omega), Nat.div_eq_of_lt hj]; rfl
  · rw [Nat.mul_comm, Nat.mul_add_mod, Nat.mod_eq_of_lt hj]
variable (T : TOK2 A n L next out st) (hB : 1 ≤ B) (hB7 : B ≤ 7) (hAB : A * B ≤ 7) (hm : okMach B L mnext) (hf : f < 2 ^ 32)
include T hB hB7 hAB hm hf
theorem tcell_bd (i j s : Nat) (hi : i < A) (hj : j < B) (hs : s < n) : 0 ≤ wto next i s * (B : Int) ∧ wto next i s * (B : Int) ≤ 49 ∧ 0 ≤ mrun mnext j (wout out i s) ∧ mrun mnext j (wout out i s) < 7 ∧ (wout out i s).length ≤ 4 ∧ 0 ≤ wto next i s ∧ wto next i s ≤ 7 := by
  have hA := T.T.N1
  have h1 := T.to (s := i) (c := s) (by omega) (by omega) (by omega) (by omega)
  have h2 := hm.run (wout out i s) j (by omega) (by omega) (fun c hc => h1.2.2.2 c hc)
  have h3 : wto next i s * (B : Int) ≤ 7 * 7 := Int.mul_le_mul (by omega) (by omega) (by omega) (by omega)
  have h4 : 0 ≤ wto next i s * (B : Int) := Int.mul_nonneg h1.1 (by omega)
  omega
theorem ttakes_l2 (mN : Int) (i j : Nat) (hi : i < A) (hj : j < B) (rows : List (List Int)) (fin : Int) (oN oK oS : Int) (hrows : rows.length ≤ 1000) (R : Int × Int × List (List Int) × Int × Int × Int)
    (h : Ev (fun k => turner_Takes.l1 k i A i B ((j : Int) + 1) A n L next out st B mN mnext mst f oN oK (rows ++ [trow next out mnext B n i j]) oS (Go.bits .or .u32 fin (shl .u32 (if f.testBit j = true then 1 else 0) ((i * B + j : Nat) : Int)))) R) :
    Ev (fun k => turner_Takes.l2 k i j [] A i B j n 0 A n L next out st B mN mnext mst f oN oK rows oS fin) R := by
  have hA := T.T.N1
  have hK := T.T.K1
  have hp := tpos A B hB hAB i j hi hj
  have eB : (i : Int) * (B : Int) = ((i * B : Nat) : Int) := (Int.natCast_mul i B).symm
  refine Ev.loop (L := fun k s (row : List Int) => turner_Takes.l2 k i j row A i B j n s A n L next out st B mN mnext mst f oN oK rows oS fin) (n := n) (fun s row => row = trow next out mnext B s.toNat i j) ?_ ?_ 0 [] (Int.le_refl _) (by omega) rfl
  · intro row hr
    refine Ev.step (fun k => turner_Takes.l2.eq_2 _ _ _ _ _ _ _ _ _ _ _ _ _ _ _ _ _ _ _ _ _ _ _ _ _ k) ?_
    rw [Int.toNat_natCast] at hr
    simp (disch := omega) only [if_neg (show ¬ (n : Int) < n by omega), if_pos, eB, w64, bit_shr01 f j hf (by omega)]
    rw [hr]
    rw [show ((i * B + j : Nat) : Int) = ((i * B : Nat) : Int) + (j : Int) by omega] at h
    exact h
  · intro s row h0 h1 hr
    right
    obtain ⟨q, rfl⟩ := Int.eq_ofNat_of_zero_le h0
    rw [Int.toNat_natCast] at hr
    have hb := tcell_bd next out mnext A B n f st L T hB hB7 hAB hm hf i j q hi hj (by omega)
    have hr2 := T.row (s := i) (by omega) (by omega)
    have hto := T.to (s := i) (c := q) (by omega) (by omega) (by omega) (by omega)
    refine ⟨trow next out mnext B (q + 1) i j, by rw [show ((q : Int) + 1).toNat = q + 1 by omega], ?_⟩
    intro hk
    refine Ev.step (fun k => turner_Takes.l2.eq_2 _ _ _ _ _ _ _ _ _ _ _ _ _ _ _ _ _ _ _ _ _ _ _ _ _ k) ?_
    simp (disch := omega) only [if_pos]
    have ew : rd_L1 (rd_L2 out i) q = wout out i q := rfl
    have en : rd (rd_L1 next i) q = wto next i q := rfl
    simp only [ew]
    refine Ev.loop (L := fun k c (x : Int) => turner_Takes.l3 k i j row q x A i B j n q (wout out i q) ((wout out i q).length : Int) c A n L next out st B mN mnext mst f oN oK rows oS fin) (n := (wout out i q).length) (fun c x => 0 ≤ x ∧ x < B ∧ mrun mnext j (wout out i q) = mrun mnext x ((wout out i q).drop c.toNat)) ?_ ?_ 0 (j : Int) (Int.le_refl _) (by omega) ⟨by omega, by omega, by simp⟩
    · rintro x ⟨g0, g1, g2⟩
      rw [Int.toNat_natCast, List.drop_length] at g2
      simp only [mrun] at g2
      refine Ev.step (fun k => turner_Takes.l3.eq_2 _ _ _ _ _ _ _ _ _ _ _ _ _ _ _ _ _ _ _ _ _ _ _ _ _ _ _ _ _ _ k) ?_
      have hlen : row.length = q := by rw [hr, trow_len]
      simp (disch := omega) only [if_neg (show ¬ ((wout out i q).length : Int) < ((wout out i q).length : Nat) by omega), if_pos, en, w64]
      rw [← trow_succ, ← hr] at hk
      unfold tcell at hk
      rw [g2] at hk
      exact hk
    · rintro c x h2 h3 ⟨g0, g1, g2⟩
      right
      have hc := hto.2.2.2 _ (rd_mem h2 h3)
      have hmr := hm.row g0 g1
      have hmt := hm.to g0 g1 hc.1 hc.2
      rw [rd_cons h2 h3] at g2
      simp only [mrun] at g2
      refine ⟨mto mnext x (rd (wout out i q) c), ⟨hmt.1, hmt.2, g2⟩, ?_⟩
      intro h4
      refine Ev.step (fun k => turner_Takes.l3.eq_2 _ _ _ _ _ _ _ _ _ _ _ _ _ _ _ _ _ _ _ _ _ _ _ _ _ _ _ _ _ _ k) ?_
      simp (disch := omega) only [if_pos, w64]
      exact h4
theorem ttakes_l0 (mN oN oK oS : Int) : Ev (fun k => turner_Takes.l0 k A 0 A n L next out st B mN mnext mst f oN oK [] oS 0) (oN, oK, (tst next out mnext B n f (A * B)).1, oS, ((tst next out mnext B n f (A * B)).2 : Int), 0) := by
  have hA := T.T.N1
  refine Ev.loop (L := fun k i (z : List (List Int) × Nat) => turner_Takes.l0 k A i A n L next out st B mN mnext mst f oN oK z.1 oS (z.2 : Int)) (n := A) (fun i z => z = tst next out mnext B n f (i.toNat * B)) ?_ ?_ 0 ([], 0) (Int.le_refl _) (by omega) (by simp [tst])
  · intro z hz
    rw [Int.toNat_natCast] at hz
    refine Ev.step (fun k => turner_Takes.l0.eq_2 _ _ _ _ _ _ _ _ _ _ _ _ _ _ _ _ _ _ k) ?_
    simp (disch := omega) only [if_neg (show ¬ (A : Int) < A by omega)]
    rw [hz]; exact Ev.now _
  · intro i z h0 h1 hz
    right
    obtain ⟨i, rfl⟩ := Int.eq_ofNat_of_zero_le h0
    rw [Int.toNat_natCast] at hz
    refine ⟨tst next out mnext B n f ((i + 1) * B), by rw [show ((i : Int) + 1).toNat = i + 1 by omega], ?_⟩
    intro h
    refine Ev.step (fun k => turner_Takes.l0.eq_2 _ _ _ _ _ _ _ _ _ _ _ _ _ _ _ _ _ _ k) ?_
    simp (disch := omega) only [if_pos]
    refine Ev.loop (L := fun k j (z : List (List Int) × Nat) => turner_Takes.l1 k i A i B j A n L next out st B mN mnext mst f oN oK z.1 oS (z.2 : Int)) (n := B) (fun j z => z = tst next out mnext B n f (i * B + j.toNat)) ?_ ?_ 0 z (Int.le_refl _) (by omega) (by rw [hz]; simp)
    · intro z hz
      rw [Int.toNat_natCast, ← Nat.succ_mul] at hz
      refine Ev.step (fun k => turner_Takes.l1.eq_2 _ _ _ _ _ _ _ _ _ _ _ _ _ _ _ _ _ _ _ _ _ k) ?_
      simp (disch := omega) only [if_neg (show ¬ (B : Int) < B by omega), w64]
      rw [hz]; exact h
    · intro j z h2 h3 hz
      right
      obtain ⟨j, rfl⟩ := Int.eq_ofNat_of_zero_le h2
      rw [Int.toNat_natCast] at hz
      have hp := tpos A B hB hAB i j (by omega) (by omega)
      have hlt := tst_lt next out mnext B n f (i * B + j)
      have hlen := tst_len next out mnext B n f (i * B + j)
      have h27 : 2 ^ (i * B + j) ≤ 2 ^ 7 := Nat.pow_le_pow_right (by omega) (by omega)
      refine ⟨tst next out mnext B n f (i * B + j + 1), by rw [show ((j : Int) + 1).toNat = j + 1 by omega]; rfl, ?_⟩
      intro h4
      refine Ev.step (fun k => turner_Takes.l1.eq_2 _ _ _ _ _ _ _ _ _ _ _ _ _ _ _ _ _ _ _ _ _ k) ?_
      simp (disch := omega) only [if_pos]
      refine ttakes_l2 next out mnext A B n f st mst L T hB hB7 hAB hm hf mN i j (by omega) (by omega) _ _ oN oK oS (by rw [hz, hlen]; omega) _ ?_
      have hst : tst next out mnext B n f (i * B + j + 1) = ((tst next out mnext B n f (i * B + j)).1 ++ [trow next out mnext B n i j], if f.testBit j = true then (tst next out mnext B n f (i * B + j)).2 + 2 ^ (i * B + j) else (tst next out mnext B n f (i * B + j)).2) := by
        show (_, _) = _
        rw [hp.2.1, hp.2.2]
      rw [hst] at h4
      rw [hz]
      by_cases q : f.testBit j = true
      · simp only [q, if_true] at h4 ⊢
        rw [bit_or _ (i * B + j) (by omega) (by omega), or_pow hlt]; exact h4
      · simp only [if_neg q] at h4 ⊢
        rw [shl0 _ (by omega), or_zero' _ (by omega)]; exact h4
theorem leads_ev (mN : Int) (w : List Int) (hw : ∀ c ∈ w, 0 ≤ c ∧ c < (L : Int)) (hl : w.length ≤ 1000) (j : Nat) (hj : j < B) : Ev (fun k => coppicerref_Leads.f k B mN mnext mst f j w) (mrun mnext j w) := by
  unfold coppicerref_Leads.f
  refine Ev.loop (L := fun k c (x : Int) => coppicerref_Leads.l0 k x w (w.length : Int) c B mN mnext mst f) (n := w.length) (fun c x => 0 ≤ x ∧ x < B ∧ mrun mnext j w = mrun mnext x (w.drop c.toNat)) ?_ ?_ 0 (j : Int) (Int.le_refl _) (by omega) ⟨by omega, by omega, by simp⟩
  · rintro x ⟨g0, g1, g2⟩
    rw [Int.toNat_natCast, List.drop_length] at g2
    simp only [mrun] at g2
    refine Ev.step (fun k => coppicerref_Leads.l0.eq_2 _ _ _ _ _ _ _ _ _ k) ?_
    simp (disch := omega) only [if_neg]
    rw [g2]; exact Ev.now _
  · rintro c x h2 h3 ⟨g0, g1, g2⟩
    right
    have hc := hw _ (rd_mem h2 h3)
    have hmr := hm.row g0 g1
    have hmt := hm.to g0 g1 hc.1 hc.2
    rw [rd_cons h2 h3] at g2
    simp only [mrun] at g2
    refine ⟨mto mnext x (rd w c), ⟨hmt.1, hmt.2, g2⟩, ?_⟩
    intro h4
    refine Ev.step (fun k => coppicerref_Leads.l0.eq_2 _ _ _ _ _ _ _ _ _ k) ?_
    simp (disch := omega) only [if_pos, w64]
    exact h4
theorem before_l0 (oK oS : Int) : Ev (fun k => coppicerref_Before.l0 k 0 A n L next out st B L mnext mst f ((A * B : Nat) : Int) oK [] oS 0) (((A * B : Nat) : Int), oK, (tst next out mnext B n f (A * B)).1, oS, ((tst next out mnext B n f (A * B)).2 : Int)) := by
  have hA := T.T.N1
  have hA0 := T.T.N0
  have hK := T.T.K1
  refine Ev.loop (L := fun k p (z : List (List Int) × Nat) => coppicerref_Before.l0 k p A n L next out st B L mnext mst f ((A * B : Nat) : Int) oK z.1 oS (z.2 : Int)) (n := ((A * B : Nat) : Int)) (fun p z => z = tst next out mnext B n f p.toNat) ?_ ?_ 0 ([], 0) (Int.le_refl _) (by omega) (by simp [tst])
  · intro z hz
    rw [Int.toNat_natCast] at hz
    refine Ev.step (fun k => coppicerref_Before.l0.eq_2 _ _ _ _ _ _ _ _ _ _ _ _ _ _ _ _ _ k) ?_
    simp (disch := omega) only [if_neg (show ¬ ((A * B : Nat) : Int) < ((A * B : Nat) : Int) by omega)]
    rw [hz]; exact Ev.now _
  · intro p z h0 h1 hz
    right
    obtain ⟨p, rfl⟩ := Int.eq_ofNat_of_zero_le h0
    rw [Int.toNat_natCast] at hz
    have hpi : p / B < A := Nat.div_lt_of_lt_mul (by rw [Nat.mul_comm]; omega)
    have hpj : p % B < B := Nat.mod_lt _ (by omega)
    obtain ⟨a, ha⟩ : ∃ a, p / B = a := ⟨_, rfl⟩
    obtain ⟨b, hb_⟩ : ∃ b, p % B = b := ⟨_, rfl⟩
    have ei0 : ((p : Int) / (B : Int)) = (a : Int) := by rw [← ha]; exact (Int.natCast_ediv p B).symm
    have ej0 : ((p : Int) % (B : Int)) = (b : Int) := by rw [← hb_]; exact (Int.natCast_emod p B).symm
    rw [ha] at hpi
    rw [hb_] at hpj
    have ei : wrap64 (Int.tdiv (p : Int) (B : Int)) = (a : Int) := by rw [td (by omega), ei0]; exact w64 (by omega) (by omega)
    have ej : Int.tmod (p : Int) (B : Int) = (b : Int) := by rw [tm (by omega), ej0]
    clear ei0 ej0
    have hlt := tst_lt next out mnext B n f p
    have hlen := tst_len next out mnext B n f p
    have h27 : 2 ^ p ≤ 2 ^ 6 := Nat.pow_le_pow_right (by omega) (by omega)
    refine ⟨tst next out mnext B n f (p + 1), by rw [show ((p : Int) + 1).toNat = p + 1 by omega], ?_⟩
    intro h
    refine Ev.step (fun k => coppicerref_Before.l0.eq_2 _ _ _ _ _ _ _ _ _ _ _ _ _ _ _ _ _ k) ?_
    simp (disch := omega) only [if_pos]
    refine Ev.loop (L := fun k s (row : List Int) => coppicerref_Before.l1 k p row s A n L next out st B L mnext mst f ((A * B : Nat) : Int) oK z.1 oS (z.2 : Int)) (n := n) (fun s row => row = trow next out mnext B s.toNat a b) ?_ ?_ 0 [] (Int.le_refl _) (by omega) rfl
    · intro row hr
      rw [Int.toNat_natCast] at hr
      have hz1 : z.1.length = p := by rw [hz, hlen]
      refine Ev.step (fun k => coppicerref_Before.l1.eq_2 _ _ _ _ _ _ _ _ _ _ _ _ _ _ _ _ _ _ _ k) ?_
      simp (disch := omega) only [if_neg (show ¬ (n : Int) < n by omega), if_pos, Option.bind_some, if_neg (show ¬ (B : Int) = 0 by omega), ej, Bit_mach f b hf (by omega), w64, u64_id, shl1 p (by omega)]
      have hst : tst next out mnext B n f (p + 1) = ((tst next out mnext B n f p).1 ++ [trow next out mnext B n a b], if f.testBit b = true then (tst next out mnext B n f p).2 + 2 ^ p else (tst next out mnext B n f p).2) := by
        show (_, _) = _
        rw [ha, hb_]
      rw [hst] at h
      rw [hr, hz]
      by_cases q : f.testBit b = true
      · simp only [q, if_true] at h ⊢
        rw [show (((tst next out mnext B n f p).2 : Int) + ((2 ^ p : Nat) : Int)) % 4294967296 = (((tst next out mnext B n f p).2 + 2 ^ p : Nat) : Int) by omega]; exact h
      · simp only [if_neg q] at h ⊢
        exact h
    · intro s row h2 h3 hr
      right
      obtain ⟨q, rfl⟩ := Int.eq_ofNat_of_zero_le h2
      rw [Int.toNat_natCast] at hr
      have hlenr : row.length = q := by rw [hr, trow_len]
      have hqn : q < n := by clear ei ej ha hb_; omega
      refine ⟨trow next out mnext B (q + 1) a b, by rw [show ((q : Int) + 1).toNat = q + 1 by omega], ?_⟩
      intro hk
      refine Ev.step (fun k => coppicerref_Before.l1.eq_2 _ _ _ _ _ _ _ _ _ _ _ _ _ _ _ _ _ _ _ k) ?_
      have ew : rd_L1 (rd_L2 out (a : Int)) q = wout out (a : Int) q := rfl
      have en : rd (rd_L1 next (a : Int)) q = wto next (a : Int) q := rfl
      have hB0 : ¬ (B : Int) = 0 := by clear ei ej ha hb_ ew en; omega
      simp only [if_neg hB0, ei, ej]
      clear ei ej ha hb_ h hlt hlen h27 h2
      have hb := tcell_bd next out mnext A B n f st L T hB hB7 hAB hm hf a b q hpi hpj hqn
      have hr2 := T.row (s := (a : Int)) (by omega) (by omega)
      have hto := T.to (s := (a : Int)) (c := q) (by omega) (by omega) (by omega) (by omega)
      simp (disch := omega) only [if_pos, ew, en]
      refine Ev.bind (leads_ev next out mnext A B n f st mst L T hB hB7 hAB hm hf _ _ (fun c hc => hto.2.2.2 c hc) (by omega) b hpj) ?_
      simp (disch := omega) only [if_pos, w64]
      rw [← trow_succ, ← hr] at hk
      exact hk
end
theorem TurnerTakes : coppicerlaw_TurnerTakes.Pure := by
  unfold coppicerlaw_TurnerTakes.Pure
  intro N K L next out st M mK mnext mst mf _ _ _ _ _ _ _ _ _ _ hmf
  have hmf := wf_u32 hmf
  apply Ev.rounds
  unfold coppicerlaw_TurnerTakes.f
  have j4w : ∀ (c : Int), c ≠ 0 → Ev (fun k => coppicerlaw_TurnerTakes.j4 k c c N K L next out st M mK mnext mst mf 0 0 [] 0 0) true := by
    intro c hc
    refine Ev.step (fun k => coppicerlaw_TurnerTakes.j4.eq_2 _ _ _ _ _ _ _ _ _ _ _ _ _ _ _ _ _ _ k) ?_
    simp only [if_neg hc, if_true]
    exact Ev.bind Zero_ev (Ev.now _)
  have j2w : ∀ (c : Int), c ≠ 0 → Ev (fun k => coppicerlaw_TurnerTakes.j2 k c c N K L next out st M mK mnext mst mf 0 0 [] 0 0) true := by
    intro c hc
    refine Ev.step (fun k => coppicerlaw_TurnerTakes.j2.eq_2 _ _ _ _ _ _ _ _ _ _ _ _ _ _ _ _ _ _ k) ?_
    simp only [if_neg hc]
    refine Ev.step (fun k => coppicerlaw_TurnerTakes.j3.eq_2 _ _ _ _ _ _ _ _ _ _ _ _ _ _ _ _ _ _ _ k) ?_
    simp only [Bool.false_eq_true, if_false]
    exact j4w c hc
  have wrong : ∀ (c : Int), c ≠ 0 → Ev (fun k => coppicerlaw_TurnerTakes.j0 k c c N K L next out st M mK mnext mst mf 0 0 [] 0 0) true := by
    intro c hc
    refine Ev.step (fun k => coppicerlaw_TurnerTakes.j0.eq_2 _ _ _ _ _ _ _ _ _ _ _ _ _ _ _ _ _ _ k) ?_
    simp only [if_neg hc]
    refine Ev.step (fun k => coppicerlaw_TurnerTakes.j1.eq_2 _ _ _ _ _ _ _ _ _ _ _ _ _ _ _ _ _ _ _ k) ?_
    simp only [Bool.false_eq_true, if_false]
    exact j2w c hc
  have h1 := tcheck_ev N K L next out st
  have h2 := rturn_ev N K L next out st
  have h3 := machCheck_ev M mK mnext mst mf hmf.1
  have h4 := rmach_ev M mK mnext mst mf
  by_cases c : tcode N K L next out st = 0
  · have T := tcode_0 c
    rw [c] at h1 h2
    by_cases c2 : machCode M mK mnext mst mf = 0
    · obtain ⟨m0, m1, mk0, mk1, hm, ms0, ms1, _⟩ := machCode_0 c2
      rw [c2] at h3 h4
      have hN0 := T.T.N0; have hN1 := T.T.N1; have hK0 := T.T.K0; have hL0 := T.T.L0
      have hNM : N * M ≤ 7 * 7 := Int.mul_le_mul hN1 m1 (by omega) (by omega)
      have hNM0 : 0 ≤ N * M := Int.mul_nonneg (by omega) (by omega)
      have hSM : st * M ≤ 7 * 7 := Int.mul_le_mul (by have := T.s1; omega) m1 (by omega) (by omega)
      have hSM0 : 0 ≤ st * M := Int.mul_nonneg T.s0 (by omega)
      by_cases c3 : L = mK
      · by_cases c4 : N * M > 7
        · refine Ev.bind (a := (0, 0, [], 0, 0, 1)) ?_ (Ev.bind h2 ?_)
          · unfold turner_Takes.f
            refine Ev.bind h1 ?_
            simp only [if_true]
            refine Ev.bind h3 ?_
            simp only [if_true, if_pos c3, w64 (show -9223372036854775808 ≤ N * M by omega) (by omega), if_pos c4]
            exact Ev.now _
          · simp only [if_true]
            refine Ev.bind h4 ?_
            refine Ev.step (fun k => coppicerlaw_TurnerTakes.j0.eq_2 _ _ _ _ _ _ _ _ _ _ _ _ _ _ _ _ _ _ k) ?_
            simp only [if_true, show (L != mK) = false by simp [c3]]
            refine Ev.step (fun k => coppicerlaw_TurnerTakes.j1.eq_2 _ _ _ _ _ _ _ _ _ _ _ _ _ _ _ _ _ _ _ k) ?_
            simp only [Bool.false_eq_true, if_false]
            refine Ev.step (fun k => coppicerlaw_TurnerTakes.j2.eq_2 _ _ _ _ _ _ _ _ _ _ _ _ _ _ _ _ _ _ k) ?_
            simp only [if_true, w64 (show -9223372036854775808 ≤ N * M by omega) (by omega), decide_eq_true c4]
            refine Ev.step (fun k => coppicerlaw_TurnerTakes.j3.eq_2 _ _ _ _ _ _ _ _ _ _ _ _ _ _ _ _ _ _ _ k) ?_
            simp only [if_true]
            exact j4w 1 (by omega)
        · obtain ⟨A, rfl⟩ := Int.eq_ofNat_of_zero_le (show 0 ≤ N by omega)
          obtain ⟨B, rfl⟩ := Int.eq_ofNat_of_zero_le (show 0 ≤ M by omega)
          obtain ⟨n, rfl⟩ := Int.eq_ofNat_of_zero_le (show 0 ≤ K by omega)
          obtain ⟨l, rfl⟩ := Int.eq_ofNat_of_zero_le (show 0 ≤ L by omega)
          obtain ⟨f, rfl⟩ := Int.eq_ofNat_of_zero_le hmf.1
          subst c3
          have eAB : (A : Int) * (B : Int) = ((A * B : Nat) : Int) := (Int.natCast_mul A B).symm
          rw [eAB] at c4 hNM hNM0
          have p1 := ttakes_l0 next out mnext A B n f st mst l T (by omega) (by omega) (by omega) hm (by omega) (l : Int) ((A * B : Nat) : Int) n (st * (B : Int) + mst)
          have p2 := before_l0 next out mnext A B n f st mst l T (by omega) (by omega) (by omega) hm (by omega) n (st * (B : Int) + mst)
          have hlen := tst_len next out mnext B n f (A * B)
          have hrow := tst_row next out mnext B n f (A * B)
          refine Ev.bind (a := (((A * B : Nat) : Int), (n : Int), (tst next out mnext B n f (A * B)).1, st * (B : Int) + mst, ((tst next out mnext B n f (A * B)).2 : Int), 0)) ?_ (Ev.bind h2 ?_)
          · unfold turner_Takes.f
            refine Ev.bind h1 ?_
            simp only [if_true]
            refine Ev.bind h3 ?_
            simp (disch := omega) only [if_true, eAB, w64, if_neg c4]
            exact p1
          · simp only [if_true]
            refine Ev.bind h4 ?_
            refine Ev.step (fun k => coppicerlaw_TurnerTakes.j0.eq_2 _ _ _ _ _ _ _ _ _ _ _ _ _ _ _ _ _ _ k) ?_
            simp only [if_true, bne_self_eq_false]
            refine Ev.step (fun k => coppicerlaw_TurnerTakes.j1.eq_2 _ _ _ _ _ _ _ _ _ _ _ _ _ _ _ _ _ _ _ k) ?_
            simp only [Bool.false_eq_true, if_false]
            refine Ev.step (fun k => coppicerlaw_TurnerTakes.j2.eq_2 _ _ _ _ _ _ _ _ _ _ _ _ _ _ _ _ _ _ k) ?_
            simp (disch := omega) only [if_true, eAB, w64, decide_eq_false c4]
            refine Ev.step (fun k => coppicerlaw_TurnerTakes.j3.eq_2 _ _ _ _ _ _ _ _ _ _ _ _ _ _ _ _ _ _ _ k) ?_
            simp only [Bool.false_eq_true, if_false]
            refine Ev.step (fun k => coppicerlaw_TurnerTakes.j4.eq_2 _ _ _ _ _ _ _ _ _ _ _ _ _ _ _ _ _ _ k) ?_
            simp only [if_true]
            unfold coppicerref_Before.f
            simp (disch := omega) only [eAB, w64]
            refine Ev.bind p2 ?_
            exact Ev.bind (Same_refl _ _ _ _ _ (by omega) (fun x hx => by have := hrow x hx; have := T.T.K1; omega)) (Ev.now _)
      · refine Ev.bind (a := (0, 0, [], 0, 0, 3)) ?_ (Ev.bind h2 ?_)
        · unfold turner_Takes.f
          refine Ev.bind h1 ?_
          simp only [if_true]
          refine Ev.bind h3 ?_
          simp only [if_true, if_neg c3]
          exact Ev.now _
        · simp only [if_true]
          refine Ev.bind h4 ?_
          refine Ev.step (fun k => coppicerlaw_TurnerTakes.j0.eq_2 _ _ _ _ _ _ _ _ _ _ _ _ _ _ _ _ _ _ k) ?_
          simp only [if_true, show (L != mK) = true by simp [c3]]
          refine Ev.step (fun k => coppicerlaw_TurnerTakes.j1.eq_2 _ _ _ _ _ _ _ _ _ _ _ _ _ _ _ _ _ _ _ k) ?_
          simp only [if_true]
          exact j2w 3 (by omega)
    · refine Ev.bind (a := (0, 0, [], 0, 0, machCode M mK mnext mst mf)) ?_ (Ev.bind h2 ?_)
      · unfold turner_Takes.f
        refine Ev.bind h1 ?_
        simp only [if_true]
        refine Ev.bind h3 ?_
        simp only [if_neg c2]
        exact Ev.now _
      · simp only [if_true]
        refine Ev.bind h4 ?_
        exact wrong _ c2
  · refine Ev.bind (a := (0, 0, [], 0, 0, tcode N K L next out st)) ?_ (Ev.bind h2 ?_)
    · unfold turner_Takes.f
      refine Ev.bind h1 ?_
      simp only [if_neg c]
      exact Ev.now _
    · simp only [if_neg c]
      exact wrong _ c
end Go.Proofs.Ytlmagjgjaajeiaa.Pure
