/- The law MachineChecks as a statement over numbers and lists alone: it holds under the bounds that the statement names. -/
import Derived.Test.YtidjihmlkaeemaaStatMachineChecks
set_option linter.unusedVariables false
set_option linter.unusedSimpArgs false
set_option linter.unusedSectionVars false
namespace Go.Proofs.Ytidjihmlkaeemaa.Pure
open Go.RowKit Go.Proofs.Ytidjihmlkaeemaa.PMachineChecks Go.Proofs.YtidjihmlkaeemaaW.PrintWords Go.Proofs.YtidjihmlkaeemaaW.PrintLast Go.Proofs.YtidjihmlkaeemaaW.PrintMore

/-! ### base: words for every pure text -/
theorem w64 {x : Int} (h0 : -9223372036854775808 ≤ x) (h1 : x ≤ 9223372036854775807) : wrap64 x = x := by unfold wrap64; omega
theorem Ev.pos {α : Type} {c : Prop} [Decidable c] {g f : Nat → Option α} {r : α} (h : c) (e : Ev g r) : Ev (fun k => if c then g k else f k) r := Ev.congr (fun k => by rw [if_pos h]) e
theorem Ev.neg {α : Type} {c : Prop} [Decidable c] {g f : Nat → Option α} {r : α} (h : ¬ c) (e : Ev f r) : Ev (fun k => if c then g k else f k) r := Ev.congr (fun k => by rw [if_neg h]) e
theorem Ev.val {α : Type} {r q : α} (h : r = q) : Ev (fun _ => some r) q := by subst h; exact Ev.now r
theorem rd_getElem {l : List Int} {i : Int} (h1 : i.toNat < l.length) : rd l i = l[i.toNat] := by simp [rd, List.getD_eq_getElem?_getD, List.getElem?_eq_getElem h1]
theorem drop_rd {l : List Int} {i : Int} (h0 : 0 ≤ i) (h1 : i < l.length) : l.drop i.toNat = rd l i :: l.drop (i + 1).toNat := by
  have h : i.toNat < l.length := by omega
  rw [rd_getElem h, List.drop_eq_getElem_cons h]; congr 2; omega
theorem take_rd {l : List Int} {i : Int} (h0 : 0 ≤ i) (h1 : i < l.length) : l.take (i + 1).toNat = l.take i.toNat ++ [rd l i] := by
  have h : i.toNat < l.length := by omega
  have e : (i + 1).toNat = i.toNat + 1 := by omega
  rw [rd_getElem h, e, List.take_succ_eq_append_getElem h]
theorem rd_drop (l : List Int) (n : Nat) (i : Int) (h0 : 0 ≤ i) : rd (l.drop n) i = rd l (i + n) := by
  have e : (i + n).toNat = n + i.toNat := by omega
  simp only [rd, List.getD_eq_getElem?_getD, List.getElem?_drop, e]
theorem rd_take (l : List Int) (n : Nat) (i : Int) (h0 : 0 ≤ i) (h1 : i < n) : rd (l.take n) i = rd l i := by
  simp only [rd, List.getD_eq_getElem?_getD]; rw [List.getElem?_take_of_lt (by omega)]
theorem drop_all {α : Type} (l : List α) (n : Nat) (h : l.length ≤ n) : l.drop n = [] := List.drop_eq_nil_of_le h
theorem dec_ne {a b : Int} {l m : List Int} (h : a ≠ b) : decide (a :: l = b :: m) = false := decide_eq_false (fun q => h (List.cons.inj q).1)
theorem Ev.no {p : Prop} [Decidable p] (h : ¬ p) : Ev (fun _ => some false) (decide p) := Ev.val (decide_eq_false h).symm
theorem Ev.yes {p : Prop} [Decidable p] (h : p) : Ev (fun _ => some true) (decide p) := Ev.val (decide_eq_true h).symm
theorem ext_rd {a b : List Int} (hl : a.length = b.length) (h : ∀ i : Int, 0 ≤ i → i < a.length → rd a i = rd b i) : a = b := by
  apply List.ext_getElem hl
  intro i h1 h2
  have := h i (by omega) (by omega)
  rwa [rd_getElem (by simpa using h1), rd_getElem (by simpa using h2)] at this
theorem wf_u8 {x : Int} (h : (Lit.int .u8 x).wf = true) : 0 ≤ x ∧ x ≤ 255 := by simpa [Lit.wf, IntKind.min, IntKind.max, IntKind.signed, IntKind.bits] using h
theorem wf_u32 {x : Int} (h : (Lit.int .u32 x).wf = true) : 0 ≤ x ∧ x ≤ 4294967295 := by simpa [Lit.wf, IntKind.min, IntKind.max, IntKind.signed, IntKind.bits] using h
theorem wf_i64 {x : Int} (h : (Lit.int .i64 x).wf = true) : -9223372036854775808 ≤ x ∧ x ≤ 9223372036854775807 := by simpa [Lit.wf, IntKind.min, IntKind.max, IntKind.signed, IntKind.bits] using h
theorem rd_mem {l : List Int} {i : Int} (h0 : 0 ≤ i) (h1 : i < l.length) : rd l i ∈ l := by
  rw [rd_getElem (by omega)]; exact List.getElem_mem _
theorem rd_u8 {l : List Int} (hw : ∀ x ∈ l, (Lit.int .u8 x).wf = true) {i : Int} (h0 : 0 ≤ i) (h1 : i < l.length) : 0 ≤ rd l i ∧ rd l i ≤ 255 := wf_u8 (hw _ (rd_mem h0 h1))
theorem tm {a b : Int} (h : 0 ≤ a) : Int.tmod a b = a % b := Int.tmod_eq_emod_of_nonneg h
theorem td {a b : Int} (h : 0 ≤ a) : Int.tdiv a b = a / b := Int.tdiv_eq_ediv_of_nonneg h

/-! ### words of 32 bits as natural numbers -/
theorem u32_id {x : Int} (h0 : 0 ≤ x) (h1 : x ≤ 4294967295) : IntKind.u32.wrap x = x := by rw [IntKind.wrap_u32]; omega
theorem u64_id {x : Int} (h0 : 0 ≤ x) (h1 : x ≤ 18446744073709551615) : IntKind.u64.wrap x = x := by simp [IntKind.wrap, IntKind.bits, IntKind.signed]; omega
theorem u32_or (a b : Nat) (ha : a < 2 ^ 32) (hb : b < 2 ^ 32) : Go.bits .or .u32 a b = ((a ||| b : Nat) : Int) :=
  (bits_nat .u32 32 (by decide) (fun n h0 h1 => u32_id h0 (by omega)) a b ha hb).2
theorem u32_and (a b : Nat) (ha : a < 2 ^ 32) (hb : b < 2 ^ 32) : Go.bits .and .u32 a b = ((a &&& b : Nat) : Int) :=
  (bits_nat .u32 32 (by decide) (fun n h0 h1 => u32_id h0 (by omega)) a b ha hb).1
theorem shl1 (n : Nat) (h : n < 32) : shl .u32 1 (n : Int) = ((2 ^ n : Nat) : Int) := by
  unfold shl
  have e : min ((n : Int)).toNat IntKind.u32.bits = n := by simp [IntKind.bits]; omega
  have h2 : 2 ^ n ≤ 2 ^ 31 := Nat.pow_le_pow_right (by omega) (by omega)
  rw [e, Int.one_mul, u32_id (by exact_mod_cast Nat.zero_le _) (by have : ((2 ^ n : Nat) : Int) ≤ 2 ^ 31 := by exact_mod_cast h2
                                                                   have e2 : ((2 : Int) ^ n) = ((2 ^ n : Nat) : Int) := by simp
                                                                   omega)]
  simp
theorem shrn (a n : Nat) (h : n < 32) : shr .u32 (a : Int) (n : Int) = ((a / 2 ^ n : Nat) : Int) := by
  unfold shr
  have e : min ((n : Int)).toNat IntKind.u32.bits = n := by simp [IntKind.bits]; omega
  rw [e]; simp

/-! ### rows of rows -/
theorem drop_rdL {l : List (List Int)} {i : Int} (h0 : 0 ≤ i) (h1 : i < l.length) : l.drop i.toNat = rd_L1 l i :: l.drop (i + 1).toNat := by
  have h : i.toNat < l.length := by omega
  have e : rd_L1 l i = l[i.toNat] := by simp [rd_L1, List.getD_eq_getElem?_getD, List.getElem?_eq_getElem h]
  rw [e, List.drop_eq_getElem_cons h]; congr 2; omega
theorem rdL_mem {l : List (List Int)} {i : Int} (h0 : 0 ≤ i) (h1 : i < l.length) : rd_L1 l i ∈ l := by
  have h : i.toNat < l.length := by omega
  have e : rd_L1 l i = l[i.toNat] := by simp [rd_L1, List.getD_eq_getElem?_getD, List.getElem?_eq_getElem h]
  rw [e]; exact List.getElem_mem _

/-! ### slices.Concat -/
theorem Concat_l1 (l : List (List Int)) (hl : l.length ≤ 4611686018427387904) (R : List Int) (hR : R.length < 17592186044416) (d : Nat) : ∀ (i : Int) (acc : List Int), 0 ≤ i → i + d = l.length → acc ++ (l.drop i.toNat).flatten = R →
    Ev (fun k => slices_Concat_Sint_int.l1 k acc l (l.length : Int) i) R := by
  induction d with
  | zero =>
    intro i acc h0 hd h
    refine Ev.step (fun k => slices_Concat_Sint_int.l1.eq_2 _ _ _ _ k) ?_
    simp (disch := omega) only [if_neg]
    rw [List.drop_eq_nil_of_le (by omega)] at h
    exact Ev.val (by simpa using h)
  | succ d ih =>
    intro i acc h0 hd h
    refine Ev.step (fun k => slices_Concat_Sint_int.l1.eq_2 _ _ _ _ k) ?_
    rw [drop_rdL h0 (by omega), List.flatten_cons, ← List.append_assoc] at h
    have hlen : acc.length + (rd_L1 l i).length ≤ R.length := by
      rw [← h]; simp only [List.length_append]; omega
    simp (disch := omega) only [if_pos, w64]
    exact ih (i + 1) _ (by omega) (by omega) h
theorem Concat_l0 (l : List (List Int)) (hl : l.length ≤ 4611686018427387904) (hR : l.flatten.length < 17592186044416) (d : Nat) : ∀ (i s : Int), 0 ≤ i → i + d = l.length → 0 ≤ s → s + (l.drop i.toNat).flatten.length = l.flatten.length →
    Ev (fun k => slices_Concat_Sint_int.l0 k l s l (l.length : Int) i) l.flatten := by
  induction d with
  | zero =>
    intro i s h0 hd hs h
    refine Ev.step (fun k => slices_Concat_Sint_int.l0.eq_2 _ _ _ _ _ k) ?_
    rw [List.drop_eq_nil_of_le (by omega)] at h
    simp only [List.flatten_nil, List.length_nil] at h
    simp (disch := omega) only [if_neg, slices_Grow_Sint_int.f, if_pos, Option.bind_some]
    exact Concat_l1 l hl _ hR l.length 0 [] (by omega) (by omega) (by simp)
  | succ d ih =>
    intro i s h0 hd hs h
    refine Ev.step (fun k => slices_Concat_Sint_int.l0.eq_2 _ _ _ _ _ k) ?_
    rw [drop_rdL h0 (by omega), List.flatten_cons, List.length_append] at h
    simp (disch := omega) only [if_pos, if_neg, w64]
    exact ih (i + 1) _ (by omega) (by omega) (by omega) (by omega)
theorem Concat_ev (l : List (List Int)) (hl : l.length ≤ 4611686018427387904) (hR : l.flatten.length < 17592186044416) : Ev (fun k => slices_Concat_Sint_int.f k l) l.flatten := by
  unfold slices_Concat_Sint_int.f
  exact Concat_l0 l hl hR l.length 0 0 (by omega) (by omega) (by omega) (by simp)

/-! ### machine.Check and coppicerref.MachineCheck: one answer -/
abbrev bad (N x : Int) : Prop := x < 0 ∨ x ≥ N
def machCode (N K : Int) (next : List (List Int)) (st f : Int) : Int :=
  if N < 1 ∨ N > 7 ∨ K < 1 ∨ K > 3 then 1 else if (next.length : Int) ≠ N ∨ (next.any fun l => decide ((l.length : Int) ≠ K)) = true then 3
  else if (next.flatten.any fun x => decide (bad N x)) = true ∨ bad N st then 2 else if f ≥ 2 ^ N.toNat then 4 else 0
theorem flat_len (K : Int) (hK : 0 ≤ K) : ∀ l : List (List Int), (∀ x ∈ l, (x.length : Int) = K) → (l.flatten.length : Int) = l.length * K
  | [], _ => by simp
  | x :: l, h => by
    have := flat_len K hK l (fun y hy => h y (by simp [hy]))
    have hx := h x (by simp)
    rw [List.flatten_cons, List.length_append, List.length_cons]
    push_cast
    rw [this, hx, Int.add_mul]; omega
theorem check_l0 (N K : Int) (next : List (List Int)) (st f : Int) (hN0 : 1 ≤ N) (hN1 : N ≤ 7) (hf0 : 0 ≤ f) (all : List Int) (hl : all.length ≤ 4611686018427387904) (d : Nat) : ∀ i : Int, 0 ≤ i → i + d = all.length →
    Ev (fun k => machine_Check.l0 k all (all.length : Int) i N K next st f) (if ((all.drop i.toNat).any fun x => decide (bad N x)) = true then 2 else if f ≥ 2 ^ N.toNat then 4 else 0) := by
  induction d with
  | zero =>
    intro i h0 hd
    refine Ev.step (fun k => machine_Check.l0.eq_2 _ _ _ _ _ _ _ _ k) ?_
    obtain ⟨a, rfl⟩ := Int.eq_ofNat_of_zero_le hf0
    obtain ⟨n, rfl⟩ := Int.eq_ofNat_of_zero_le (show 0 ≤ N by omega)
    have e : ((2 : Int) ^ n) = ((2 ^ n : Nat) : Int) := by simp
    simp (disch := omega) only [if_neg (show ¬ i < (all.length : Int) by omega), if_pos (show 0 ≤ (n : Int) by omega), shrn a n (by omega)]
    rw [List.drop_eq_nil_of_le (by omega), Int.toNat_natCast, e]
    have key : a / 2 ^ n = 0 ↔ a < 2 ^ n := by
      rw [Nat.div_eq_zero_iff]
      have := Nat.two_pow_pos n
      omega
    by_cases q : a < 2 ^ n
    · have q' : ((a / 2 ^ n : Nat) : Int) = 0 := by have := key.2 q; omega
      simp only [if_pos q']; exact Ev.val (by rw [if_neg (by simp), if_neg (by omega)])
    · have q' : ¬ ((a / 2 ^ n : Nat) : Int) = 0 := by have := mt key.1 q; omega
      simp only [if_neg q']; exact Ev.val (by rw [if_neg (by simp), if_pos (by omega)])
  | succ d ih =>
    intro i h0 hd
    refine Ev.step (fun k => machine_Check.l0.eq_2 _ _ _ _ _ _ _ _ k) ?_
    rw [drop_rd h0 (by omega)]
    simp (disch := omega) only [if_pos (show i < (all.length : Int) by omega), if_pos h0, w64]
    by_cases a : rd all i < 0
    · simp only [if_pos a]; exact Ev.val (by rw [if_pos (by simp [a])])
    · by_cases b : rd all i ≥ N
      · simp only [if_neg a, if_pos b]; exact Ev.val (by rw [if_pos (by simp [b])])
      · simp only [if_neg a, if_neg b]
        have := ih (i + 1) (by omega) (by omega)
        simpa [a, b] using this
theorem machCheck_ev (N K : Int) (next : List (List Int)) (st f : Int) (hf0 : 0 ≤ f) : Ev (fun k => machine_Check.f k N K next st f) (machCode N K next st f) := by
  unfold machine_Check.f
  have wrong : (N < 1 ∨ N > 7 ∨ K < 1 ∨ K > 3) → Ev (fun k => machine_Check.j0 k true N K next st f) (machCode N K next st f) := by
    intro h
    unfold machCode; rw [if_pos h]
    refine Ev.step (fun k => machine_Check.j0.eq_2 _ _ _ _ _ _ k) ?_
    simp only [if_true]; exact Ev.now _
  by_cases c1 : N < 1
  · simp only [if_pos c1]; exact wrong (by omega)
  by_cases c2 : N > 7
  · simp only [if_neg c1, if_pos c2]; exact wrong (by omega)
  by_cases c3 : K < 1
  · simp only [if_neg c1, if_neg c2, if_pos c3]; exact wrong (by omega)
  simp only [if_neg c1, if_neg c2, if_neg c3]
  by_cases c4 : K > 3
  · simp only [c4, decide_true]; exact wrong (by omega)
  · simp only [c4, decide_false]
    unfold machCode; rw [if_neg (by omega)]
    refine Ev.step (fun k => machine_Check.j0.eq_2 _ _ _ _ _ _ k) ?_
    simp only [Bool.false_eq_true, if_false]
    by_cases c5 : (next.length : Int) = N
    · simp only [if_pos c5, machine_Check_1.f, Option.bind_some]
      refine Ev.step (fun k => machine_Check.j1.eq_2 _ _ _ _ _ _ k) ?_
      by_cases c6 : (next.any fun l => decide ((l.length : Int) ≠ K)) = true
      · simp only [if_pos c6]; exact Ev.val (by rw [if_pos (.inr c6)])
      · simp only [if_neg c6]
        have hrows : ∀ x ∈ next, (x.length : Int) = K := by
          intro x hx
          simp only [List.any_eq_true, not_exists, not_and, decide_eq_true_eq, Classical.not_not] at c6
          exact c6 x hx
        have hfl := flat_len K (by omega) next hrows
        have h21 : next.flatten.length ≤ 21 := by
          have : (next.length : Int) * K ≤ 7 * 3 := Int.mul_le_mul (by omega) (by omega) (by omega) (by omega)
          omega
        refine Ev.bind (Concat_ev next (by omega) (by omega)) ?_
        have hlim : next.flatten.length + ([st] : List Int).length < 17592186044416 := by simp only [List.length_singleton]; omega
        simp only [Option.bind_some, if_pos hlim]
        have := check_l0 N K next st f (by omega) (by omega) hf0 (next.flatten ++ [st]) (by simp only [List.length_append, List.length_singleton]; omega) (next.flatten ++ [st]).length 0 (by omega) (by omega)
        rw [Int.toNat_zero, List.drop_zero] at this
        refine Ev.congr (fun _ => rfl) ?_
        have e : ((next.flatten ++ [st]).any fun x => decide (bad N x)) = true ↔ ((next.flatten.any fun x => decide (bad N x)) = true ∨ bad N st) := by simp [List.any_append]
        rw [if_neg (fun h => h.elim (fun a => a c5) c6)]
        simp only [e] at this
        exact this
    · simp only [if_neg c5]
      refine Ev.step (fun k => machine_Check.j1.eq_2 _ _ _ _ _ _ k) ?_
      simp only [if_true]
      exact Ev.val (by rw [if_pos (.inl c5)])
/-! the document's -/
theorem rmach_j4 (N K : Int) (next : List (List Int)) (st f : Int) (hN0 : 1 ≤ N) (hN1 : N ≤ 7) (b : Bool) : Ev (fun k => coppicerref_MachineCheck.j4 k b N K next st f) (if b = true then 2 else if f ≥ 2 ^ N.toNat then 4 else 0) := by
  refine Ev.step (fun k => coppicerref_MachineCheck.j4.eq_2 _ _ _ _ _ _ k) ?_
  cases b with
  | true => simp only [if_true]; exact Ev.now _
  | false =>
    obtain ⟨n, rfl⟩ := Int.eq_ofNat_of_zero_le (show 0 ≤ N by omega)
    have e : ((2 : Int) ^ n) = ((2 ^ n : Nat) : Int) := by simp
    simp (disch := omega) only [Bool.false_eq_true, if_false, u64_id, if_pos (show 0 ≤ (n : Int) by omega), shl1 n (by omega), Int.toNat_natCast, e]
    by_cases q : f ≥ ((2 ^ n : Nat) : Int)
    · simp only [if_pos q]; exact Ev.now _
    · simp only [if_neg q]; exact Ev.now _
theorem rmach_l2 (N K : Int) (next : List (List Int)) (st f : Int) (R : Int) (all : List (List Int)) (n j : Int) (row : List Int) (hl : row.length ≤ 60) (hbad : (row.any fun x => decide (bad N x)) = true → R = 2) (hok : ¬ (row.any fun x => decide (bad N x)) = true → Ev (fun k => coppicerref_MachineCheck.l1 k all n (wrap64 (j + 1)) N K next st f) R) (d : Nat) : ∀ i : Int, 0 ≤ i → i + d = row.length → ((row.any fun x => decide (bad N x)) = true ↔ ((row.drop i.toNat).any fun x => decide (bad N x)) = true) →
    Ev (fun k => coppicerref_MachineCheck.l2 k all n j row (row.length : Int) i N K next st f) R := by
  induction d with
  | zero =>
    intro i h0 hd he
    refine Ev.step (fun k => coppicerref_MachineCheck.l2.eq_2 _ _ _ _ _ _ _ _ _ _ _ k) ?_
    simp (disch := omega) only [if_neg (show ¬ i < (row.length : Int) by omega)]
    rw [drop_all row _ (by omega)] at he
    exact hok (fun h => by simpa using he.1 h)
  | succ d ih =>
    intro i h0 hd he
    refine Ev.step (fun k => coppicerref_MachineCheck.l2.eq_2 _ _ _ _ _ _ _ _ _ _ _ k) ?_
    rw [drop_rd h0 (by omega)] at he
    simp (disch := omega) only [if_pos (show i < (row.length : Int) by omega), if_pos h0, w64]
    by_cases a : rd row i < 0
    · simp only [if_pos a]; exact Ev.val (hbad (he.2 (by simp [a]))).symm
    · by_cases b : rd row i ≥ N
      · simp only [if_neg a, if_pos b]; exact Ev.val (hbad (he.2 (by simp [b]))).symm
      · simp only [if_neg a, if_neg b]
        exact ih (i + 1) (by omega) (by omega) (by rw [he]; simp [a, b])
theorem rmach_l1 (N K : Int) (next : List (List Int)) (st f : Int) (hN0 : 1 ≤ N) (hN1 : N ≤ 7) (all : List (List Int)) (ha : all.length ≤ 60) (hrow : ∀ x ∈ all, x.length ≤ 60) (d : Nat) : ∀ i : Int, 0 ≤ i → i + d = all.length →
    Ev (fun k => coppicerref_MachineCheck.l1 k all (all.length : Int) i N K next st f) (if ((all.drop i.toNat).flatten.any fun x => decide (bad N x)) = true ∨ bad N st then 2 else if f ≥ 2 ^ N.toNat then 4 else 0) := by
  induction d with
  | zero =>
    intro i h0 hd
    refine Ev.step (fun k => coppicerref_MachineCheck.l1.eq_2 _ _ _ _ _ _ _ _ k) ?_
    simp (disch := omega) only [if_neg (show ¬ i < (all.length : Int) by omega)]
    rw [List.drop_eq_nil_of_le (by omega)]
    by_cases a : st < 0
    · simp only [if_pos a]
      have := rmach_j4 N K next st f hN0 hN1 true
      rw [if_pos rfl] at this
      rw [if_pos (.inr (.inl a))]; exact this
    · simp only [if_neg a]
      have := rmach_j4 N K next st f hN0 hN1 (decide (st ≥ N))
      by_cases b : st ≥ N
      · rw [if_pos (decide_eq_true b)] at this
        rw [if_pos (.inr (.inr b))]; exact this
      · rw [if_neg (by simpa using b)] at this
        rw [if_neg (by simp [bad]; omega)]; exact this
  | succ d ih =>
    intro i h0 hd
    refine Ev.step (fun k => coppicerref_MachineCheck.l1.eq_2 _ _ _ _ _ _ _ _ k) ?_
    rw [drop_rdL h0 (by omega), List.flatten_cons]
    simp (disch := omega) only [if_pos (show i < (all.length : Int) by omega), if_pos h0]
    refine rmach_l2 N K next st f _ all _ i _ (hrow _ (rdL_mem h0 (by omega))) ?_ ?_ (rd_L1 all i).length 0 (by omega) (by omega) (by simp)
    · intro h
      rw [if_pos (.inl (by rw [List.any_append, h]; rfl))]
    · intro h
      have h' : ((rd_L1 all i).any fun x => decide (bad N x)) = false := by simpa using h
      rw [List.any_append, h', Bool.false_or, w64 (by omega) (by omega)]
      exact ih (i + 1) (by omega) (by omega)
theorem rmach_l0 (N K : Int) (st f : Int) (hN0 : 1 ≤ N) (hN1 : N ≤ 7) (hK : 1 ≤ K ∧ K ≤ 3) (next : List (List Int)) (hn : next.length ≤ 60) (d : Nat) : ∀ i : Int, 0 ≤ i → i + d = next.length → (∀ x ∈ next, ((x.length : Int) = K ∨ x ∈ next.drop i.toNat)) →
    Ev (fun k => coppicerref_MachineCheck.l0 k next (next.length : Int) i N K next st f) (if ((next.drop i.toNat).any fun l => decide ((l.length : Int) ≠ K)) = true then 3 else if (next.flatten.any fun x => decide (bad N x)) = true ∨ bad N st then 2 else if f ≥ 2 ^ N.toNat then 4 else 0) := by
  induction d with
  | zero =>
    intro i h0 hd hr
    refine Ev.step (fun k => coppicerref_MachineCheck.l0.eq_2 _ _ _ _ _ _ _ _ k) ?_
    simp (disch := omega) only [if_neg (show ¬ i < (next.length : Int) by omega)]
    rw [List.drop_eq_nil_of_le (by omega)] at hr ⊢
    rw [if_neg (by simp)]
    have := rmach_l1 N K next st f hN0 hN1 next hn (fun x hx => by
      rcases hr x hx with q | q
      · omega
      · simp at q) next.length 0 (by omega) (by omega)
    simpa using this
  | succ d ih =>
    intro i h0 hd hr
    refine Ev.step (fun k => coppicerref_MachineCheck.l0.eq_2 _ _ _ _ _ _ _ _ k) ?_
    rw [drop_rdL h0 (by omega)] at hr ⊢
    simp (disch := omega) only [if_pos (show i < (next.length : Int) by omega), if_pos h0, w64]
    by_cases c : ((rd_L1 next i).length : Int) = K
    · simp only [if_pos c]
      have := ih (i + 1) (by omega) (by omega) (fun x hx => by
        rcases hr x hx with q | q
        · exact .inl q
        · rcases List.mem_cons.1 q with q | q
          · rw [q]; exact .inl c
          · exact .inr q)
      rw [List.any_cons, show decide (((rd_L1 next i).length : Int) ≠ K) = false from by simp [c], Bool.false_or]
      exact this
    · simp only [if_neg c]
      exact Ev.val (by rw [if_pos (by simp [c])])
theorem rmach_ev (N K : Int) (next : List (List Int)) (st f : Int) : Ev (fun k => coppicerref_MachineCheck.f k N K next st f) (machCode N K next st f) := by
  unfold coppicerref_MachineCheck.f
  have wrong : (N < 1 ∨ N > 7 ∨ K < 1 ∨ K > 3) → Ev (fun k => coppicerref_MachineCheck.j0 k true N K next st f) (machCode N K next st f) := by
    intro h
    unfold machCode; rw [if_pos h]
    refine Ev.step (fun k => coppicerref_MachineCheck.j0.eq_2 _ _ _ _ _ _ k) ?_
    simp only [if_true]; exact Ev.now _
  by_cases c1 : N < 1
  · simp only [if_pos c1]; exact wrong (by omega)
  by_cases c2 : N > 7
  · simp only [if_neg c1, if_pos c2]; exact wrong (by omega)
  by_cases c3 : K < 1
  · simp only [if_neg c1, if_neg c2, if_pos c3]; exact wrong (by omega)
  simp only [if_neg c1, if_neg c2, if_neg c3]
  by_cases c4 : K > 3
  · simp only [c4, decide_true]; exact wrong (by omega)
  · simp only [c4, decide_false]
    unfold machCode; rw [if_neg (by omega)]
    refine Ev.step (fun k => coppicerref_MachineCheck.j0.eq_2 _ _ _ _ _ _ k) ?_
    simp only [Bool.false_eq_true, if_false]
    by_cases c5 : (next.length : Int) = N
    · simp only [if_pos c5]
      have := rmach_l0 N K st f (by omega) (by omega) ⟨by omega, by omega⟩ next (by omega) next.length 0 (by omega) (by omega) (fun x hx => .inr (by simpa using hx))
      rw [Int.toNat_zero, List.drop_zero] at this
      by_cases c6 : (next.any fun l => decide ((l.length : Int) ≠ K)) = true
      · rw [if_pos c6] at this
        rw [if_pos (.inr c6)]; exact this
      · rw [if_neg c6] at this
        rw [if_neg (fun h => h.elim (fun a => a c5) c6)]; exact this
    · simp only [if_neg c5]
      exact Ev.val (by rw [if_pos (.inl c5)])

theorem MachineChecks : coppicerlaw_MachineChecks.Pure := by
  intro N K next st f hN hK hx hst hf
  have hf := wf_u32 hf
  refine Ev.rounds (g := fun k => coppicerlaw_MachineChecks.f k N K next st f) ?_
  unfold coppicerlaw_MachineChecks.f
  exact Ev.bind (machCheck_ev N K next st f hf.1) (Ev.bind (rmach_ev N K next st f) (Ev.val (by simp)))

end Go.Proofs.Ytidjihmlkaeemaa.Pure
